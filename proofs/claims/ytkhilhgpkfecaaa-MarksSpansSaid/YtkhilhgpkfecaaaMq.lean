/- The law of spans answers true, whatever marks are read and whatever the numbers are: its walk's cases joined. -/
import Derived.Test.YtkhilhgpkfecaaaMm
import Derived.Test.YtkhilhgpkfecaaaMn
import Derived.Test.YtkhilhgpkfecaaaMo
import Derived.Test.YtkhilhgpkfecaaaMp
namespace Go.Proofs.Ytkhilhgpkfecaaa.Mk
open Go.RowKit Go.Proofs.YtkhilhgpkfecaaaW.PrintWords Go.Proofs.Ytkhilhgpkfecaaa.PMarksSpans Go.Proofs.Ytkhilhgpkfecaaa.Pl

theorem law_true (m0 q0 f t n : Int) (l1 k1 : List ByteArray) (l2 k2 : List Int) (l3 k3 : List S38) (A1 : Option Addr) (n1 c1 : Nat) (A2 : Option Addr) (n2 c2 : Nat) (A3 : Option Addr) (n3 c3 : Nat)
    (Q1 : Option Addr) (j1 g1 : Nat) (Q2 : Option Addr) (j2 g2 : Nat) (Q3 : Option Addr) (j3 g3 : Nat) (w : World) (hm : Rd w l1 l2 l3 A1 n1 c1 A2 n2 c2 A3 n3 c3) (hq : Rd w k1 k2 k3 Q1 j1 g1 Q2 j2 g2 Q3 j3 g3) :
    Calls Try.prog 3 #[.agg #[.int .i64 m0, .slice A1 n1 c1, .slice A2 n2 c2, .slice A3 n3 c3], .agg #[.int .i64 q0, .slice Q1 j1 g1, .slice Q2 j2 g2, .slice Q3 j3 g3], .int .i64 f, .int .i64 t, .int .i64 n] w
      fun e w' => e = .returned (.bool true) ∧ Below w.heap.size w w' := by
  obtain ⟨r, hr, hb⟩ := great_f m0 l1 l2 l3
  cases r with
  | true => exact law_great_m m0 q0 f t n l1 k1 l2 k2 l3 k3 A1 n1 c1 A2 n2 c2 A3 n3 c3 Q1 j1 g1 Q2 j2 g2 Q3 j3 g3 w hm hq hr
  | false =>
    obtain ⟨s, hs, _⟩ := great_f q0 k1 k2 k3
    cases s with
    | true => exact law_great_q m0 q0 f t n l1 k1 l2 k2 l3 k3 A1 n1 c1 A2 n2 c2 A3 n3 c3 Q1 j1 g1 Q2 j2 g2 Q3 j3 g3 w hm hq hr hs
    | false =>
      obtain ⟨b1, b2, b3⟩ := hb rfl
      have e1 := hm.e1
      have e2 := hm.e2
      have e3 := hm.e3
      cases n3 with
      | zero =>
        cases hp : spanB f t n with
        | false => exact law_none_bad m0 q0 f t n l1 k1 l2 k2 l3 k3 A1 n1 c1 A2 n2 c2 A3 c3 Q1 j1 g1 Q2 j2 g2 Q3 j3 g3 w hm hq hr hs (by omega) (by omega) (by omega) hp
        | true => exact law_none_ok m0 q0 f t n l1 k1 l2 k2 l3 k3 A1 n1 c1 A2 n2 c2 A3 c3 Q1 j1 g1 Q2 j2 g2 Q3 j3 g3 w hm hq hr hs (by omega) (by omega) (by omega) hp (by omega)
      | succ m =>
        obtain ⟨ad, rfl, _⟩ := hm.r3.2.2 (by omega)
        cases hp : spanB f t n with
        | false => exact law_some_bad m0 q0 f t n l1 k1 l2 k2 l3 k3 A1 n1 c1 A2 n2 c2 ad m c3 Q1 j1 g1 Q2 j2 g2 Q3 j3 g3 w hm hq hr hs (by omega) (by omega) (by omega) hp
        | true =>
          by_cases hf : 32 ≤ m + 1
          · exact law_some_full m0 q0 f t n l1 k1 l2 k2 l3 k3 A1 n1 c1 A2 n2 c2 ad m c3 Q1 j1 g1 Q2 j2 g2 Q3 j3 g3 w hm hq hr hs (by omega) (by omega) (by omega) hp hf
          · exact law_some_ok m0 q0 f t n l1 k1 l2 k2 l3 k3 A1 n1 c1 A2 n2 c2 ad m c3 Q1 j1 g1 Q2 j2 g2 Q3 j3 g3 w hm hq hr hs (by omega) (by omega) (by omega) hp (by omega)
end Go.Proofs.Ytkhilhgpkfecaaa.Mk
