/- The law of spans answers true: its walk, where the marks are great. -/
import Derived.Test.YtkhilhgpkfecaaaMl
namespace Go.Proofs.Ytkhilhgpkfecaaa.Mk
open Go.RowKit Go.Proofs.YtkhilhgpkfecaaaW.PrintWords Go.Proofs.YtkhilhgpkfecaaaW.PrintLast Go.Proofs.YtkhilhgpkfecaaaW.PrintMore Go.Proofs.Ytkhilhgpkfecaaa.PMarksSpans Go.Proofs.Ytkhilhgpkfecaaa.Pl
set_option linter.unusedVariables false
set_option linter.unusedSimpArgs false

set_option maxRecDepth 100000 in
set_option maxHeartbeats 4000000 in
theorem law_great_m (m0 q0 f t n : Int) (l1 k1 : List ByteArray) (l2 k2 : List Int) (l3 k3 : List S38) (A1 : Option Addr) (n1 c1 : Nat) (A2 : Option Addr) (n2 c2 : Nat) (A3 : Option Addr) (n3 c3 : Nat)
    (Q1 : Option Addr) (j1 g1 : Nat) (Q2 : Option Addr) (j2 g2 : Nat) (Q3 : Option Addr) (j3 g3 : Nat) (w : World) (hm : Rd w l1 l2 l3 A1 n1 c1 A2 n2 c2 A3 n3 c3) (hq : Rd w k1 k2 k3 Q1 j1 g1 Q2 j2 g2 Q3 j3 g3)
    (hgm : pleacherlaw25_Great.f 400 m0 l1 l2 l3 = some true) :
    Calls Try.prog 3 #[.agg #[.int .i64 m0, .slice A1 n1 c1, .slice A2 n2 c2, .slice A3 n3 c3], .agg #[.int .i64 q0, .slice Q1 j1 g1, .slice Q2 j2 g2, .slice Q3 j3 g3], .int .i64 f, .int .i64 t, .int .i64 n] w fun e w' => e = .returned (.bool true) ∧ Below w.heap.size w w' := by
  have HGm := Aside0.mk hgm
  clear hgm
  have hu26 := Try.underlying26
  have hu38 := Try.underlying38
  have HM := Aside0.mk hm
  have HQ := Aside0.mk hq
  clear hm hq
  go_enter Try.func3, Try.ntmps3
  go_wp2_with fail
  obtain ⟨y1, y2, y3⟩ := alloc2 w (.cells #[.int .i64 m0, .slice A1 n1 c1, .slice A2 n2 c2, .slice A3 n3 c3] 26 (0, 0)) (.cells #[.int .i64 q0, .slice Q1 j1 g1, .slice Q2 j2 g2, .slice Q3 j3 g3] 26 (0, 0))
  generalize (w.alloc (.cells #[.int .i64 m0, .slice A1 n1 c1, .slice A2 n2 c2, .slice A3 n3 c3] 26)).alloc (.cells #[.int .i64 q0, .slice Q1 j1 g1, .slice Q2 j2 g2, .slice Q3 j3 g3] 26) = w0 at y1 y2 y3 ⊢
  have K5w0 := Aside0.mk (y1)
  have K6w0 := Aside0.mk (y2)
  have Bw0 := Aside0.mk (y3)
  have Mw0 := Aside0.mk (HM.out.below y3)
  have Qw0 := Aside0.mk (HQ.out.below y3)
  clear y1 y2 y3
  refine (alive_true w0).mono ?_
  rintro e w1 ⟨rfl, hb⟩
  have K5w1 := Aside0.mk (blk_below K5w0.out hb)
  have K6w1 := Aside0.mk (blk_below K6w0.out hb)
  have Bw1 := Aside0.mk (below_step Bw0.out hb)
  have Mw1 := Aside0.mk (Rd.below Mw0.out hb)
  have Qw1 := Aside0.mk (Rd.below Qw0.out hb)
  clear K5w0 K6w0 Bw0 Mw0 Qw0 hb
  have xlt := blk_lt K5w1.out
  have x0 := (blk_cell K5w1.out 0).trans (show _ = some (Value.int .i64 m0) from rfl)
  have x1 := (blk_cell K5w1.out 1).trans (show _ = some (Value.slice A1 n1 c1) from rfl)
  have x2 := (blk_cell K5w1.out 2).trans (show _ = some (Value.slice A2 n2 c2) from rfl)
  have x3 := (blk_cell K5w1.out 3).trans (show _ = some (Value.slice A3 n3 c3) from rfl)
  go_wp2_with fail
  clear xlt x0 x1 x2 x3
  refine (great5 m0 Mw1.out true HGm.out).mono ?_
  rintro e w2 ⟨rfl, hb⟩
  have K5w2 := Aside0.mk (blk_below K5w1.out hb)
  have K6w2 := Aside0.mk (blk_below K6w1.out hb)
  have Bw2 := Aside0.mk (below_step Bw1.out hb)
  have Mw2 := Aside0.mk (Rd.below Mw1.out hb)
  have Qw2 := Aside0.mk (Rd.below Qw1.out hb)
  clear K5w1 K6w1 Bw1 Mw1 Qw1 hb
  go_wp2
  go_ret
  exact ⟨rfl, Bw2.out⟩

set_option maxRecDepth 100000 in
set_option maxHeartbeats 4000000 in
theorem law_great_q (m0 q0 f t n : Int) (l1 k1 : List ByteArray) (l2 k2 : List Int) (l3 k3 : List S38) (A1 : Option Addr) (n1 c1 : Nat) (A2 : Option Addr) (n2 c2 : Nat) (A3 : Option Addr) (n3 c3 : Nat)
    (Q1 : Option Addr) (j1 g1 : Nat) (Q2 : Option Addr) (j2 g2 : Nat) (Q3 : Option Addr) (j3 g3 : Nat) (w : World) (hm : Rd w l1 l2 l3 A1 n1 c1 A2 n2 c2 A3 n3 c3) (hq : Rd w k1 k2 k3 Q1 j1 g1 Q2 j2 g2 Q3 j3 g3)
    (hgm : pleacherlaw25_Great.f 400 m0 l1 l2 l3 = some false) (hgq : pleacherlaw25_Great.f 400 q0 k1 k2 k3 = some true) :
    Calls Try.prog 3 #[.agg #[.int .i64 m0, .slice A1 n1 c1, .slice A2 n2 c2, .slice A3 n3 c3], .agg #[.int .i64 q0, .slice Q1 j1 g1, .slice Q2 j2 g2, .slice Q3 j3 g3], .int .i64 f, .int .i64 t, .int .i64 n] w fun e w' => e = .returned (.bool true) ∧ Below w.heap.size w w' := by
  have HGm := Aside0.mk hgm
  have HGq := Aside0.mk hgq
  clear hgm hgq
  have hu26 := Try.underlying26
  have hu38 := Try.underlying38
  have HM := Aside0.mk hm
  have HQ := Aside0.mk hq
  clear hm hq
  go_enter Try.func3, Try.ntmps3
  go_wp2_with fail
  obtain ⟨y1, y2, y3⟩ := alloc2 w (.cells #[.int .i64 m0, .slice A1 n1 c1, .slice A2 n2 c2, .slice A3 n3 c3] 26 (0, 0)) (.cells #[.int .i64 q0, .slice Q1 j1 g1, .slice Q2 j2 g2, .slice Q3 j3 g3] 26 (0, 0))
  generalize (w.alloc (.cells #[.int .i64 m0, .slice A1 n1 c1, .slice A2 n2 c2, .slice A3 n3 c3] 26)).alloc (.cells #[.int .i64 q0, .slice Q1 j1 g1, .slice Q2 j2 g2, .slice Q3 j3 g3] 26) = w0 at y1 y2 y3 ⊢
  have K5w0 := Aside0.mk (y1)
  have K6w0 := Aside0.mk (y2)
  have Bw0 := Aside0.mk (y3)
  have Mw0 := Aside0.mk (HM.out.below y3)
  have Qw0 := Aside0.mk (HQ.out.below y3)
  clear y1 y2 y3
  refine (alive_true w0).mono ?_
  rintro e w1 ⟨rfl, hb⟩
  have K5w1 := Aside0.mk (blk_below K5w0.out hb)
  have K6w1 := Aside0.mk (blk_below K6w0.out hb)
  have Bw1 := Aside0.mk (below_step Bw0.out hb)
  have Mw1 := Aside0.mk (Rd.below Mw0.out hb)
  have Qw1 := Aside0.mk (Rd.below Qw0.out hb)
  clear K5w0 K6w0 Bw0 Mw0 Qw0 hb
  have xlt := blk_lt K5w1.out
  have x0 := (blk_cell K5w1.out 0).trans (show _ = some (Value.int .i64 m0) from rfl)
  have x1 := (blk_cell K5w1.out 1).trans (show _ = some (Value.slice A1 n1 c1) from rfl)
  have x2 := (blk_cell K5w1.out 2).trans (show _ = some (Value.slice A2 n2 c2) from rfl)
  have x3 := (blk_cell K5w1.out 3).trans (show _ = some (Value.slice A3 n3 c3) from rfl)
  go_wp2_with fail
  clear xlt x0 x1 x2 x3
  refine (great5 m0 Mw1.out false HGm.out).mono ?_
  rintro e w2 ⟨rfl, hb⟩
  have K5w2 := Aside0.mk (blk_below K5w1.out hb)
  have K6w2 := Aside0.mk (blk_below K6w1.out hb)
  have Bw2 := Aside0.mk (below_step Bw1.out hb)
  have Mw2 := Aside0.mk (Rd.below Mw1.out hb)
  have Qw2 := Aside0.mk (Rd.below Qw1.out hb)
  clear K5w1 K6w1 Bw1 Mw1 Qw1 hb
  have xlt := blk_lt K6w2.out
  have x0 := (blk_cell K6w2.out 0).trans (show _ = some (Value.int .i64 q0) from rfl)
  have x1 := (blk_cell K6w2.out 1).trans (show _ = some (Value.slice Q1 j1 g1) from rfl)
  have x2 := (blk_cell K6w2.out 2).trans (show _ = some (Value.slice Q2 j2 g2) from rfl)
  have x3 := (blk_cell K6w2.out 3).trans (show _ = some (Value.slice Q3 j3 g3) from rfl)
  go_wp2_with fail
  clear xlt x0 x1 x2 x3
  refine (great5 q0 Qw2.out true HGq.out).mono ?_
  rintro e w3 ⟨rfl, hb⟩
  have K5w3 := Aside0.mk (blk_below K5w2.out hb)
  have K6w3 := Aside0.mk (blk_below K6w2.out hb)
  have Bw3 := Aside0.mk (below_step Bw2.out hb)
  have Mw3 := Aside0.mk (Rd.below Mw2.out hb)
  have Qw3 := Aside0.mk (Rd.below Qw2.out hb)
  clear K5w2 K6w2 Bw2 Mw2 Qw2 hb
  go_wp2
  go_ret
  exact ⟨rfl, Bw3.out⟩

end Go.Proofs.Ytkhilhgpkfecaaa.Mk
