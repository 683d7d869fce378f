/- Words for the law's walk: marks that are read, marks of the call's own, and the contracts of Great, Same and Top over them. -/
import Derived.Test.YtkhilhgpkfecaaaMk
import Derived.Test.YtkhilhgpkfecaaaPl
namespace Go.Proofs.Ytkhilhgpkfecaaa.Mk
open Go.RowKit Go.Proofs.YtkhilhgpkfecaaaW.PrintWords Go.Proofs.YtkhilhgpkfecaaaW.PrintLast Go.Proofs.YtkhilhgpkfecaaaW.PrintMore Go.Proofs.Ytkhilhgpkfecaaa.PMarksSpans Go.Proofs.Ytkhilhgpkfecaaa.Pl

/-- Three lists that are read. -/
structure Rd (w : World) (l1 : List ByteArray) (l2 : List Int) (l3 : List S38) (A1 : Option Addr) (n1 c1 : Nat) (A2 : Option Addr) (n2 c2 : Nat) (A3 : Option Addr) (n3 c3 : Nat) : Prop where
  e1 : l1.length = n1
  e2 : l2.length = n2
  e3 : l3.length = n3
  h1 : n1 ≤ c1
  h2 : n2 ≤ c2
  h3 : n3 ≤ c3
  r1 : Kd.string.C w A1 l1.length l1
  r2 : (Kd.int .i64).C w A2 l2.length l2
  r3 : k38.C w A3 l3.length l3
theorem Rd.below {w w' : World} {l1 : List ByteArray} {l2 : List Int} {l3 : List S38} {A1 : Option Addr} {n1 c1 : Nat} {A2 : Option Addr} {n2 c2 : Nat} {A3 : Option Addr} {n3 c3 : Nat}
    (h : Rd w l1 l2 l3 A1 n1 c1 A2 n2 c2 A3 n3 c3) (hb : Below w.heap.size w w') : Rd w' l1 l2 l3 A1 n1 c1 A2 n2 c2 A3 n3 c3 :=
  ⟨h.e1, h.e2, h.e3, h.h1, h.h2, h.h3, Kd.C_below h.r1 hb, Kd.C_below h.r2 hb, Kd.C_below h.r3 hb⟩
theorem Rd.zero (w : World) : Rd w [] [] [] none 0 0 none 0 0 none 0 0 :=
  ⟨rfl, rfl, rfl, Nat.le_refl _, Nat.le_refl _, Nat.le_refl _, Kd.C_nil _ _, Kd.C_nil _ _, Kd.C_nil _ _⟩
/-- Three lists of the call's own. -/
structure Rw (w : World) (base : Nat) (l1 : List ByteArray) (l2 : List Int) (l3 : List S38) (A1 : Option Addr) (n1 c1 : Nat) (A2 : Option Addr) (n2 c2 : Nat) (A3 : Option Addr) (n3 c3 : Nat) : Prop where
  r1 : Kd.string.R 9 w base (fun _ => True) (.slice A1 n1 c1) l1
  r2 : (Kd.int .i64).R 3 w base (fun _ => True) (.slice A2 n2 c2) l2
  r3 : k38.R 38 w base (fun _ => True) (.slice A3 n3 c3) l3
section
variable {w w' : World} {base base' : Nat} {l1 : List ByteArray} {l2 : List Int} {l3 : List S38} {A1 : Option Addr} {n1 c1 : Nat} {A2 : Option Addr} {n2 c2 : Nat} {A3 : Option Addr} {n3 c3 : Nat}
theorem Rw.below (h : Rw w base l1 l2 l3 A1 n1 c1 A2 n2 c2 A3 n3 c3) (hb : Below w.heap.size w w') : Rw w' base l1 l2 l3 A1 n1 c1 A2 n2 c2 A3 n3 c3 :=
  ⟨Kd.R_below h.r1 hb, Kd.R_below h.r2 hb, Kd.R_below h.r3 hb⟩
theorem Rw.lower (h : Rw w base l1 l2 l3 A1 n1 c1 A2 n2 c2 A3 n3 c3) (hb : base' ≤ base) : Rw w base' l1 l2 l3 A1 n1 c1 A2 n2 c2 A3 n3 c3 :=
  ⟨Kd.R_lower h.r1 hb, Kd.R_lower h.r2 hb, Kd.R_lower h.r3 hb⟩
theorem Rw.kept (h : Rw w base l1 l2 l3 A1 n1 c1 A2 n2 c2 A3 n3 c3) {g : Nat} {cells : Array Value} (hb : w.heap[g]? = some (.cells cells 26 (0, 0))) (hk : KeepBut w w' g none) : Rw w' base l1 l2 l3 A1 n1 c1 A2 n2 c2 A3 n3 c3 :=
  ⟨R_keptBut h.r1 hb (by decide) hk, R_keptBut h.r2 hb (by decide) hk, R_keptBut h.r3 hb (by decide) hk⟩
theorem Rw.rd (h : Rw w base l1 l2 l3 A1 n1 c1 A2 n2 c2 A3 n3 c3) : Rd w l1 l2 l3 A1 n1 c1 A2 n2 c2 A3 n3 c3 :=
  ⟨(Kd.R_reads' h.r1).1.symm, (Kd.R_reads' h.r2).1.symm, (Kd.R_reads' h.r3).1.symm, (Kd.R_reads' h.r1).2.1, (Kd.R_reads' h.r2).2.1, (Kd.R_reads' h.r3).2.1, (Kd.R_reads' h.r1).2.2, (Kd.R_reads' h.r2).2.2, (Kd.R_reads' h.r3).2.2⟩
end
section
variable {w : World} {x0 y0 : Int} {l1 k1 : List ByteArray} {l2 k2 : List Int} {l3 k3 : List S38} {A1 : Option Addr} {n1 c1 : Nat} {A2 : Option Addr} {n2 c2 : Nat} {A3 : Option Addr} {n3 c3 : Nat}
  {D1 : Option Addr} {m1 d1 : Nat} {D2 : Option Addr} {m2 d2 : Nat} {D3 : Option Addr} {m3 d3 : Nat}
theorem same11 (x0 y0 : Int) (hx : Rd w l1 l2 l3 A1 n1 c1 A2 n2 c2 A3 n3 c3) (hy : Rd w k1 k2 k3 D1 m1 d1 D2 m2 d2 D3 m3 d3) (b1 : n1 ≤ 100) (b2 : n2 ≤ 100) (b3 : n3 ≤ 100) :
    Calls Try.prog 11 #[.agg #[.int .i64 x0, .slice A1 n1 c1, .slice A2 n2 c2, .slice A3 n3 c3], .agg #[.int .i64 y0, .slice D1 m1 d1, .slice D2 m2 d2, .slice D3 m3 d3]] w fun e w' =>
      e = .returned (.bool (sameB x0 l1 l2 l3 y0 k1 k2 k3)) ∧ Below w.heap.size w w' := by
  obtain ⟨rfl, rfl, rfl, h1, h2, h3, r1, r2, r3⟩ := hx
  obtain ⟨rfl, rfl, rfl, g1, g2, g3, s1, s2, s3⟩ := hy
  exact pleacherref25_Same.calls 400 x0 A1 c1 l1 A2 c2 l2 A3 c3 l3 y0 D1 d1 k1 D2 d2 k2 D3 d3 k3 _ w r1 h1 r2 h2 r3 h3 s1 g1 s2 g2 s3 g3 (ref_Same_f x0 l1 l2 l3 y0 k1 k2 k3 b1 b2 b3)
theorem same10 (x0 y0 : Int) (hx : Rd w l1 l2 l3 A1 n1 c1 A2 n2 c2 A3 n3 c3) (hy : Rd w k1 k2 k3 D1 m1 d1 D2 m2 d2 D3 m3 d3) (b1 : n1 ≤ 100) (b2 : n2 ≤ 100) (b3 : n3 ≤ 100) :
    Calls Try.prog 10 #[.agg #[.int .i64 x0, .slice A1 n1 c1, .slice A2 n2 c2, .slice A3 n3 c3], .agg #[.int .i64 y0, .slice D1 m1 d1, .slice D2 m2 d2, .slice D3 m3 d3]] w fun e w' =>
      e = .returned (.bool (sameB x0 l1 l2 l3 y0 k1 k2 k3)) ∧ Below w.heap.size w w' := by
  obtain ⟨rfl, rfl, rfl, h1, h2, h3, r1, r2, r3⟩ := hx
  obtain ⟨rfl, rfl, rfl, g1, g2, g3, s1, s2, s3⟩ := hy
  exact marks_Same.calls 400 x0 A1 c1 l1 A2 c2 l2 A3 c3 l3 y0 D1 d1 k1 D2 d2 k2 D3 d3 k3 _ w r1 h1 r2 h2 r3 h3 s1 g1 s2 g2 s3 g3 (marks_Same_f x0 l1 l2 l3 y0 k1 k2 k3 (by omega) (by omega) (by omega))
theorem same10_refl (x0 : Int) (hx : Rd w l1 l2 l3 A1 n1 c1 A2 n2 c2 A3 n3 c3) (hy : Rd w l1 l2 l3 D1 m1 d1 D2 m2 d2 D3 m3 d3) (b1 : n1 ≤ 100) (b2 : n2 ≤ 100) (b3 : n3 ≤ 100) :
    Calls Try.prog 10 #[.agg #[.int .i64 x0, .slice A1 n1 c1, .slice A2 n2 c2, .slice A3 n3 c3], .agg #[.int .i64 x0, .slice D1 m1 d1, .slice D2 m2 d2, .slice D3 m3 d3]] w fun e w' =>
      e = .returned (.bool true) ∧ Below w.heap.size w w' := by
  have h := same10 x0 x0 hx hy b1 b2 b3
  rw [sameB_self] at h
  exact h
theorem same11_refl (x0 : Int) (hx : Rd w l1 l2 l3 A1 n1 c1 A2 n2 c2 A3 n3 c3) (hy : Rd w l1 l2 l3 D1 m1 d1 D2 m2 d2 D3 m3 d3) (b1 : n1 ≤ 100) (b2 : n2 ≤ 100) (b3 : n3 ≤ 100) :
    Calls Try.prog 11 #[.agg #[.int .i64 x0, .slice A1 n1 c1, .slice A2 n2 c2, .slice A3 n3 c3], .agg #[.int .i64 x0, .slice D1 m1 d1, .slice D2 m2 d2, .slice D3 m3 d3]] w fun e w' =>
      e = .returned (.bool true) ∧ Below w.heap.size w w' := by
  have h := same11 x0 x0 hx hy b1 b2 b3
  rw [sameB_self] at h
  exact h
theorem great5 (x0 : Int) (hx : Rd w l1 l2 l3 A1 n1 c1 A2 n2 c2 A3 n3 c3) (r : Bool) (hr : pleacherlaw25_Great.f 400 x0 l1 l2 l3 = some r) :
    Calls Try.prog 5 #[.agg #[.int .i64 x0, .slice A1 n1 c1, .slice A2 n2 c2, .slice A3 n3 c3]] w fun e w' => e = .returned (.bool r) ∧ Below w.heap.size w w' := by
  obtain ⟨rfl, rfl, rfl, h1, h2, h3, r1, r2, r3⟩ := hx
  exact pleacherlaw25_Great.calls 400 x0 A1 c1 l1 A2 c2 l2 A3 c3 l3 r w r1 h1 r2 h2 r3 h3 hr
theorem top9 (x0 : Int) (hx : Rd w l1 l2 l3 A1 n1 c1 A2 n2 c2 A3 n3 c3) (a b : Int) (r : Bool) (hr : marks_Top.f x0 l1 l2 l3 = some (a, b, r)) :
    Calls Try.prog 9 #[.agg #[.int .i64 x0, .slice A1 n1 c1, .slice A2 n2 c2, .slice A3 n3 c3]] w fun e w' => e = .returned (.tuple #[.int .i64 a, .int .i64 b, .bool r]) ∧ Below w.heap.size w w' := by
  obtain ⟨rfl, rfl, rfl, h1, h2, h3, r1, r2, r3⟩ := hx
  exact marks_Top.calls x0 A1 c1 l1 A2 c2 l2 A3 c3 l3 a b r w r1 h1 r2 h2 r3 h3 hr
/-- What pleacherref25.Copy leaves, in these words. -/
def Copied (x0 : Int) (l1 : List ByteArray) (l2 : List Int) (l3 : List S38) (n1 n2 n3 : Nat) (w : World) (e : Ending) (w' : World) : Prop :=
  ∃ O1 o1 O2 o2 O3 o3, e = .returned (.agg #[.int .i64 x0, .slice O1 n1 o1, .slice O2 n2 o2, .slice O3 n3 o3]) ∧ Rw w' w.heap.size l1 l2 l3 O1 n1 o1 O2 n2 o2 O3 n3 o3 ∧ Below w.heap.size w w'
theorem copy6 (x0 : Int) (hx : Rd w l1 l2 l3 A1 n1 c1 A2 n2 c2 A3 n3 c3) (b1 : n1 ≤ 100) (b2 : n2 ≤ 100) (b3 : n3 ≤ 100) :
    Calls Try.prog 6 #[.agg #[.int .i64 x0, .slice A1 n1 c1, .slice A2 n2 c2, .slice A3 n3 c3]] w fun e w' => Copied x0 l1 l2 l3 n1 n2 n3 w e w' := by
  obtain ⟨rfl, rfl, rfl, h1, h2, h3, r1, r2, r3⟩ := hx
  refine (copy_any x0 A1 c1 l1 A2 c2 l2 A3 c3 l3 w r1 r2 r3 (by omega) (by omega) (by omega)).mono ?_
  rintro e w' ⟨O1, o1, O2, o2, O3, o3, he, s1, s2, s3, hb⟩
  exact ⟨O1, o1, O2, o2, O3, o3, he, ⟨s1, s2, s3⟩, hb⟩
/-- Marks and a code, in these words. -/
def Told (x0 : Int) (l1 : List ByteArray) (l2 : List Int) (l3 : List S38) (n1 n2 n3 : Nat) (code : Int) (w : World) (e : Ending) (w' : World) : Prop :=
  ∃ O1 o1 O2 o2 O3 o3, e = .returned (.tuple #[.agg #[.int .i64 x0, .slice O1 n1 o1, .slice O2 n2 o2, .slice O3 n3 o3], .int .i64 code]) ∧ Rw w' w.heap.size l1 l2 l3 O1 n1 o1 O2 n2 o2 O3 n3 o3 ∧ Below w.heap.size w w'
theorem MarksRet.told {w' : World} {e : Ending} {code : Int} (h : MarksRet x0 l1 l2 l3 code w e w') (e1 : l1.length = n1) (e2 : l2.length = n2) (e3 : l3.length = n3) : Told x0 l1 l2 l3 n1 n2 n3 code w e w' := by
  subst e1
  subst e2
  subst e3
  obtain ⟨O1, o1, O2, o2, O3, o3, he, s1, s2, s3, hb⟩ := h
  exact ⟨O1, o1, O2, o2, O3, o3, he, ⟨s1, s2, s3⟩, hb⟩
theorem push7_bad (x0 : Int) (hx : Rd w l1 l2 l3 A1 n1 c1 A2 n2 c2 A3 n3 c3) (f t n : Int) (hs : spanB f t n = false) :
    Calls Try.prog 7 #[.agg #[.int .i64 x0, .slice A1 n1 c1, .slice A2 n2 c2, .slice A3 n3 c3], .int .i64 f, .int .i64 t, .int .i64 n] w fun e w' => Told 0 [] [] [] 0 0 0 3 w e w' := by
  obtain ⟨rfl, rfl, rfl, h1, h2, h3, r1, r2, r3⟩ := hx
  exact (push_bad x0 A1 c1 l1 A2 c2 l2 A3 c3 l3 f t n w hs).mono fun e w' h => h.told rfl rfl rfl
theorem push7_full (x0 : Int) (hx : Rd w l1 l2 l3 A1 n1 c1 A2 n2 c2 A3 n3 c3) (f t n : Int) (hs : spanB f t n = true) (hl : 32 ≤ n3) (hm : n3 ≤ 100) :
    Calls Try.prog 7 #[.agg #[.int .i64 x0, .slice A1 n1 c1, .slice A2 n2 c2, .slice A3 n3 c3], .int .i64 f, .int .i64 t, .int .i64 n] w fun e w' => Told 0 [] [] [] 0 0 0 13 w e w' := by
  obtain ⟨rfl, rfl, rfl, h1, h2, h3, r1, r2, r3⟩ := hx
  exact (push_full x0 A1 c1 l1 A2 c2 l2 A3 c3 l3 f t n w hs hl (by omega)).mono fun e w' h => h.told rfl rfl rfl
theorem push7_ok (x0 : Int) (hx : Rd w l1 l2 l3 A1 n1 c1 A2 n2 c2 A3 n3 c3) (f t n : Int) (hs : spanB f t n = true) (hl : n3 < 32) (b1 : n1 ≤ 100) (b2 : n2 ≤ 100) :
    Calls Try.prog 7 #[.agg #[.int .i64 x0, .slice A1 n1 c1, .slice A2 n2 c2, .slice A3 n3 c3], .int .i64 f, .int .i64 t, .int .i64 n] w fun e w' => Told x0 l1 l2 (l3 ++ [S38.mk f t]) n1 n2 (n3 + 1) 0 w e w' := by
  obtain ⟨rfl, rfl, rfl, h1, h2, h3, r1, r2, r3⟩ := hx
  exact (push_ok x0 A1 c1 l1 A2 c2 l2 A3 c3 l3 f t n w hs hl r1 r2 r3 (by omega) (by omega)).mono fun e w' h => h.told rfl rfl (by simp)
theorem pop8_none (x0 : Int) (hx : Rd w l1 l2 l3 A1 n1 c1 A2 n2 c2 A3 n3 c3) (hl : n3 = 0) :
    Calls Try.prog 8 #[.agg #[.int .i64 x0, .slice A1 n1 c1, .slice A2 n2 c2, .slice A3 n3 c3]] w fun e w' => Told 0 [] [] [] 0 0 0 9 w e w' := by
  obtain ⟨rfl, rfl, rfl, h1, h2, h3, r1, r2, r3⟩ := hx
  exact (pop_none x0 A1 c1 l1 A2 c2 l2 A3 c3 l3 w hl).mono fun e w' h => h.told rfl rfl rfl
theorem pop8_ok (x0 : Int) (hx : Rd w l1 l2 l3 A1 n1 c1 A2 n2 c2 A3 n3 c3) (m : Nat) (hl : n3 = m + 1) (b1 : n1 ≤ 100) (b2 : n2 ≤ 100) (b3 : n3 ≤ 100) :
    Calls Try.prog 8 #[.agg #[.int .i64 x0, .slice A1 n1 c1, .slice A2 n2 c2, .slice A3 n3 c3]] w fun e w' => Told x0 l1 l2 (l3.take m) n1 n2 m 0 w e w' := by
  obtain ⟨rfl, rfl, rfl, h1, h2, h3, r1, r2, r3⟩ := hx
  exact (pop_ok x0 A1 c1 l1 A2 c2 l2 A3 c3 l3 w m hl r1 r2 r3 (by omega) (by omega) (by omega)).mono fun e w' h => h.told rfl rfl (by simp; omega)
end
theorem span_bad {f t n : Int} (h : spanB f t n = false) : f < 0 ∨ (0 ≤ f ∧ t < f) ∨ (0 ≤ f ∧ f ≤ t ∧ n < t) := by
  unfold spanB at h
  by_cases h1 : 0 ≤ f
  · by_cases h2 : f ≤ t
    · by_cases h3 : t ≤ n
      · simp [h1, h2, h3] at h
      · exact Or.inr (Or.inr ⟨h1, h2, by omega⟩)
    · exact Or.inr (Or.inl ⟨h1, by omega⟩)
  · exact Or.inl (by omega)
theorem span_good {f t n : Int} (h : spanB f t n = true) : 0 ≤ f ∧ f ≤ t ∧ t ≤ n := by
  simpa [spanB, and_assoc] using h
end Go.Proofs.Ytkhilhgpkfecaaa.Mk
