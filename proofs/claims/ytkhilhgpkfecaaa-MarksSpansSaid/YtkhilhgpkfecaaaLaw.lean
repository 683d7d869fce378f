/- The given row of MarksSpans: for every input that can be read the law returns true, and the input reads as it did. No conditions. -/
import Derived.Test.YtkhilhgpkfecaaaRows
import Derived.Test.YtkhilhgpkfecaaaMq
import Derived.ProofKit
import Derived.OpenShut
import Derived.ChangeOld
import Derived.Lib.SmallJoins
import Derived.Deep.SlicePairs
import Derived.SliceStrings
namespace Go.Proofs.Ytkhilhgpkfecaaa.Mk
open Go.ChangeShapes Go.WideShapes Go.ChangeAt Go.RowKit Go.Joins Go.Deep Go.Proofs.YtkhilhgpkfecaaaW.PrintWords Go.Proofs.Ytkhilhgpkfecaaa.PMarksSpans

theorem own : ownKnob Try.prog.godebug = none := by kernel_rfl
theorem laidOut : laidOutB Try.prog = true := by kernel_rfl
theorem cells26 : Try.prog.cellsOf 26 = 4 := by kernel_rfl
theorem cells38 : Try.prog.cellsOf 38 = 2 := by kernel_rfl

section
variable {H : Type} {enc : TypeId × Value → H} {w : World} {base : Nat} {spare : Nat → Bool} {held : Bool}

theorem read_strings {fuel : Nat} {v : Value} {x : DataW H × List MemPlace} (h : DataW.trod enc Try.prog w base spare held fuel 22 [v] = some x) :
    ∃ A c l, v = .slice A l.length c ∧ l.length ≤ c ∧ Kd.string.C w A l.length l := by
  rcases open_strings Try.underlying22 Try.underlying9 (by kernel_rfl) h with ⟨hcs, _⟩ | ⟨a, len, cap, ss, hcs, _, hl, hm, hz, _, hcell, _⟩
  · simp only [List.cons.injEq, and_true] at hcs
    subst hcs
    exact ⟨none, 0, [], rfl, Nat.le_refl _, Kd.C_nil _ _⟩
  · simp only [List.cons.injEq, and_true] at hcs
    subst hcs
    have hlen : len ≤ ss.length := by rw [hz]; split <;> omega
    have ht : (ss.take len).length = len := by rw [List.length_take]; omega
    refine ⟨some a, cap, ss.take len, by rw [ht], by rw [ht]; exact hl, ?_⟩
    refine Kd.C_of_reads (d := ByteArray.empty) ⟨rfl, by rw [ht]; simp only [maxLen] at hm; omega, fun _ => ⟨a, rfl, fun j hj => ?_⟩⟩
    rw [ht] at hj
    rw [hcell j (by omega)]
    simp [List.getD_eq_getElem?_getD, hj]

theorem read_ints {fuel : Nat} {v : Value} {x : DataW H × List MemPlace} (h : DataW.trod enc Try.prog w base spare held fuel 23 [v] = some x) :
    ∃ A c l, v = .slice A l.length c ∧ l.length ≤ c ∧ (Kd.int .i64).C w A l.length l := by
  rcases open_ints Try.underlying23 Try.underlying3 (by kernel_rfl) h with ⟨hcs, _⟩ | ⟨a, len, cap, zs, hcs, _, hl, hm, hz, _, hcell, _⟩
  · simp only [List.cons.injEq, and_true] at hcs
    subst hcs
    exact ⟨none, 0, [], rfl, Nat.le_refl _, Kd.C_nil _ _⟩
  · simp only [List.cons.injEq, and_true] at hcs
    subst hcs
    have hlen : len ≤ zs.length := by rw [hz]; split <;> omega
    have ht : (zs.take len).length = len := by rw [List.length_take]; omega
    refine ⟨some a, cap, zs.take len, by rw [ht], by rw [ht]; exact hl, ?_⟩
    refine Kd.C_of_reads (d := (0 : Int)) ⟨rfl, by rw [ht]; simp only [maxLen] at hm; omega, fun _ => ⟨a, rfl, fun j hj => ?_⟩⟩
    rw [ht] at hj
    rw [hcell j (by omega)]
    simp [List.getD_eq_getElem?_getD, hj]

theorem read_spans {fuel : Nat} {v : Value} {x : DataW H × List MemPlace} (h : DataW.trod enc Try.prog w base spare held fuel 24 [v] = some x) :
    ∃ A c l, v = .slice A l.length c ∧ l.length ≤ c ∧ k38.C w A l.length l := by
  rcases open_slice_pairs Try.underlying24 Try.underlying38 cells38 rfl rfl (by kernel_rfl) (by kernel_rfl) h with ⟨hcs, _⟩ | ⟨a, len, cap, m, n, V0, V1, D0, D1, P0, P1, hcs, _, hl, hm, hmm, _, hcell⟩
  · simp only [List.cons.injEq, and_true] at hcs
    subst hcs
    exact ⟨none, 0, [], rfl, Nat.le_refl _, Kd.C_nil _ _⟩
  · simp only [List.cons.injEq, and_true] at hcs
    subst hcs
    have hlen : len ≤ m := by rw [hmm]; split <;> omega
    have ht : ((List.range len).map fun i => S38.mk (intOf (V0 i)) (intOf (V1 i))).length = len := by simp
    refine ⟨some a, cap, (List.range len).map fun i => S38.mk (intOf (V0 i)) (intOf (V1 i)), by rw [ht], by rw [ht]; exact hl, ?_⟩
    refine ⟨rfl, by rw [ht]; simp only [maxLen] at hm; omega, fun _ => ⟨a, rfl, fun j p hj => ?_⟩⟩
    have hjl : j < len := by
      have := (List.getElem?_eq_some_iff.1 hj).1
      omega
    have hp : p = S38.mk (intOf (V0 j)) (intOf (V1 j)) := by
      rw [List.getElem?_map, List.getElem?_range hjl] at hj
      simpa using hj.symm
    subst hp
    obtain ⟨h0, h1, t0, t1⟩ := hcell j (by omega)
    obtain ⟨n0, e0, _, _⟩ := DataW.trod_int Try.underlying3 t0
    obtain ⟨n1, e1, _, _⟩ := DataW.trod_int Try.underlying3 t1
    simp only [List.cons.injEq, and_true] at e0 e1
    rw [e0] at h0
    rw [e1] at h1
    refine ⟨[.int .i64 n0, .int .i64 n1], rfl, ?_, fun i u hu => ?_⟩
    · rw [e0, e1]
      exact k38_mk w ⟨n0, n1⟩
    · match i, hu with
      | 0, hu => rw [← Option.some.inj hu]; exact h0
      | 1, hu => rw [← Option.some.inj hu]; exact h1

theorem read_marks {r : Reach} {b0 : Nat} {v : Value} {d : DataW H} {p : List MemPlace} (hv : Value.okWide Try.prog w r b0 26 v) (h : DataW.Trod enc Try.prog w base spare held 26 v d p) :
    ∃ m0 l1 l2 l3 A1 n1 c1 A2 n2 c2 A3 n3 c3, v = .agg #[.int .i64 m0, .slice A1 n1 c1, .slice A2 n2 c2, .slice A3 n3 c3] ∧ Rd w l1 l2 l3 A1 n1 c1 A2 n2 c2 A3 n3 c3 := by
  obtain ⟨v0, v1, v2, v3, y0, y1, y2, y3, n, rfl, _, _, t0, t1, t2, t3⟩ := open_agg4 Try.underlying26 (by kernel_rfl) cells26 hv h
  obtain ⟨m0, e0, _, _⟩ := DataW.trod_int Try.underlying3 t0
  simp only [List.cons.injEq, and_true] at e0
  subst e0
  obtain ⟨A1, c1, l1, rfl, g1, r1⟩ := read_strings t1
  obtain ⟨A2, c2, l2, rfl, g2, r2⟩ := read_ints t2
  obtain ⟨A3, c3, l3, rfl, g3, r3⟩ := read_spans t3
  exact ⟨m0, l1, l2, l3, A1, _, c1, A2, _, c2, A3, _, c3, rfl, ⟨rfl, rfl, rfl, g1, g2, g3, r1, r2, r3⟩⟩
end

set_option maxRecDepth 100000 in
theorem lifted (os : Os) (started : os.Started) (H : Type) (enc : TypeId × Value → H) :
    ReturnsInHanded {} Try.checked os 3 .any (Rows.marksSpansSpec.pre6 enc Try.prog Try.f3 Rows.marksSpansRow.domain false) (Rows.marksSpansSpec.post enc Try.prog Try.f3 false true false false) := by
  refine returnsInHanded_of_change (C := Try.checked) own started (by kernel_rfl) Try.func3
    (ChangeSpec.witness6 (enc := enc) (C := Try.checked) false ⟨#[], #[.agg #[.int .i64 0, .slice none 0 0, .slice none 0 0, .slice none 0 0], .agg #[.int .i64 0, .slice none 0 0, .slice none 0 0, .slice none 0 0], .int .i64 0, .int .i64 0, .int .i64 0], []⟩ 8 (by kernel_rfl) (by kernel_rfl) (by kernel_rfl) (by kernel_rfl)) ?_
  intro W base args ds gs before hval0 hW hcnd _
  have hval : ∀ (j : Nat) t v, Try.f3.params[j]? = some t → args[j]? = some v → Value.okWide Try.prog W .any base t v := hval0
  have hW' := hW
  obtain ⟨p, q, hA0, hV, rfl, hfz, hnd⟩ := hW
  have hA : DataW.TrodAll enc Try.prog W 0 (fun _ => true) true Try.f3.params.toList args.toList ds p := hA0
  rw [Try.params3] at hA hval
  obtain ⟨v0, vs0, d0, ds0, p0, q0, hargs, rfl, rfl, h0, r0⟩ := trodAll_cons hA
  obtain ⟨v1, vs1, d1, ds1, p1, q1, rfl, rfl, rfl, h1, r1⟩ := trodAll_cons r0
  obtain ⟨v2, vs2, d2, ds2, p2, q2, rfl, rfl, rfl, h2, r2⟩ := trodAll_cons r1
  obtain ⟨v3, vs3, d3, ds3, p3, q3, rfl, rfl, rfl, h3, r3⟩ := trodAll_cons r2
  obtain ⟨v4, vs4, d4, ds4, p4, q4, rfl, rfl, rfl, h4, r4⟩ := trodAll_cons r3
  obtain ⟨rfl, rfl, rfl⟩ := trodAll_nil r4
  obtain rfl : args = #[v0, v1, v2, v3, v4] := by cases args; simp_all
  obtain ⟨rfl, rfl⟩ := trodVars_none hV
  have k0 := h0
  have k1 := h1
  have lt0 : ∀ x ∈ p0, x.block < W.heap.size := by obtain ⟨m, hm⟩ := k0; exact DataW.trod_lt m _ _ _ hm
  have lt1 : ∀ x ∈ p1, x.block < W.heap.size := by obtain ⟨m, hm⟩ := k1; exact DataW.trod_lt m _ _ _ hm
  obtain ⟨m0, l1, l2, l3, A1, n1, c1, A2, n2, c2, A3, n3, c3, rfl, hm⟩ := read_marks (hval 0 26 v0 rfl rfl) h0
  obtain ⟨q0, k1', k2', k3', Q1, j1, g1, Q2, j2, g2, Q3, j3, g3, rfl, hq⟩ := read_marks (hval 1 26 v1 rfl rfl) h1
  obtain ⟨f, rfl, rfl, rfl, w2⟩ := open_int Try.underlying3 (hval 2 3 v2 rfl rfl) h2
  obtain ⟨t, rfl, rfl, rfl, w3⟩ := open_int Try.underlying3 (hval 3 3 v3 rfl rfl) h3
  obtain ⟨n, rfl, rfl, rfl, w4⟩ := open_int Try.underlying3 (hval 4 3 v4 rfl rfl) h4
  clear hA0 hval0
  refine (law_true m0 q0 f t n l1 k1' l2 k2' l3 k3' A1 n1 c1 A2 n2 c2 A3 n3 c3 Q1 j1 g1 Q2 j2 g2 Q3 j3 g3 W hm hq).mono fun e W' ⟨he, bel⟩ => ?_
  subst he
  exact ⟨_, rfl, _, _, _, [], _, [], hW', trodAll_mk1 (shut_bool Try.underlying4 _),
    (trodAll_cons_mk (Below.trod laidOut (by kernel_rfl) (of_decide_eq_true (by kernel_rfl)) k0 bel lt0)
      (trodAll_cons_mk (Below.trod laidOut (by kernel_rfl) (of_decide_eq_true (by kernel_rfl)) k1 bel lt1)
        (trodAll_cons_mk (shut_int Try.underlying3 w2) (trodAll_cons_mk (shut_int Try.underlying3 w3) (trodAll_cons_mk (shut_int Try.underlying3 w4) trodAll_mk0))))), rfl, bel.frame _, fun h => by cases h⟩
end Go.Proofs.Ytkhilhgpkfecaaa.Mk
namespace Go.Proofs.Ytkhilhgpkfecaaa
/-- The row, proved. -/
theorem marksSpans_holds : Rows.MarksSpansSaid :=
  OpenClaim.holds_of_wide 3 Try.f3 rfl rfl rfl rfl rfl rfl rfl ⟨rfl, rfl, rfl, rfl, rfl⟩ rfl rfl rfl rfl rfl (by kernel_rfl) Try.func3 (by kernel_rfl)
    (of_decide_eq_true (by kernel_rfl)) (by unfold Func.isWrapper; first | (rw [if_pos (by decide +kernel)]; kernel_rfl) | (rw [if_neg (by decide +kernel)]; exact ⟨rfl, rfl⟩))
    (fun os started H enc _ => Mk.lifted os started H enc)
#print axioms marksSpans_holds
end Go.Proofs.Ytkhilhgpkfecaaa
