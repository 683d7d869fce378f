/- What Great, Same (of the program and of the reference) and Top come to, as plain functions on numbers and lists. -/
import Derived.Test.YtkhilhgpkfecaaaPMarksSpansx2
import Derived.Test.YtkhilhgpkfecaaaPMarksSpansx5
import Derived.Test.YtkhilhgpkfecaaaPMarksSpansx6
import Derived.Laws.Strings
namespace Go.Proofs.Ytkhilhgpkfecaaa.Pl
set_option linter.unusedVariables false
open Go.RowKit Go.Proofs.YtkhilhgpkfecaaaW.PrintWords Go.Proofs.Ytkhilhgpkfecaaa.PMarksSpans

theorem wrap_next {i n : Nat} (h : i < n) (hn : n ≤ 1000) : wrap64 ((i : Int) + 1) = ((i + 1 : Nat) : Int) := by
  unfold wrap64
  omega
theorem bytes_eq {a b : ByteArray} : a.toList = b.toList ↔ a = b := by
  constructor
  · intro h
    rw [ByteArray.toList_eq, ByteArray.toList_eq] at h
    cases a with
    | mk x =>
      cases b with
      | mk y =>
        have : x = y := Array.toList_inj.1 h
        rw [this]
  · rintro rfl
    rfl
theorem span_eq {a b : S38} : (!(a.f0 == b.f0) || (!(a.f1 == b.f1))) = true ↔ a ≠ b := by
  cases a with
  | mk a0 a1 =>
    cases b with
    | mk b0 b1 =>
      simp
      constructor
      · intro h h0 h1
        rcases h with h | h
        · exact h h0
        · exact h h1
      · intro h
        by_cases h0 : a0 = b0
        · exact Or.inr (h h0)
        · exact Or.inl h0
theorem drop_cons {α : Type} {xs : List α} {i : Nat} (h : i < xs.length) : xs.drop i = xs[i] :: xs.drop (i + 1) := List.drop_eq_getElem_cons h

open Classical in
/-- Are two lists the same? -/
noncomputable def eqB {α : Type} (xs ys : List α) : Bool := decide (xs = ys)
theorem eqB_self {α : Type} (xs : List α) : eqB xs xs = true := by simp [eqB]
theorem eqB_ne {α : Type} {xs ys : List α} (h : xs ≠ ys) : eqB xs ys = false := by simp [eqB, h]
theorem eqB_cons {α : Type} {x y : α} {xs ys : List α} (h : x = y) : eqB (x :: xs) (y :: ys) = eqB xs ys := by simp [eqB, h]
theorem eqB_cons_ne {α : Type} {x y : α} {xs ys : List α} (h : x ≠ y) : eqB (x :: xs) (y :: ys) = false := by simp [eqB, h]
theorem eqB_len {α : Type} {xs ys : List α} (h : xs.length ≠ ys.length) : eqB xs ys = false := eqB_ne (fun e => h (by rw [e]))

theorem rdOf_at {xs : List ByteArray} {i : Nat} (h : i < xs.length) : rdOf ByteArray.empty xs (i : Int) = xs[i] := by
  unfold rdOf
  simp [List.getD_eq_getElem?_getD, h]
theorem rd_at {xs : List Int} {i : Nat} (h : i < xs.length) : rd xs (i : Int) = xs[i] := by
  unfold rd
  simp [List.getD_eq_getElem?_getD, h]
theorem rdT_at {xs : List S38} {i : Nat} (h : i < xs.length) : rd_T38 xs (i : Int) = xs[i] := by
  unfold rd_T38
  simp [List.getD_eq_getElem?_getD, h]

theorem eq_str_l (xs ys : List ByteArray) (n : Nat) (hx0 : xs.length = n) (hy0 : ys.length = n) (hn : n ≤ 1000) (d : Nat) : ∀ (k i : Nat), i ≤ n → n - i = d → d < k →
    slices_Equal_string_string.l0 k xs ys (n : Int) (i : Int) = some (eqB (xs.drop i) (ys.drop i)) := by
  induction d with
  | zero =>
    intro k i hi hd hk
    obtain ⟨k, rfl⟩ : ∃ m, k = m + 1 := ⟨k - 1, by omega⟩
    simp only [slices_Equal_string_string.l0]
    rw [if_neg (by omega), List.drop_eq_nil_of_le (by omega), List.drop_eq_nil_of_le (by omega), eqB_self]
  | succ d ih =>
    intro k i hi hd hk
    obtain ⟨k, rfl⟩ : ∃ m, k = m + 1 := ⟨k - 1, by omega⟩
    have hi : i < n := by omega
    have hx : i < xs.length := by omega
    have hy : i < ys.length := by omega
    simp only [slices_Equal_string_string.l0]
    rw [if_pos (by omega), if_pos (by omega), if_pos (by omega), if_pos (by omega), rdOf_at hx, rdOf_at hy, drop_cons hx, drop_cons hy]
    · skip
      by_cases h : (xs[i]'hx).toList = (ys[i]'hy).toList
      · rw [if_pos h, wrap_next hi hn, eqB_cons (bytes_eq.1 h)]
        exact ih _ (i + 1) (by omega) (by omega) (by omega)
      · rw [if_neg h, eqB_cons_ne (fun e => h (bytes_eq.2 e))]
theorem eq_str (xs ys : List ByteArray) (hn : xs.length ≤ 300) : slices_Equal_string_string.f 400 xs ys = some (eqB xs ys) := by
  unfold slices_Equal_string_string.f
  by_cases h : xs.length = ys.length
  · rw [if_pos (by omega)]
    have := eq_str_l xs ys xs.length rfl h.symm (by omega) xs.length 400 0 (by omega) (by omega) (by omega)
    simpa using this
  · rw [if_neg (by omega), eqB_len h]

theorem eq_int_l (xs ys : List Int) (n : Nat) (hx0 : xs.length = n) (hy0 : ys.length = n) (hn : n ≤ 1000) (d : Nat) : ∀ (k i : Nat), i ≤ n → n - i = d → d < k →
    slices_Equal_int_int.l0 k xs ys (n : Int) (i : Int) = some (eqB (xs.drop i) (ys.drop i)) := by
  induction d with
  | zero =>
    intro k i hi hd hk
    obtain ⟨k, rfl⟩ : ∃ m, k = m + 1 := ⟨k - 1, by omega⟩
    simp only [slices_Equal_int_int.l0]
    rw [if_neg (by omega), List.drop_eq_nil_of_le (by omega), List.drop_eq_nil_of_le (by omega), eqB_self]
  | succ d ih =>
    intro k i hi hd hk
    obtain ⟨k, rfl⟩ : ∃ m, k = m + 1 := ⟨k - 1, by omega⟩
    have hi : i < n := by omega
    have hx : i < xs.length := by omega
    have hy : i < ys.length := by omega
    simp only [slices_Equal_int_int.l0]
    rw [if_pos (by omega), if_pos (by omega), if_pos (by omega), if_pos (by omega), rd_at hx, rd_at hy, drop_cons hx, drop_cons hy]
    · skip
      by_cases h : xs[i]'hx = ys[i]'hy
      · rw [if_pos h, wrap_next hi hn, eqB_cons h]
        exact ih _ (i + 1) (by omega) (by omega) (by omega)
      · rw [if_neg h, eqB_cons_ne h]
theorem eq_int (xs ys : List Int) (hn : xs.length ≤ 300) : slices_Equal_int_int.f 400 xs ys = some (eqB xs ys) := by
  unfold slices_Equal_int_int.f
  by_cases h : xs.length = ys.length
  · rw [if_pos (by omega)]
    have := eq_int_l xs ys xs.length rfl h.symm (by omega) xs.length 400 0 (by omega) (by omega) (by omega)
    simpa using this
  · rw [if_neg (by omega), eqB_len h]

theorem eq_span_l (xs ys : List S38) (n : Nat) (hx0 : xs.length = n) (hy0 : ys.length = n) (hn : n ≤ 1000) (d : Nat) : ∀ (k i : Nat), i ≤ n → n - i = d → d < k →
    api_Span_19.l0 k xs ys (n : Int) (i : Int) = some (eqB (xs.drop i) (ys.drop i)) := by
  induction d with
  | zero =>
    intro k i hi hd hk
    obtain ⟨k, rfl⟩ : ∃ m, k = m + 1 := ⟨k - 1, by omega⟩
    simp only [api_Span_19.l0]
    rw [if_neg (by omega), List.drop_eq_nil_of_le (by omega), List.drop_eq_nil_of_le (by omega), eqB_self]
  | succ d ih =>
    intro k i hi hd hk
    obtain ⟨k, rfl⟩ : ∃ m, k = m + 1 := ⟨k - 1, by omega⟩
    have hi : i < n := by omega
    have hx : i < xs.length := by omega
    have hy : i < ys.length := by omega
    simp only [api_Span_19.l0]
    rw [if_pos (by omega), if_pos (by omega), if_pos (by omega), if_pos (by omega), rdT_at hx, rdT_at hy, drop_cons hx, drop_cons hy]
    · skip
      by_cases h : xs[i]'hx = ys[i]'hy
      · rw [if_neg (fun e => span_eq.1 e h), wrap_next hi hn, eqB_cons h]
        exact ih _ (i + 1) (by omega) (by omega) (by omega)
      · rw [if_pos (span_eq.2 h), eqB_cons_ne h]
theorem eq_span (xs ys : List S38) (hn : xs.length ≤ 300) : api_Span_19.f 400 xs ys = some (eqB xs ys) := by
  unfold api_Span_19.f
  by_cases h : xs.length = ys.length
  · rw [if_pos (by omega)]
    have := eq_span_l xs ys xs.length rfl h.symm (by omega) xs.length 400 0 (by omega) (by omega) (by omega)
    simpa using this
  · rw [if_neg (by omega), eqB_len h]

/-- Are two marks the same? -/
noncomputable def sameB (a : Int) (l1 : List ByteArray) (l2 : List Int) (l3 : List S38) (b : Int) (m1 : List ByteArray) (m2 : List Int) (m3 : List S38) : Bool :=
  decide (a = b) && (eqB l1 m1 && (eqB l2 m2 && eqB l3 m3))
theorem sameB_self (a : Int) (l1 : List ByteArray) (l2 : List Int) (l3 : List S38) : sameB a l1 l2 l3 a l1 l2 l3 = true := by simp [sameB, eqB_self]
theorem marks_Same_f (a : Int) (l1 : List ByteArray) (l2 : List Int) (l3 : List S38) (b : Int) (m1 : List ByteArray) (m2 : List Int) (m3 : List S38) (h1 : l1.length ≤ 300) (h2 : l2.length ≤ 300) (h3 : l3.length ≤ 300) :
    marks_Same.f 400 a l1 l2 l3 b m1 m2 m3 = some (sameB a l1 l2 l3 b m1 m2 m3) := by
  unfold marks_Same.f sameB
  rw [eq_str l1 m1 h1, eq_int l2 m2 h2, eq_span l3 m3 h3]
  by_cases h : a = b
  · cases eqB l1 m1 <;> cases eqB l2 m2 <;> simp [h]
  · simp [h]

theorem ref_l3 (a : Int) (l1 : List ByteArray) (l2 : List Int) (l3 : List S38) (b : Int) (m1 : List ByteArray) (m2 : List Int) (m3 : List S38) (e1 : l1.length = m1.length) (e2 : l2.length = m2.length) (e3 : l3.length = m3.length) (b1 : l1.length ≤ 300) (b2 : l2.length ≤ 300) (b3 : l3.length ≤ 300) (d : Nat) : ∀ (k i : Nat), i ≤ l3.length → l3.length - i = d → d + 0 < k →
    pleacherref25_Same.l2 k (i : Int) a l1 l2 l3 b m1 m2 m3 = some (eqB (l3.drop i) (m3.drop i)) := by
  induction d with
  | zero =>
    intro k i hi hd hk
    obtain ⟨k, rfl⟩ : ∃ m, k = m + 1 := ⟨k - 1, by omega⟩
    simp only [pleacherref25_Same.l2]
    rw [if_neg (by omega), List.drop_eq_nil_of_le (by omega), List.drop_eq_nil_of_le (by omega), eqB_self]
  | succ d ih =>
    intro k i hi hd hk
    obtain ⟨k, rfl⟩ : ∃ m, k = m + 1 := ⟨k - 1, by omega⟩
    have hi : i < l3.length := by omega
    have hx : i < l3.length := by omega
    have hy : i < m3.length := by omega
    simp only [pleacherref25_Same.l2]
    rw [if_pos (by omega), if_pos (by omega), if_pos (by omega), rdT_at hx, rdT_at hy, drop_cons hx, drop_cons hy]
    · skip
      by_cases h : l3[i]'hx = m3[i]'hy
      · rw [if_neg (fun e => span_eq.1 e h), wrap_next hi (by omega), eqB_cons h]
        exact ih _ (i + 1) (by omega) (by omega) (by omega)
      · rw [if_pos (span_eq.2 h), eqB_cons_ne h]
theorem ref_l2 (a : Int) (l1 : List ByteArray) (l2 : List Int) (l3 : List S38) (b : Int) (m1 : List ByteArray) (m2 : List Int) (m3 : List S38) (e1 : l1.length = m1.length) (e2 : l2.length = m2.length) (e3 : l3.length = m3.length) (b1 : l1.length ≤ 300) (b2 : l2.length ≤ 300) (b3 : l3.length ≤ 300) (d : Nat) : ∀ (k i : Nat), i ≤ l2.length → l2.length - i = d → d + (l3.length + 1) < k →
    pleacherref25_Same.l1 k (i : Int) a l1 l2 l3 b m1 m2 m3 = some (eqB (l2.drop i) (m2.drop i) && eqB l3 m3) := by
  induction d with
  | zero =>
    intro k i hi hd hk
    obtain ⟨k, rfl⟩ : ∃ m, k = m + 1 := ⟨k - 1, by omega⟩
    simp only [pleacherref25_Same.l1]
    rw [if_neg (by omega), List.drop_eq_nil_of_le (by omega), List.drop_eq_nil_of_le (by omega), eqB_self]
    have := ref_l3 a l1 l2 l3 b m1 m2 m3 e1 e2 e3 b1 b2 b3 l3.length k 0 (by omega) (by omega) (by omega)
    simpa using this
  | succ d ih =>
    intro k i hi hd hk
    obtain ⟨k, rfl⟩ : ∃ m, k = m + 1 := ⟨k - 1, by omega⟩
    have hi : i < l2.length := by omega
    have hx : i < l2.length := by omega
    have hy : i < m2.length := by omega
    simp only [pleacherref25_Same.l1]
    rw [if_pos (by omega), if_pos (by omega), if_pos (by omega), rd_at hx, rd_at hy, drop_cons hx, drop_cons hy]
    · skip
      by_cases h : l2[i]'hx = m2[i]'hy
      · rw [if_pos h, wrap_next hi (by omega), eqB_cons h]
        exact ih _ (i + 1) (by omega) (by omega) (by omega)
      · rw [if_neg h, eqB_cons_ne h, Bool.false_and]
theorem ref_l1 (a : Int) (l1 : List ByteArray) (l2 : List Int) (l3 : List S38) (b : Int) (m1 : List ByteArray) (m2 : List Int) (m3 : List S38) (e1 : l1.length = m1.length) (e2 : l2.length = m2.length) (e3 : l3.length = m3.length) (b1 : l1.length ≤ 300) (b2 : l2.length ≤ 300) (b3 : l3.length ≤ 300) (d : Nat) : ∀ (k i : Nat), i ≤ l1.length → l1.length - i = d → d + (l2.length + l3.length + 2) < k →
    pleacherref25_Same.l0 k (i : Int) a l1 l2 l3 b m1 m2 m3 = some (eqB (l1.drop i) (m1.drop i) && (eqB l2 m2 && eqB l3 m3)) := by
  induction d with
  | zero =>
    intro k i hi hd hk
    obtain ⟨k, rfl⟩ : ∃ m, k = m + 1 := ⟨k - 1, by omega⟩
    simp only [pleacherref25_Same.l0]
    rw [if_neg (by omega), List.drop_eq_nil_of_le (by omega), List.drop_eq_nil_of_le (by omega), eqB_self]
    have := ref_l2 a l1 l2 l3 b m1 m2 m3 e1 e2 e3 b1 b2 b3 l2.length k 0 (by omega) (by omega) (by omega)
    simpa using this
  | succ d ih =>
    intro k i hi hd hk
    obtain ⟨k, rfl⟩ : ∃ m, k = m + 1 := ⟨k - 1, by omega⟩
    have hi : i < l1.length := by omega
    have hx : i < l1.length := by omega
    have hy : i < m1.length := by omega
    simp only [pleacherref25_Same.l0]
    rw [if_pos (by omega), if_pos (by omega), if_pos (by omega), rdOf_at hx, rdOf_at hy, drop_cons hx, drop_cons hy]
    · skip
      by_cases h : (l1[i]'hx).toList = (m1[i]'hy).toList
      · rw [if_pos h, wrap_next hi (by omega), eqB_cons (bytes_eq.1 h)]
        exact ih _ (i + 1) (by omega) (by omega) (by omega)
      · rw [if_neg h, eqB_cons_ne (fun e => h (bytes_eq.2 e)), Bool.false_and]
theorem ref_Same_f (a : Int) (l1 : List ByteArray) (l2 : List Int) (l3 : List S38) (b : Int) (m1 : List ByteArray) (m2 : List Int) (m3 : List S38) (h1 : l1.length ≤ 100) (h2 : l2.length ≤ 100) (h3 : l3.length ≤ 100) :
    pleacherref25_Same.f 400 a l1 l2 l3 b m1 m2 m3 = some (sameB a l1 l2 l3 b m1 m2 m3) := by
  have hj : pleacherref25_Same.j0 400 true a l1 l2 l3 b m1 m2 m3 = some false := by simp only [pleacherref25_Same.j0, if_true]
  unfold pleacherref25_Same.f sameB
  by_cases h : a = b
  · rw [if_pos h]
    by_cases e1 : l1.length = m1.length
    · rw [if_pos (by omega)]
      by_cases e2 : l2.length = m2.length
      · rw [if_pos (by omega)]
        by_cases e3 : l3.length = m3.length
        · rw [show ((l3.length : Int) != (m3.length : Int)) = false from by simp [e3]]
          simp only [pleacherref25_Same.j0]
          rw [if_neg (by decide)]
          have := ref_l1 a l1 l2 l3 b m1 m2 m3 e1 e2 e3 (by omega) (by omega) (by omega) l1.length 399 0 (by omega) (by omega) (by omega)
          rw [show (((0 : Nat) : Int)) = 0 from rfl] at this
          rw [this]
          simp [h]
        · rw [show ((l3.length : Int) != (m3.length : Int)) = true from by simp; omega, hj, eqB_len e3]
          simp
      · rw [if_neg (by omega), hj, eqB_len e2]
        simp
    · rw [if_neg (by omega), hj, eqB_len e1]
      simp
  · rw [if_neg h, hj]
    simp [h]

theorem great_l (a : Int) (l1 : List ByteArray) (l2 : List Int) (l3 : List S38) (hn : l1.length ≤ 300) (d : Nat) : ∀ (k i : Nat), i ≤ l1.length → l1.length - i = d → d < k →
    ∃ r, pleacherlaw25_Great.l0 k (i : Int) a l1 l2 l3 = some r := by
  induction d with
  | zero =>
    intro k i hi hd hk
    obtain ⟨k, rfl⟩ : ∃ m, k = m + 1 := ⟨k - 1, by omega⟩
    simp only [pleacherlaw25_Great.l0]
    exact ⟨false, by rw [if_neg (by omega)]⟩
  | succ d ih =>
    intro k i hi hd hk
    obtain ⟨k, rfl⟩ : ∃ m, k = m + 1 := ⟨k - 1, by omega⟩
    have hi : i < l1.length := by omega
    simp only [pleacherlaw25_Great.l0]
    rw [if_pos (by omega), if_pos (by omega), wrap_next hi (by omega)]
    by_cases h : ((rdOf ByteArray.empty l1 (i : Int)).size : Int) > 100
    · rw [if_pos h]
      exact ⟨true, rfl⟩
    · rw [if_neg h]
      exact ih k (i + 1) (by omega) (by omega) (by omega)
theorem great_f (a : Int) (l1 : List ByteArray) (l2 : List Int) (l3 : List S38) : ∃ r, pleacherlaw25_Great.f 400 a l1 l2 l3 = some r ∧ (r = false → l1.length ≤ 60 ∧ l2.length ≤ 60 ∧ l3.length ≤ 60) := by
  have hj : pleacherlaw25_Great.j0 400 true a l1 l2 l3 = some true := by simp only [pleacherlaw25_Great.j0, if_true]
  unfold pleacherlaw25_Great.f
  by_cases h1 : (l1.length : Int) > 60
  · exact ⟨true, by rw [if_pos h1, hj], fun h => by cases h⟩
  · rw [if_neg h1]
    by_cases h2 : (l2.length : Int) > 60
    · exact ⟨true, by rw [if_pos h2, hj], fun h => by cases h⟩
    · rw [if_neg h2]
      by_cases h3 : (l3.length : Int) > 60
      · exact ⟨true, by rw [decide_eq_true h3, hj], fun h => by cases h⟩
      · obtain ⟨r, hr⟩ := great_l a l1 l2 l3 (by omega) l1.length 399 0 (by omega) (by omega) (by omega)
        refine ⟨r, ?_, fun _ => ⟨by omega, by omega, by omega⟩⟩
        rw [decide_eq_false h3]
        simp only [pleacherlaw25_Great.j0]
        rw [if_neg (by decide)]
        exact hr

theorem top_none (a : Int) (l1 : List ByteArray) (l2 : List Int) (l3 : List S38) (h : l3.length = 0) : marks_Top.f a l1 l2 l3 = some (0, 0, false) := by
  unfold marks_Top.f
  rw [if_pos (by omega)]
theorem top_some (a : Int) (l1 : List ByteArray) (l2 : List Int) (l3 : List S38) (m : Nat) (h : l3.length = m + 1) (hm : m ≤ 300) : marks_Top.f a l1 l2 l3 = some ((rd_T38 l3 (m : Int)).f0, (rd_T38 l3 (m : Int)).f1, true) := by
  have hw : wrap64 ((l3.length : Int) - 1) = (m : Int) := by
    unfold wrap64
    omega
  unfold marks_Top.f
  rw [if_neg (by omega), hw, if_pos (by omega), if_pos (by omega)]

end Go.Proofs.Ytkhilhgpkfecaaa.Pl
