/- slices.Clone at []string, []int and []api.Span answers a row of the call's own with the same elements: one contract for each. -/
import Derived.Test.YtkhilhgpkfecaaaPMarksSpansx3
import Derived.Test.YtkhilhgpkfecaaaPMarksSpansx5
import Derived.Test.YtkhilhgpkfecaaaPMarksSpansx6
import Derived.WalkSpells
namespace Go.Proofs.Ytkhilhgpkfecaaa.Mk
open Go.RowKit Go.Proofs.YtkhilhgpkfecaaaW.PrintWords Go.Proofs.YtkhilhgpkfecaaaW.PrintLast Go.Proofs.YtkhilhgpkfecaaaW.PrintMore Go.Proofs.Ytkhilhgpkfecaaa.PMarksSpans

theorem info9 : (Try.prog.info? 9).map (fun i => (i.zero, i.size, i.bytes)) = some (some (.string ByteArray.empty), 1, 16) := by kernel_rfl
theorem info3 : (Try.prog.info? 3).map (fun i => (i.zero, i.size, i.bytes)) = some (some (.int .i64 0), 1, 8) := by kernel_rfl
theorem info38 : (Try.prog.info? 38).map (fun i => (i.zero, i.size, i.bytes)) = some (some (.agg #[.int .i64 0, .int .i64 0]), 2, 16) := by kernel_rfl

/-- A row of the call's own, of any kind. -/
def Fresh {α : Type} (d : Kd α) (t : Nat) (base : Nat) (l : List α) (e : Ending) (w w' : World) : Prop :=
  ∃ v, e = .returned v ∧ d.R t w' base (fun _ => True) v l ∧ Below base w w'

theorem empty_row {α : Type} (d : Kd α) (t : Nat) (W : World) (base : Nat) (hb : base ≤ W.heap.size) : d.R t (W.alloc (.cells #[] t)) base (fun _ => True) (.slice (some ⟨W.heap.size, 0, none⟩) 0 0) [] :=
  ⟨fun _ _ => trivial, OwnRow.lit W base (ps := ([] : List α)) (Reps.none _ _) hb (by simp)⟩

set_option maxHeartbeats 400000 in
theorem clone_str (A : Option Addr) (c : Nat) (l : List ByteArray) (w : World) (hr : Kd.C Kd.string w A l.length l) (hl : l.length * 16 ≤ 140737488355328) :
    Calls Try.prog 25 #[.slice A l.length c] w fun e w' => Fresh Kd.string 9 w.heap.size l e w w' := by
  have HR := Aside0.mk hr
  have HL := Aside0.mk hl
  rcases A with _ | ad
  · have hl0 : l = [] := by
      rcases Nat.eq_zero_or_pos l.length with h | h
      · exact List.eq_nil_of_length_eq_zero h
      · obtain ⟨ad, h1, _⟩ := hr.2.2 h
        cases h1
    clear hr hl
    have qn : ∀ (w : World) (n : Nat), (binOp .eql 22 (.slice none n c) (.slice none 0 0)).run Try.prog w = .ok (.bool true) w := fun w n => Lib.run_eql_slice_nil w 22 9 none n c 0 0 Try.underlying22
    subst hl0
    go_enter Try.func25, Try.ntmps25
    go_wp2
    go_ret
    exact ⟨_, rfl, Kd.R_nil _ _ _ _ _, Below.refl _ _⟩
  · clear hr hl
    have qn : ∀ w : World, (binOp .eql 22 (.slice (some ad) l.length c) (.slice none 0 0)).run Try.prog w = .ok (.bool false) w := fun w => Lib.run_eql_slice_nil w 22 9 (some ad) l.length c 0 0 Try.underlying22
    go_enter Try.func25, Try.ntmps25
    go_wp2_with (at_builtin; refine Kd.R_append_rows Kd.string (Rr := (Kd.string).K w) (w0 := w) w.heap.size rfl (.tmp 5) (.tmp 6) 22 9 _ 16 rfl Try.underlying22 info9 rfl (by decide) (by decide) _ [] l (some ad) l.length c (fun _ => True) (fun _ => False) rfl rfl (empty_row Kd.string 9 w w.heap.size (Nat.le_refl _)) ?hR ?hK (fun _ h => h.elim) (fun _ _ => trivial) ((Below.refl _ _).alloc (Nat.le_refl _) _) ?hs ?hl ?_)
    case hR => exact (Kd.C_alloc HR.out _)
    case hK => exact fun _ _ h => h
    case hs => simp
    case hl => simpa using HL.out
    intro v1 w1 h1 h2 _ _
    have H1 := Aside0.mk h1
    have H2 := Aside0.mk h2
    clear h1 h2
    go_wp2
    go_ret
    exact ⟨_, rfl, by simpa using H1.out, H2.out⟩

set_option maxHeartbeats 400000 in
theorem clone_int (A : Option Addr) (c : Nat) (l : List Int) (w : World) (hr : Kd.C (Kd.int .i64) w A l.length l) (hl : l.length * 8 ≤ 140737488355328) :
    Calls Try.prog 26 #[.slice A l.length c] w fun e w' => Fresh (Kd.int .i64) 3 w.heap.size l e w w' := by
  have HR := Aside0.mk hr
  have HL := Aside0.mk hl
  rcases A with _ | ad
  · have hl0 : l = [] := by
      rcases Nat.eq_zero_or_pos l.length with h | h
      · exact List.eq_nil_of_length_eq_zero h
      · obtain ⟨ad, h1, _⟩ := hr.2.2 h
        cases h1
    clear hr hl
    have qn : ∀ (w : World) (n : Nat), (binOp .eql 23 (.slice none n c) (.slice none 0 0)).run Try.prog w = .ok (.bool true) w := fun w n => Lib.run_eql_slice_nil w 23 3 none n c 0 0 Try.underlying23
    subst hl0
    go_enter Try.func26, Try.ntmps26
    go_wp2
    go_ret
    exact ⟨_, rfl, Kd.R_nil _ _ _ _ _, Below.refl _ _⟩
  · clear hr hl
    have qn : ∀ w : World, (binOp .eql 23 (.slice (some ad) l.length c) (.slice none 0 0)).run Try.prog w = .ok (.bool false) w := fun w => Lib.run_eql_slice_nil w 23 3 (some ad) l.length c 0 0 Try.underlying23
    go_enter Try.func26, Try.ntmps26
    go_wp2_with (at_builtin; refine Kd.R_append_rows (Kd.int .i64) (Rr := ((Kd.int .i64)).K w) (w0 := w) w.heap.size rfl (.tmp 5) (.tmp 6) 23 3 _ 8 rfl Try.underlying23 info3 rfl (by decide) (by decide) _ [] l (some ad) l.length c (fun _ => True) (fun _ => False) rfl rfl (empty_row (Kd.int .i64) 3 w w.heap.size (Nat.le_refl _)) ?hR ?hK (fun _ h => h.elim) (fun _ _ => trivial) ((Below.refl _ _).alloc (Nat.le_refl _) _) ?hs ?hl ?_)
    case hR => exact (Kd.C_alloc HR.out _)
    case hK => exact fun _ _ h => h
    case hs => simp
    case hl => simpa using HL.out
    intro v1 w1 h1 h2 _ _
    have H1 := Aside0.mk h1
    have H2 := Aside0.mk h2
    clear h1 h2
    go_wp2
    go_ret
    exact ⟨_, rfl, by simpa using H1.out, H2.out⟩

set_option maxHeartbeats 400000 in
theorem clone_span (A : Option Addr) (c : Nat) (l : List S38) (w : World) (hr : Kd.C k38 w A l.length l) (hl : l.length * 16 ≤ 140737488355328) :
    Calls Try.prog 27 #[.slice A l.length c] w fun e w' => Fresh k38 38 w.heap.size l e w w' := by
  have HR := Aside0.mk hr
  have HL := Aside0.mk hl
  rcases A with _ | ad
  · have hl0 : l = [] := by
      rcases Nat.eq_zero_or_pos l.length with h | h
      · exact List.eq_nil_of_length_eq_zero h
      · obtain ⟨ad, h1, _⟩ := hr.2.2 h
        cases h1
    clear hr hl
    have qn : ∀ (w : World) (n : Nat), (binOp .eql 24 (.slice none n c) (.slice none 0 0)).run Try.prog w = .ok (.bool true) w := fun w n => Lib.run_eql_slice_nil w 24 38 none n c 0 0 Try.underlying24
    subst hl0
    go_enter Try.func27, Try.ntmps27
    go_wp2
    go_ret
    exact ⟨_, rfl, Kd.R_nil _ _ _ _ _, Below.refl _ _⟩
  · clear hr hl
    have qn : ∀ w : World, (binOp .eql 24 (.slice (some ad) l.length c) (.slice none 0 0)).run Try.prog w = .ok (.bool false) w := fun w => Lib.run_eql_slice_nil w 24 38 (some ad) l.length c 0 0 Try.underlying24
    go_enter Try.func27, Try.ntmps27
    go_wp2_with (at_builtin; refine Kd.R_append_rows k38 (Rr := (k38).K w) (w0 := w) w.heap.size rfl (.tmp 5) (.tmp 6) 24 38 _ 16 rfl Try.underlying24 info38 rfl (by decide) (by decide) _ [] l (some ad) l.length c (fun _ => True) (fun _ => False) rfl rfl (empty_row k38 38 w w.heap.size (Nat.le_refl _)) ?hR ?hK (fun _ h => h.elim) (fun _ _ => trivial) ((Below.refl _ _).alloc (Nat.le_refl _) _) ?hs ?hl ?_)
    case hR => exact (Kd.C_alloc HR.out _)
    case hK => exact fun _ _ h => h
    case hs => simp
    case hl => simpa using HL.out
    intro v1 w1 h1 h2 _ _
    have H1 := Aside0.mk h1
    have H2 := Aside0.mk h2
    clear h1 h2
    go_wp2
    go_ret
    exact ⟨_, rfl, by simpa using H1.out, H2.out⟩

end Go.Proofs.Ytkhilhgpkfecaaa.Mk
