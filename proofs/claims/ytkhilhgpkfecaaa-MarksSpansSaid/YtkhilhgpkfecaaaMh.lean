/- slices.Insert of one value into an empty list of the call's own; marks.Set of a first name. -/
import Derived.Test.YtkhilhgpkfecaaaMg
namespace Go.Proofs.Ytkhilhgpkfecaaa.Mk
open Go.RowKit Go.Proofs.YtkhilhgpkfecaaaW.PrintWords Go.Proofs.YtkhilhgpkfecaaaW.PrintLast Go.Proofs.YtkhilhgpkfecaaaW.PrintMore Go.Proofs.Ytkhilhgpkfecaaa.PMarksSpans
set_option linter.unusedVariables false
set_option linter.unusedSimpArgs false

/-- One value in a row of the call's own, the empty row v grown. -/
def InsPost {α : Type} (d : Kd α) (t base : Nat) (v : Value) (x : α) (w : World) (e : Ending) (w' : World) : Prop :=
  ∃ B c, e = .returned (.slice B 1 c) ∧ d.R t w' base (fun _ => True) (.slice B 1 c) [x] ∧ w.grownBy w' v.ownBlock

theorem box_str (W : World) (x : ByteArray) : Kd.string.C (W.alloc (.cells #[.string x] 9)) (some ⟨W.heap.size, 0, none⟩) [x].length [x] := by
  have h := OwnRow.lit (R := fun p c => Kd.string.M (W.alloc (.cells #[.string x] 9)) W.heap.size (fun k => True ∧ some k ≠ (Value.slice (some ⟨W.heap.size, 0, none⟩) 1 1).ownBlock) p c) (e := 9) (size := 1) W W.heap.size (ps := [x])
    ((Reps.none _ 1).snoc (show Kd.string.M _ _ _ x [.string x] from rfl) rfl) (Nat.le_refl _) (by simp)
  exact (Kd.R_reads' (⟨fun _ _ => trivial, h⟩ : Kd.string.R 9 (W.alloc (.cells #[.string x] 9)) W.heap.size (fun _ => True) (.slice (some ⟨W.heap.size, 0, none⟩) 1 1) [x])).2.2
theorem box_int (W : World) (x : Int) : (Kd.int .i64).C (W.alloc (.cells #[.int .i64 x] 3)) (some ⟨W.heap.size, 0, none⟩) [x].length [x] := by
  have h := OwnRow.lit (R := fun p c => (Kd.int .i64).M (W.alloc (.cells #[.int .i64 x] 3)) W.heap.size (fun k => True ∧ some k ≠ (Value.slice (some ⟨W.heap.size, 0, none⟩) 1 1).ownBlock) p c) (e := 3) (size := 1) W W.heap.size (ps := [x])
    ((Reps.none _ 1).snoc (show (Kd.int .i64).M _ _ _ x [.int .i64 x] from rfl) rfl) (Nat.le_refl _) (by simp)
  exact (Kd.R_reads' (⟨fun _ _ => trivial, h⟩ : (Kd.int .i64).R 3 (W.alloc (.cells #[.int .i64 x] 3)) W.heap.size (fun _ => True) (.slice (some ⟨W.heap.size, 0, none⟩) 1 1) [x])).2.2

set_option maxRecDepth 100000 in
set_option maxHeartbeats 1600000 in
theorem ins_str (B : Option Addr) (d base : Nat) (A : Option Addr) (x : ByteArray) (w : World) (hR : Kd.string.R 9 w base (fun _ => True) (.slice B 0 d) []) (hb : base ≤ w.heap.size)
    (hC : Kd.string.C w A [x].length [x]) : Calls Try.prog 22 #[.slice B 0 d, .int .i64 0, .slice A 1 1] w fun e w' => InsPost Kd.string 9 base (.slice B 0 d) x w e w' := by
  have HR := Aside0.mk hR
  have HC := Aside0.mk hC
  have HB := Aside0.mk hb
  clear hR hC hb
  obtain ⟨i0, hi0, hz0⟩ := Option.map_eq_some_iff.1 info9
  simp only [Prod.mk.injEq] at hz0
  have hcut := cut_from (P := Try.prog) 22 9 .i64 Try.underlying22 hi0 1 hz0.2.1 B 0 d 0 (by omega) (by omega)
  clear hz0 hi0 i0
  go_enter Try.func22, Try.ntmps22
  go_wp2_with (at_builtin; refine Kd.R_append_rows Kd.string (Rr := Kd.string.K w) (w0 := w) base rfl (.tmp 23) (.tmp 24) 22 9 _ 16 rfl Try.underlying22 info9 rfl (by decide) (by decide) (.slice B 0 d) [] [x] A 1 1 (fun _ => True) (fun _ => False) rfl rfl HR.out ?hR (fun _ _ h => h) (fun _ h => h.elim) (fun _ _ => trivial) (Below.refl _ _) HB.out ?hl ?_)
  case hR => exact HC.out
  case hl => simp
  intro v1 w1 h1 _ h2 _
  obtain ⟨D1, d1, rfl⟩ := Kd.R_slice h1
  have H1 := Aside0.mk h1
  have H2 := Aside0.mk h2
  clear h1 h2
  go_wp2
  go_ret
  exact ⟨D1, d1, rfl, H1.out, H2.out⟩

set_option maxRecDepth 100000 in
set_option maxHeartbeats 1600000 in
theorem ins_int (B : Option Addr) (d base : Nat) (A : Option Addr) (x : Int) (w : World) (hR : (Kd.int .i64).R 3 w base (fun _ => True) (.slice B 0 d) []) (hb : base ≤ w.heap.size)
    (hC : (Kd.int .i64).C w A [x].length [x]) : Calls Try.prog 23 #[.slice B 0 d, .int .i64 0, .slice A 1 1] w fun e w' => InsPost (Kd.int .i64) 3 base (.slice B 0 d) x w e w' := by
  have HR := Aside0.mk hR
  have HC := Aside0.mk hC
  have HB := Aside0.mk hb
  clear hR hC hb
  obtain ⟨i0, hi0, hz0⟩ := Option.map_eq_some_iff.1 info3
  simp only [Prod.mk.injEq] at hz0
  have hcut := cut_from (P := Try.prog) 23 3 .i64 Try.underlying23 hi0 1 hz0.2.1 B 0 d 0 (by omega) (by omega)
  clear hz0 hi0 i0
  go_enter Try.func23, Try.ntmps23
  go_wp2_with (at_builtin; refine Kd.R_append_rows (Kd.int .i64) (Rr := (Kd.int .i64).K w) (w0 := w) base rfl (.tmp 23) (.tmp 24) 23 3 _ 8 rfl Try.underlying23 info3 rfl (by decide) (by decide) (.slice B 0 d) [] [x] A 1 1 (fun _ => True) (fun _ => False) rfl rfl HR.out ?hR (fun _ _ h => h) (fun _ h => h.elim) (fun _ _ => trivial) (Below.refl _ _) HB.out ?hl ?_)
  case hR => exact HC.out
  case hl => simp
  intro v1 w1 h1 _ h2 _
  obtain ⟨D1, d1, rfl⟩ := Kd.R_slice h1
  have H1 := Aside0.mk h1
  have H2 := Aside0.mk h2
  clear h1 h2
  go_wp2
  go_ret
  exact ⟨D1, d1, rfl, H1.out, H2.out⟩


end Go.Proofs.Ytkhilhgpkfecaaa.Mk
