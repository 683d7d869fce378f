/- edit.Move of one edit that puts two bytes in at place 2 tells where the places 1 and 2 go. -/
import Derived.Test.YtkhilhgpkfecaaaMe
namespace Go.Proofs.Ytkhilhgpkfecaaa.Mk
open Go.RowKit Go.Proofs.YtkhilhgpkfecaaaW.PrintWords Go.Proofs.YtkhilhgpkfecaaaW.PrintLast Go.Proofs.YtkhilhgpkfecaaaW.PrintMore Go.Proofs.Ytkhilhgpkfecaaa.PMarksSpans
set_option linter.unusedVariables false
set_option linter.unusedSimpArgs false

theorem info43 : (Try.prog.info? 43).map (fun i => (i.zero, i.size, i.bytes)) = some (some (.agg #[.int .i64 0, .int .i64 0, .string ByteArray.empty]), 3, 32) := by kernel_rfl
theorem box43 (W : World) (x : S43) : k43.C (W.alloc (.cells #[.int .i64 x.f0, .int .i64 x.f1, .string x.f2] 43)) (some ⟨W.heap.size, 0, none⟩) [x].length [x] := by
  have h := OwnRow.lit (R := fun p c => k43.M (W.alloc (.cells #[.int .i64 x.f0, .int .i64 x.f1, .string x.f2] 43)) W.heap.size (fun k => True ∧ some k ≠ (Value.slice (some ⟨W.heap.size, 0, none⟩) 1 1).ownBlock) p c) (e := 43) (size := 3) W W.heap.size (ps := [x])
    ((Reps.none _ 3).snoc (k43_mkM _ _ _ x) rfl) (Nat.le_refl _) (by simp)
  exact (Kd.R_reads' (⟨fun _ _ => trivial, h⟩ : k43.R 43 (W.alloc (.cells #[.int .i64 x.f0, .int .i64 x.f1, .string x.f2] 43)) W.heap.size (fun _ => True) (.slice (some ⟨W.heap.size, 0, none⟩) 1 1) [x])).2.2
/-- The edit of the chapter's example. -/
def xyE : S43 := ⟨2, 0, ⟨#[120, 121]⟩⟩

set_option maxRecDepth 100000 in
set_option maxHeartbeats 1600000 in
theorem put_one (g : Nat) (base : Nat) (w : World) (hg : w.heap[g]? = some (.cells #[.int .i64 0, .int .i64 0, .slice none 0 0] 71 (0, 0))) (hb : base ≤ g) :
    Calls Try.prog 35 #[.pointer (some ⟨g, 0, none⟩), .agg #[.int .i64 2, .int .i64 0, .string ⟨#[120, 121]⟩]] w fun e w' => e = .returned (.tuple #[]) ∧ Below base w w' := by
  have hu43 := Try.underlying43
  have hu69 := Try.underlying69
  have hu71 := Try.underlying71
  have hw2 : IntKind.i64.wrap 2 = 2 := by decide
  have HG := Aside0.mk hg
  have HB := Aside0.mk hb
  have LE := Aside0.mk (show base ≤ w.heap.size from by have := blk_lt hg; omega)
  clear hg hb
  go_enter Try.func35, Try.ntmps35
  go_wp2_with ((with_reducible refine gate_dst (N := 3) rfl ?_); refine box_event ?hg (N := 3) ?hd (cs := #[.int .i64 2, .int .i64 0, .string ⟨#[120, 121]⟩]) (t := 43) ?hr ?_; (case hd => rfl); (case hg => rfl); (case hr => first | (go_simp; done) | (go_simp; rfl)); intro gb hg w1 hbox hb; have G1 := Aside0.mk (blk_below HG.out hb); have B1 := Aside0.mk hb; have NE := Aside0.mk (show g ≠ gb from by rw [hg]; exact Nat.ne_of_lt (blk_lt HG.out)); have X1 := Aside0.mk hbox; have c0 := (blk_cell G1.out 0).trans (show _ = some (Value.int .i64 0) from rfl); have c1 := (blk_cell G1.out 1).trans (show _ = some (Value.int .i64 0) from rfl); have f1 := blk_frozen G1.out 1; have x0 := (blk_cell X1.out 0).trans (show _ = some (Value.int .i64 2) from rfl); have x1 := (blk_cell X1.out 1).trans (show _ = some (Value.int .i64 0) from rfl); clear hbox hb hg)
  clear c0 c1 f1 x0 x1
  have G2 := Aside0.mk (show (w1.setCell ⟨g, 1, none⟩ (.int .i64 2)).heap[g]? = some (.cells #[.int .i64 0, .int .i64 2, .slice none 0 0] 71 (0, 0)) from blk_set G1.out 1 _)
  have X2 := Aside0.mk (blk_far X1.out (p := ⟨g, 1, none⟩) (Ne.symm NE.out) (.int .i64 2))
  have B2 := Aside0.mk (((Below.refl base w).trans (B1.out.mono LE.out)).setCell (p := ⟨g, 1, none⟩) HB.out (.int .i64 2))
  generalize w1.setCell ⟨g, 1, none⟩ (.int .i64 2) = w2 at G2 X2 B2 ⊢
  clear G1 X1 B1
  have c0 := (blk_cell G2.out 0).trans (show _ = some (Value.int .i64 0) from rfl)
  have c1 := (blk_cell G2.out 1).trans (show _ = some (Value.int .i64 2) from rfl)
  have c2 := (blk_cell G2.out 2).trans (show _ = some (Value.slice none 0 0) from rfl)
  have f0 := blk_frozen G2.out 0
  have f1 := blk_frozen G2.out 1
  have f2 := blk_frozen G2.out 2
  have x0 := (blk_cell X2.out 0).trans (show _ = some (Value.int .i64 2) from rfl)
  have x1 := (blk_cell X2.out 1).trans (show _ = some (Value.int .i64 0) from rfl)
  have x2 := (blk_cell X2.out 2).trans (show _ = some (Value.string ⟨#[120, 121]⟩) from rfl)
  refine start_ (n := 16) (S := fun w' => w'.cell? ⟨g, 0, none⟩ = some (.int .i64 0) ∧ w'.cell? ⟨gb, 2, none⟩ = some (.string ⟨#[120, 121]⟩) ∧ w'.cell? ⟨gb, 1, none⟩ = some (.int .i64 0)) (ds := [15]) #[false, false, false, false, false, false, false, false, false, false, false, false, false, false, false, false] (by kernel_rfl) rfl rfl ⟨c0, x2, x1⟩ (fun hHeld => ?_)
  clear c0 c1 c2 f0 f1 f2 x0 x1 x2
  have G3 := Aside0.mk (blk_drew G2.out)
  have X3 := Aside0.mk (blk_drew X2.out)
  have B3 := Aside0.mk (below_drew B2.out)
  generalize w2.drew = w3 at G3 X3 B3 hHeld ⊢
  clear G2 X2 B2
  have c0 := (blk_cell G3.out 0).trans (show _ = some (Value.int .i64 0) from rfl)
  have c1 := (blk_cell G3.out 1).trans (show _ = some (Value.int .i64 2) from rfl)
  have c2 := (blk_cell G3.out 2).trans (show _ = some (Value.slice none 0 0) from rfl)
  have f0 := blk_frozen G3.out 0
  have f1 := blk_frozen G3.out 1
  have f2 := blk_frozen G3.out 2
  have x0 := (blk_cell X3.out 0).trans (show _ = some (Value.int .i64 2) from rfl)
  have x1 := (blk_cell X3.out 1).trans (show _ = some (Value.int .i64 0) from rfl)
  have x2 := (blk_cell X3.out 2).trans (show _ = some (Value.string ⟨#[120, 121]⟩) from rfl)
  refine pure_ (i := 0) (N := some 13) (v := ?_) (a' := ?_) #[true, false, false, false, false, false, false, false, false, false, false, false, false, false, false, false] rfl rfl (by kernel_rfl) (fun _ _ _ h => h) (Or.inl ⟨by rfl, ?_⟩) ?_ ?_
  rotate_left
  · intro w'
    go_simp
    with_reducible rfl
  rotate_left
  · simp only [Act.put, List.setIfInBounds_toArray, List.set_cons_zero, List.set_cons_succ]
    rfl
  refine pure_ (i := 1) (N := some 14) (v := ?_) (a' := ?_) #[true, true, false, false, false, false, false, false, false, false, false, false, false, false, false, false] rfl rfl (by kernel_rfl) (fun _ _ _ h => h) (Or.inl ⟨by rfl, ?_⟩) ?_ ?_
  rotate_left
  · intro w'
    go_simp
    with_reducible rfl
  rotate_left
  · simp only [Act.put, List.setIfInBounds_toArray, List.set_cons_zero, List.set_cons_succ]
    rfl
  refine pure_ (i := 2) (N := some 15) (v := ?_) (a' := ?_) #[true, true, true, false, false, false, false, false, false, false, false, false, false, false, false, false] rfl rfl (by kernel_rfl) (fun _ _ _ h => h) (Or.inl ⟨by rfl, ?_⟩) ?_ ?_
  rotate_left
  · intro w'
    go_simp
    with_reducible rfl
  rotate_left
  · simp only [Act.put, List.setIfInBounds_toArray, List.set_cons_zero, List.set_cons_succ]
    rfl
  refine pure_ (i := 3) (N := some 16) (v := ?_) (a' := ?_) #[true, true, true, true, false, false, false, false, false, false, false, false, false, false, false, false] rfl rfl (by kernel_rfl) (fun _ _ _ h => h) (Or.inl ⟨by rfl, ?_⟩) ?_ ?_
  rotate_left
  · intro w'
    go_simp
    with_reducible rfl
  rotate_left
  · simp only [Act.put, List.setIfInBounds_toArray, List.set_cons_zero, List.set_cons_succ]
    rfl
  refine take_ (i := 4) (N := some 17) (v := ?_) (a' := ?_) #[true, true, true, true, true, false, false, false, false, false, false, false, false, false, false, false] rfl rfl (by kernel_rfl) (fun _ _ _ h => h) (Or.inl ⟨by rfl, ?_⟩) hHeld ?_ ?_
  rotate_left
  · rintro w' ⟨s0, s1, s2⟩
    go_simp
    with_reducible rfl
  rotate_left
  · simp only [Act.put, List.setIfInBounds_toArray, List.set_cons_zero, List.set_cons_succ]
    rfl
  refine pure_ (i := 5) (N := some 18) (v := ?_) (a' := ?_) #[true, true, true, true, true, true, false, false, false, false, false, false, false, false, false, false] rfl rfl (by kernel_rfl) (fun _ _ _ h => h) (Or.inl ⟨by rfl, ?_⟩) ?_ ?_
  rotate_left
  · intro w'
    go_simp
    with_reducible rfl
  rotate_left
  · simp only [Act.put, List.setIfInBounds_toArray, List.set_cons_zero, List.set_cons_succ]
    rfl
  refine take_ (i := 6) (N := some 19) (v := ?_) (a' := ?_) #[true, true, true, true, true, true, true, false, false, false, false, false, false, false, false, false] rfl rfl (by kernel_rfl) (fun _ _ _ h => h) (Or.inl ⟨by rfl, ?_⟩) hHeld ?_ ?_
  rotate_left
  · rintro w' ⟨s0, s1, s2⟩
    go_simp
    with_reducible rfl
  rotate_left
  · simp only [Act.put, List.setIfInBounds_toArray, List.set_cons_zero, List.set_cons_succ]
    rfl
  refine pure_ (i := 7) (N := some 20) (v := ?_) (a' := ?_) #[true, true, true, true, true, true, true, true, false, false, false, false, false, false, false, false] rfl rfl (by kernel_rfl) (fun _ _ _ h => h) (Or.inl ⟨by rfl, ?_⟩) ?_ ?_
  rotate_left
  · intro w'
    go_simp
    with_reducible rfl
  rotate_left
  · simp only [Act.put, List.setIfInBounds_toArray, List.set_cons_zero, List.set_cons_succ]
    rfl
  refine pure_ (i := 8) (N := some 21) (v := ?_) (a' := ?_) #[true, true, true, true, true, true, true, true, true, false, false, false, false, false, false, false] rfl rfl (by kernel_rfl) (fun _ _ _ h => h) (Or.inl ⟨by rfl, ?_⟩) ?_ ?_
  rotate_left
  · intro w'
    go_simp
    with_reducible rfl
  rotate_left
  · simp only [Act.put, List.setIfInBounds_toArray, List.set_cons_zero, List.set_cons_succ]
    rfl
  refine take_ (i := 9) (N := some 22) (v := ?_) (a' := ?_) #[true, true, true, true, true, true, true, true, true, true, false, false, false, false, false, false] rfl rfl (by kernel_rfl) (fun _ _ _ h => h) (Or.inl ⟨by rfl, ?_⟩) hHeld ?_ ?_
  rotate_left
  · rintro w' ⟨s0, s1, s2⟩
    go_simp
    with_reducible rfl
  rotate_left
  · simp only [Act.put, List.setIfInBounds_toArray, List.set_cons_zero, List.set_cons_succ]
    rfl
  refine pure_ (i := 10) (N := some 23) (v := ?_) (a' := ?_) #[true, true, true, true, true, true, true, true, true, true, true, false, false, false, false, false] rfl rfl (by kernel_rfl) (fun _ _ _ h => h) (Or.inl ⟨by rfl, ?_⟩) ?_ ?_
  rotate_left
  · intro w'
    go_simp
    with_reducible rfl
  rotate_left
  · simp only [Act.put, List.setIfInBounds_toArray, List.set_cons_zero, List.set_cons_succ]
    rfl
  refine pure_ (i := 11) (N := some 24) (v := ?_) (a' := ?_) #[true, true, true, true, true, true, true, true, true, true, true, true, false, false, false, false] rfl rfl (by kernel_rfl) (fun _ _ _ h => h) (Or.inl ⟨by rfl, ?_⟩) ?_ ?_
  rotate_left
  · intro w'
    go_simp
    with_reducible rfl
  rotate_left
  · simp only [Act.put, List.setIfInBounds_toArray, List.set_cons_zero, List.set_cons_succ]
    rfl
  refine pure_ (i := 12) (N := some 25) (v := ?_) (a' := ?_) #[true, true, true, true, true, true, true, true, true, true, true, true, true, false, false, false] rfl rfl (by kernel_rfl) (fun _ _ _ h => h) (Or.inl ⟨by rfl, ?_⟩) ?_ ?_
  rotate_left
  · intro w'
    go_simp
    with_reducible rfl
  rotate_left
  · simp only [Act.put, List.setIfInBounds_toArray, List.set_cons_zero, List.set_cons_succ]
    rfl
  refine pure_ (i := 13) (N := some 26) (v := ?_) (a' := ?_) #[true, true, true, true, true, true, true, true, true, true, true, true, true, true, false, false] rfl rfl (by kernel_rfl) (fun _ _ _ h => h) (Or.inl ⟨by rfl, ?_⟩) ?_ ?_
  rotate_left
  · intro w'
    go_simp
    with_reducible rfl
  rotate_left
  · simp only [Act.put, List.setIfInBounds_toArray, List.set_cons_zero, List.set_cons_succ]
    rfl
  refine pure_ (i := 14) (N := some 27) (v := ?_) (a' := ?_) #[true, true, true, true, true, true, true, true, true, true, true, true, true, true, true, false] rfl rfl (by kernel_rfl) (fun _ _ _ h => h) (Or.inl ⟨by rfl, ?_⟩) ?_ ?_
  rotate_left
  · intro w'
    go_simp
    with_reducible rfl
  rotate_left
  · simp only [Act.put, List.setIfInBounds_toArray, List.set_cons_zero, List.set_cons_succ]
    rfl
  refine last_ (i := 15) (N := none) #[true, true, true, true, true, true, true, true, true, true, true, true, true, true, true, true] rfl rfl (by kernel_rfl) (by decide) (fun K hK => ?_)
  refine skip_ (w1 := ?_) (by rfl) rfl ?_ ?_
  rotate_left
  · go_simp
    rfl
  refine hK.out _ _ ?_
  clear hK K
  refine done_ (by kernel_rfl) ?_
  clear c0 c1 c2 f0 f1 f2 x0 x1 x2 hHeld
  have G4 := Aside0.mk (show (w3.setCell ⟨g, 0, none⟩ (.int .i64 2)).heap[g]? = some (.cells #[.int .i64 2, .int .i64 2, .slice none 0 0] 71 (0, 0)) from blk_set G3.out 0 _)
  have X4 := Aside0.mk (blk_far X3.out (p := ⟨g, 0, none⟩) (Ne.symm NE.out) (.int .i64 2))
  have B4 := Aside0.mk (B3.out.setCell (p := ⟨g, 0, none⟩) HB.out (.int .i64 2))
  generalize w3.setCell ⟨g, 0, none⟩ (.int .i64 2) = w4 at G4 X4 B4 ⊢
  clear G3 X3 B3
  have c0 := (blk_cell G4.out 0).trans (show _ = some (Value.int .i64 2) from rfl)
  have c1 := (blk_cell G4.out 1).trans (show _ = some (Value.int .i64 2) from rfl)
  have c2 := (blk_cell G4.out 2).trans (show _ = some (Value.slice none 0 0) from rfl)
  have f0 := blk_frozen G4.out 0
  have f1 := blk_frozen G4.out 1
  have f2 := blk_frozen G4.out 2
  have x0 := (blk_cell X4.out 0).trans (show _ = some (Value.int .i64 2) from rfl)
  have x1 := (blk_cell X4.out 1).trans (show _ = some (Value.int .i64 0) from rfl)
  have x2 := (blk_cell X4.out 2).trans (show _ = some (Value.string ⟨#[120, 121]⟩) from rfl)
  go_wp2_with fail
  refine start_ (n := 11) (S := fun w' => w'.cell? ⟨g, 2, none⟩ = some (.slice none 0 0) ∧ w'.cell? ⟨gb, 0, none⟩ = some (.int .i64 2) ∧ w'.cell? ⟨gb, 1, none⟩ = some (.int .i64 0) ∧ w'.cell? ⟨gb, 2, none⟩ = some (.string ⟨#[120, 121]⟩)) (ds := [7, 10]) #[false, false, false, false, false, false, false, false, false, false, false] (by kernel_rfl) rfl rfl ⟨c2, x0, x1, x2⟩ (fun hHeld => ?_)
  clear c0 c1 c2 f0 f1 f2 x0 x1 x2
  have G5 := Aside0.mk (blk_drew G4.out)
  have X5 := Aside0.mk (blk_drew X4.out)
  have B5 := Aside0.mk (below_drew B4.out)
  generalize w4.drew = w5 at G5 X5 B5 hHeld ⊢
  clear G4 X4 B4
  have c0 := (blk_cell G5.out 0).trans (show _ = some (Value.int .i64 2) from rfl)
  have c1 := (blk_cell G5.out 1).trans (show _ = some (Value.int .i64 2) from rfl)
  have c2 := (blk_cell G5.out 2).trans (show _ = some (Value.slice none 0 0) from rfl)
  have f0 := blk_frozen G5.out 0
  have f1 := blk_frozen G5.out 1
  have f2 := blk_frozen G5.out 2
  have x0 := (blk_cell X5.out 0).trans (show _ = some (Value.int .i64 2) from rfl)
  have x1 := (blk_cell X5.out 1).trans (show _ = some (Value.int .i64 0) from rfl)
  have x2 := (blk_cell X5.out 2).trans (show _ = some (Value.string ⟨#[120, 121]⟩) from rfl)
  refine pure_ (i := 0) (N := some 28) (v := ?_) (a' := ?_) #[true, false, false, false, false, false, false, false, false, false, false] rfl rfl (by kernel_rfl) (fun _ _ _ h => h) (Or.inl ⟨by rfl, ?_⟩) ?_ ?_
  rotate_left
  · intro w'
    go_simp
    with_reducible rfl
  rotate_left
  · simp only [Act.put, List.setIfInBounds_toArray, List.set_cons_zero, List.set_cons_succ]
    rfl
  refine pure_ (i := 1) (N := some 29) (v := ?_) (a' := ?_) #[true, true, false, false, false, false, false, false, false, false, false] rfl rfl (by kernel_rfl) (fun _ _ _ h => h) (Or.inl ⟨by rfl, ?_⟩) ?_ ?_
  rotate_left
  · intro w'
    go_simp
    with_reducible rfl
  rotate_left
  · simp only [Act.put, List.setIfInBounds_toArray, List.set_cons_zero, List.set_cons_succ]
    rfl
  refine pure_ (i := 2) (N := some 30) (v := ?_) (a' := ?_) #[true, true, true, false, false, false, false, false, false, false, false] rfl rfl (by kernel_rfl) (fun _ _ _ h => h) (Or.inl ⟨by rfl, ?_⟩) ?_ ?_
  rotate_left
  · intro w'
    go_simp
    with_reducible rfl
  rotate_left
  · simp only [Act.put, List.setIfInBounds_toArray, List.set_cons_zero, List.set_cons_succ]
    rfl
  refine pure_ (i := 3) (N := some 31) (v := ?_) (a' := ?_) #[true, true, true, true, false, false, false, false, false, false, false] rfl rfl (by kernel_rfl) (fun _ _ _ h => h) (Or.inl ⟨by rfl, ?_⟩) ?_ ?_
  rotate_left
  · intro w'
    go_simp
    with_reducible rfl
  rotate_left
  · simp only [Act.put, List.setIfInBounds_toArray, List.set_cons_zero, List.set_cons_succ]
    rfl
  refine take_ (i := 4) (N := some 32) (v := ?_) (a' := ?_) #[true, true, true, true, true, false, false, false, false, false, false] rfl rfl (by kernel_rfl) (fun _ _ _ h => h) (Or.inl ⟨by rfl, ?_⟩) hHeld ?_ ?_
  rotate_left
  · rintro w' ⟨s0, s1, s2, s3⟩
    go_simp
    with_reducible rfl
  rotate_left
  · simp only [Act.put, List.setIfInBounds_toArray, List.set_cons_zero, List.set_cons_succ]
    rfl
  refine take_ (i := 5) (N := some 33) (v := ?_) (a' := ?_) #[true, true, true, true, true, true, false, false, false, false, false] rfl rfl (by kernel_rfl) (fun _ _ _ h => h) (Or.inl ⟨by rfl, ?_⟩) hHeld ?_ ?_
  rotate_left
  · rintro w' ⟨s0, s1, s2, s3⟩
    go_simp
    with_reducible rfl
  rotate_left
  · simp only [Act.put, List.setIfInBounds_toArray, List.set_cons_zero, List.set_cons_succ]
    rfl
  refine one_ (i := 6) (N := some 34) #[true, true, true, true, true, true, true, false, false, false, false] rfl rfl (by kernel_rfl) (by decide) (fun K hK => ?_)
  refine value_ (v := .slice (some ⟨w5.heap.size, 0, none⟩) 1 1) (w1 := (w5.alloc (.cells #[.int .i64 2, .int .i64 0, .string ⟨#[120, 121]⟩] 43))) (by rfl) rfl ?_ ?_
  · first | (go_simp; done) | (go_simp; rfl)
  refine hK.out _ _ ⟨pw_cell_below (below_alloc (Below.refl _ _) _) hHeld.1, pw_cell_below (below_alloc (Below.refl _ _) _) hHeld.2.1, pw_cell_below (below_alloc (Below.refl _ _) _) hHeld.2.2.1, pw_cell_below (below_alloc (Below.refl _ _) _) hHeld.2.2.2⟩ (fun _ => ?_)
  clear hK K
  refine last_ (i := 7) (N := some 35) #[true, true, true, true, true, true, true, true, false, false, false] rfl rfl (by kernel_rfl) (by decide) (fun K hK => ?_)
  obtain ⟨v7, w7, hrun, hR7, hg7⟩ := run_rows k43 (w5.alloc (.cells #[.int .i64 2, .int .i64 0, .string ⟨#[120, 121]⟩] 43)) (w5.alloc (.cells #[.int .i64 2, .int .i64 0, .string ⟨#[120, 121]⟩] 43)).heap.size 58 58 43 _ 32 Try.underlying58 info43 rfl (by decide) (by decide) (.slice none 0 0) [] [xyE] (some ⟨w5.heap.size, 0, none⟩) 1 (Kd.R_nil _ _ _ _ _) (box43 w5 xyE) (fun _ _ h => h) (Nat.le_refl _) (by simp)
  obtain ⟨D7, d7, rfl⟩ := Kd.R_slice hR7
  refine value_ (w1 := w7) (by rfl) rfl (exec_append (by rfl) (by rfl) (by rfl) hrun) ?_
  refine hK.out _ _ ?_
  clear hK K hrun hR7
  have G8 := Aside0.mk (blk_grown (blk_alloc G5.out _) hg7 (by simp [Value.ownBlock]))
  have B8 := Aside0.mk (pw_below_grown (B5.out.alloc (Nat.le_trans LE.out B5.out.size) (.cells #[.int .i64 2, .int .i64 0, .string ⟨#[120, 121]⟩] 43)) _ (by have := B5.out.size; have := LE.out; simp; omega) hg7 (fun k hk => by simp [Value.ownBlock] at hk))
  clear hg7
  have u0 : w7.cell? ⟨g, 2, none⟩ = some (.slice none 0 0) := (blk_cell G8.out 2).trans rfl
  have u1 := blk_frozen G8.out 2
  refine pure_ (i := 8) (N := some 36) (v := ?_) (a' := ?_) #[true, true, true, true, true, true, true, true, true, false, false] rfl rfl (by kernel_rfl) (fun _ _ _ h => h) (Or.inl ⟨by rfl, ?_⟩) ?_ ?_
  rotate_left
  · intro w'
    go_simp
    with_reducible rfl
  rotate_left
  · simp only [Act.put, List.setIfInBounds_toArray, List.set_cons_zero, List.set_cons_succ]
    rfl
  refine pure_ (i := 9) (N := some 37) (v := ?_) (a' := ?_) #[true, true, true, true, true, true, true, true, true, true, false] rfl rfl (by kernel_rfl) (fun _ _ _ h => h) (Or.inl ⟨by rfl, ?_⟩) ?_ ?_
  rotate_left
  · intro w'
    go_simp
    with_reducible rfl
  rotate_left
  · simp only [Act.put, List.setIfInBounds_toArray, List.set_cons_zero, List.set_cons_succ]
    rfl
  refine last_ (i := 10) (N := none) #[true, true, true, true, true, true, true, true, true, true, true] rfl rfl (by kernel_rfl) (by decide) (fun K hK => ?_)
  refine skip_ (w1 := ?_) (by rfl) rfl ?_ ?_
  rotate_left
  · go_simp
    rfl
  refine hK.out _ _ ?_
  clear hK K
  refine done_ (by kernel_rfl) ?_
  go_wp2
  go_end0
  exact ⟨rfl, B8.out.setCell (p := ⟨g, 2, none⟩) HB.out _⟩


end Go.Proofs.Ytkhilhgpkfecaaa.Mk
