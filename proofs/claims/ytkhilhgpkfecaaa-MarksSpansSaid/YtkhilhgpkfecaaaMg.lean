/- edit.Move of one edit that puts two bytes in at place 2 tells where the places 1 and 2 go. -/
import Derived.Test.YtkhilhgpkfecaaaMf
namespace Go.Proofs.Ytkhilhgpkfecaaa.Mk
open Go.RowKit Go.Proofs.YtkhilhgpkfecaaaW.PrintWords Go.Proofs.YtkhilhgpkfecaaaW.PrintLast Go.Proofs.YtkhilhgpkfecaaaW.PrintMore Go.Proofs.Ytkhilhgpkfecaaa.PMarksSpans
set_option linter.unusedVariables false
set_option linter.unusedSimpArgs false

theorem moved_two (after : Bool) : edit_moved.f 3 2 0 ⟨#[120, 121]⟩ 2 after = some (if after then 4 else 2) := by
  cases after <;> simp [edit_moved.f, edit_moved.j0, edit_moved.j1, Go.RowKit.wrap64]
  rfl


set_option maxRecDepth 100000 in
set_option maxHeartbeats 1600000 in
theorem move_one (b : Nat) (w : World) (after : Bool) (hr : w.heap[b]? = some (.cells #[.int .i64 2, .int .i64 0, .string ⟨#[120, 121]⟩] 43 (0, 0))) :
    Calls Try.prog 24 #[.slice (some ⟨b, 0, none⟩) 1 1, .int .i64 1, .bool after] w fun e w' => e = .returned (.int .i64 1) ∧ Below w.heap.size w w' := by
  have hu43 := Try.underlying43
  have hu69 := Try.underlying69
  have hu71 := Try.underlying71
  have HR := Aside0.mk hr
  clear hr
  go_enter Try.func24, Try.ntmps24
  go_wp2_with (first | ((with_reducible refine gate_dst (N := 12) rfl ?_); refine box_event ?hg (N := 12) ?hd (cs := #[.int .i64 0, .int .i64 0, .slice none 0 0]) (t := 71) ?hr ?_; (case hd => rfl); (case hg => rfl); (case hr => first | (go_simp; done) | (go_simp; rfl)); intro gb hg w1 hbox hb; have G1 := Aside0.mk hbox; have X1 := Aside0.mk (blk_below HR.out hb); have B1 := Aside0.mk hb; have GE := Aside0.mk (show w.heap.size ≤ gb from by rw [hg]; exact Nat.le_refl _); clear hbox hb hg))
  have x0 := (blk_cell X1.out 0).trans (show _ = some (Value.int .i64 2) from rfl)
  have x1 := (blk_cell X1.out 1).trans (show _ = some (Value.int .i64 0) from rfl)
  have x2 := (blk_cell X1.out 2).trans (show _ = some (Value.string ⟨#[120, 121]⟩) from rfl)
  refine wp_loop_rounds 1 ?_
  rw [rounds_succ]
  go_wp2
  go_ret
  exact ⟨rfl, by repeat (first | exact B1.out | (with_reducible apply below_alloc) | (with_reducible apply pw_below_drewN) | (with_reducible apply below_drew))⟩

set_option maxRecDepth 100000 in
set_option maxHeartbeats 1600000 in
theorem move_two (b : Nat) (w : World) (after : Bool) (r : Int) (h0 : 0 ≤ r) (h4 : r ≤ 4) (hm : edit_moved.f 3 2 0 ⟨#[120, 121]⟩ 2 after = some r) (hr : w.heap[b]? = some (.cells #[.int .i64 2, .int .i64 0, .string ⟨#[120, 121]⟩] 43 (0, 0))) :
    Calls Try.prog 24 #[.slice (some ⟨b, 0, none⟩) 1 1, .int .i64 2, .bool after] w fun e w' => e = .returned (.int .i64 r) ∧ Below w.heap.size w w' := by
  have hu43 := Try.underlying43
  have hu69 := Try.underlying69
  have hu71 := Try.underlying71
  have HR := Aside0.mk hr
  clear hr
  have HM := Aside0.mk hm
  have hwr : IntKind.i64.wrap r = r := IntWalk.i64_in r (by omega)
  clear hm
  go_enter Try.func24, Try.ntmps24
  go_wp2_with (first | ((with_reducible refine gate_dst (N := 12) rfl ?_); refine box_event ?hg (N := 12) ?hd (cs := #[.int .i64 0, .int .i64 0, .slice none 0 0]) (t := 71) ?hr ?_; (case hd => rfl); (case hg => rfl); (case hr => first | (go_simp; done) | (go_simp; rfl)); intro gb hg w1 hbox hb; have G1 := Aside0.mk hbox; have X1 := Aside0.mk (blk_below HR.out hb); have B1 := Aside0.mk hb; have GE := Aside0.mk (show w.heap.size ≤ gb from by rw [hg]; exact Nat.le_refl _); clear hbox hb hg))
  have x0 := (blk_cell X1.out 0).trans (show _ = some (Value.int .i64 2) from rfl)
  have x1 := (blk_cell X1.out 1).trans (show _ = some (Value.int .i64 0) from rfl)
  have x2 := (blk_cell X1.out 2).trans (show _ = some (Value.string ⟨#[120, 121]⟩) from rfl)
  refine wp_loop_rounds 2 ?_
  rw [rounds_succ]
  go_wp2_with fail
  have G2 := Aside0.mk (blk_alloc G1.out (.cells #[.int .i64 2, .int .i64 0, .string ⟨#[120, 121]⟩] 43))
  have X2 := Aside0.mk (blk_alloc X1.out (.cells #[.int .i64 2, .int .i64 0, .string ⟨#[120, 121]⟩] 43))
  have Y2 := Aside0.mk (blk_new w1 (.cells #[.int .i64 2, .int .i64 0, .string ⟨#[120, 121]⟩] 43 (0, 0)))
  have B2 := Aside0.mk (below_alloc B1.out (.cells #[.int .i64 2, .int .i64 0, .string ⟨#[120, 121]⟩] 43))
  have LT := Aside0.mk (show w.heap.size ≤ w1.heap.size from B1.out.size)
  generalize w1.alloc (.cells #[.int .i64 2, .int .i64 0, .string ⟨#[120, 121]⟩] 43) = w2 at G2 X2 Y2 B2 ⊢
  generalize w1.heap.size = gy at Y2 LT ⊢
  clear G1 X1 B1 x0 x1 x2
  have c0 := (blk_cell G2.out 0).trans (show _ = some (Value.int .i64 0) from rfl)
  have c1 := (blk_cell G2.out 1).trans (show _ = some (Value.int .i64 0) from rfl)
  have c2 := (blk_cell G2.out 2).trans (show _ = some (Value.slice none 0 0) from rfl)
  have y0 := (blk_cell Y2.out 0).trans (show _ = some (Value.int .i64 2) from rfl)
  have y1 := (blk_cell Y2.out 1).trans (show _ = some (Value.int .i64 0) from rfl)
  have y2 := (blk_cell Y2.out 2).trans (show _ = some (Value.string ⟨#[120, 121]⟩) from rfl)
  refine start_ (n := 11) (S := fun w' => w'.cell? ⟨gb, 0, none⟩ = some (.int .i64 0) ∧ w'.cell? ⟨gy, 0, none⟩ = some (.int .i64 2) ∧ w'.cell? ⟨gy, 1, none⟩ = some (.int .i64 0) ∧ w'.cell? ⟨gy, 2, none⟩ = some (.string ⟨#[120, 121]⟩)) (ds := []) #[false, false, false, false, false, false, false, false, false, false, false] (by kernel_rfl) rfl rfl ⟨c0, y0, y1, y2⟩ (fun hHeld => ?_)
  clear c0 c1 c2 y0 y1 y2
  have G3 := Aside0.mk (blk_drew G2.out)
  have X3 := Aside0.mk (blk_drew X2.out)
  have Y3 := Aside0.mk (blk_drew Y2.out)
  have B3 := Aside0.mk (below_drew B2.out)
  generalize w2.drew = w3 at G3 X3 Y3 B3 hHeld ⊢
  clear G2 X2 Y2 B2
  refine pure_ (i := 0) (N := some 24) (v := ?_) (a' := ?_) #[true, false, false, false, false, false, false, false, false, false, false] rfl rfl (by kernel_rfl) (fun _ _ _ h => h) (Or.inl ⟨by rfl, ?_⟩) ?_ ?_
  rotate_left
  · intro w'
    go_simp
    with_reducible rfl
  rotate_left
  · simp only [Act.put, List.setIfInBounds_toArray, List.set_cons_zero, List.set_cons_succ]
    rfl
  refine pure_ (i := 1) (N := some 25) (v := ?_) (a' := ?_) #[true, true, false, false, false, false, false, false, false, false, false] rfl rfl (by kernel_rfl) (fun _ _ _ h => h) (Or.inl ⟨by rfl, ?_⟩) ?_ ?_
  rotate_left
  · intro w'
    go_simp
    with_reducible rfl
  rotate_left
  · simp only [Act.put, List.setIfInBounds_toArray, List.set_cons_zero, List.set_cons_succ]
    rfl
  refine pure_ (i := 2) (N := some 26) (v := ?_) (a' := ?_) #[true, true, true, false, false, false, false, false, false, false, false] rfl rfl (by kernel_rfl) (fun _ _ _ h => h) (Or.inl ⟨by rfl, ?_⟩) ?_ ?_
  rotate_left
  · intro w'
    go_simp
    with_reducible rfl
  rotate_left
  · simp only [Act.put, List.setIfInBounds_toArray, List.set_cons_zero, List.set_cons_succ]
    rfl
  refine pure_ (i := 3) (N := some 27) (v := ?_) (a' := ?_) #[true, true, true, true, false, false, false, false, false, false, false] rfl rfl (by kernel_rfl) (fun _ _ _ h => h) (Or.inl ⟨by rfl, ?_⟩) ?_ ?_
  rotate_left
  · intro w'
    go_simp
    with_reducible rfl
  rotate_left
  · simp only [Act.put, List.setIfInBounds_toArray, List.set_cons_zero, List.set_cons_succ]
    rfl
  refine take_ (i := 4) (N := some 28) (v := ?_) (a' := ?_) #[true, true, true, true, true, false, false, false, false, false, false] rfl rfl (by kernel_rfl) (fun _ _ _ h => h) (Or.inl ⟨by rfl, ?_⟩) hHeld ?_ ?_
  rotate_left
  · rintro w' ⟨s0, s1, s2, s3⟩
    go_simp
    with_reducible rfl
  rotate_left
  · simp only [Act.put, List.setIfInBounds_toArray, List.set_cons_zero, List.set_cons_succ]
    rfl
  refine take_ (i := 5) (N := some 29) (v := ?_) (a' := ?_) #[true, true, true, true, true, true, false, false, false, false, false] rfl rfl (by kernel_rfl) (fun _ _ _ h => h) (Or.inl ⟨by rfl, ?_⟩) hHeld ?_ ?_
  rotate_left
  · rintro w' ⟨s0, s1, s2, s3⟩
    go_simp
    with_reducible rfl
  rotate_left
  · simp only [Act.put, List.setIfInBounds_toArray, List.set_cons_zero, List.set_cons_succ]
    rfl
  refine pure_ (i := 6) (N := some 30) (v := ?_) (a' := ?_) #[true, true, true, true, true, true, true, false, false, false, false] rfl rfl (by kernel_rfl) (fun _ _ _ h => h) (Or.inl ⟨by rfl, ?_⟩) ?_ ?_
  rotate_left
  · intro w'
    go_simp
    with_reducible rfl
  rotate_left
  · simp only [Act.put, List.setIfInBounds_toArray, List.set_cons_zero, List.set_cons_succ]
    rfl
  refine pure_ (i := 7) (N := some 31) (v := ?_) (a' := ?_) #[true, true, true, true, true, true, true, true, false, false, false] rfl rfl (by kernel_rfl) (fun _ _ _ h => h) (Or.inl ⟨by rfl, ?_⟩) ?_ ?_
  rotate_left
  · intro w'
    go_simp
    with_reducible rfl
  rotate_left
  · simp only [Act.put, List.setIfInBounds_toArray, List.set_cons_zero, List.set_cons_succ]
    rfl
  refine one_ (i := 8) (N := some 32) #[true, true, true, true, true, true, true, true, true, false, false] rfl rfl (by kernel_rfl) (by decide) (fun K hK => ?_)
  refine goes_ Try.func34 (by kernel_rfl) rfl #[.agg #[.int .i64 2, .int .i64 0, .string ⟨#[120, 121]⟩], .int .i64 2, .bool after] (by rfl) rfl rfl (by simp only [List.map_toArray, List.map_cons, List.map_nil]; rfl) ?_
  refine (edit_moved.calls 3 2 0 ⟨#[120, 121]⟩ 2 after r _ HM.out).mono ?_
  rintro e w4 ⟨rfl, hb⟩
  refine ⟨_, rfl, ?_⟩
  refine hK.out _ _ ⟨pw_cell_below hb hHeld.1, pw_cell_below hb hHeld.2.1, pw_cell_below hb hHeld.2.2.1, pw_cell_below hb hHeld.2.2.2⟩ (fun _ => ?_)
  clear hK K
  have G4 := Aside0.mk (blk_below G3.out hb)
  have X4 := Aside0.mk (blk_below X3.out hb)
  have Y4 := Aside0.mk (blk_below Y3.out hb)
  have B4 := Aside0.mk (below_step B3.out hb)
  clear hb hHeld
  refine pure_ (i := 9) (N := some 33) (v := ?_) (a' := ?_) #[true, true, true, true, true, true, true, true, true, true, false] rfl rfl (by kernel_rfl) (fun _ _ _ h => h) (Or.inl ⟨by rfl, ?_⟩) ?_ ?_
  rotate_left
  · intro w'
    go_simp
    with_reducible rfl
  rotate_left
  · simp only [Act.put, List.setIfInBounds_toArray, List.set_cons_zero, List.set_cons_succ]
    rfl
  refine pure_ (i := 10) (N := some 8) (v := ?_) (a' := ?_) #[true, true, true, true, true, true, true, true, true, true, true] rfl rfl (by kernel_rfl) (fun _ _ _ h => h) (Or.inl ⟨by rfl, ?_⟩) ?_ ?_
  rotate_left
  · intro w'
    go_simp
    with_reducible rfl
  rotate_left
  · simp only [Act.put, List.setIfInBounds_toArray, List.set_cons_zero, List.set_cons_succ]
    rfl
  refine done_ (by kernel_rfl) ?_
  go_wp2_with fail
  refine (put_one gb w.heap.size w4 G4.out GE.out).mono ?_
  rintro e w5 ⟨rfl, hb⟩
  have B5 := Aside0.mk (B4.out.trans hb)
  clear hb
  go_wp2_with fail
  rw [rounds_succ]
  go_wp2
  go_ret
  exact ⟨rfl, B5.out⟩

theorem move_any (b at_ : Nat) (w : World) (after : Bool) (r : Int) (hr : w.heap[b]? = some (.cells #[.int .i64 2, .int .i64 0, .string ⟨#[120, 121]⟩] 43 (0, 0)))
    (h : (at_ = 1 ∧ r = 1) ∨ (at_ = 2 ∧ after = true ∧ r = 4) ∨ (at_ = 2 ∧ after = false ∧ r = 2)) :
    Calls Try.prog 24 #[.slice (some ⟨b, 0, none⟩) 1 1, .int .i64 (at_ : Int), .bool after] w fun e w' => e = .returned (.int .i64 r) ∧ Below w.heap.size w w' := by
  rcases h with ⟨rfl, rfl⟩ | ⟨rfl, rfl, rfl⟩ | ⟨rfl, rfl, rfl⟩
  · exact move_one b w after hr
  · exact move_two b w true 4 (by decide) (by decide) (moved_two true) hr
  · exact move_two b w false 2 (by decide) (by decide) (moved_two false) hr


end Go.Proofs.Ytkhilhgpkfecaaa.Mk
