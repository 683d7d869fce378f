/- marks.Move of the chapter's example. -/
import Derived.Test.YtkhilhgpkfecaaaMi
namespace Go.Proofs.Ytkhilhgpkfecaaa.Mk
open Go.RowKit Go.Proofs.YtkhilhgpkfecaaaW.PrintWords Go.Proofs.YtkhilhgpkfecaaaW.PrintLast Go.Proofs.YtkhilhgpkfecaaaW.PrintMore Go.Proofs.Ytkhilhgpkfecaaa.PMarksSpans
set_option linter.unusedVariables false
set_option linter.unusedSimpArgs false
attribute [local go_sem] max2_int max_two

/-- A store of what the cell holds leaves the world as it was. -/
theorem setCell_noop {w : World} {p : Addr} {v : Value} (h : w.cell? p = some v) : w.setCell p v = w := by
  unfold World.cell? at h
  have key : (w.setCell p v).heap = w.heap := by
    unfold World.setCell
    dsimp only
    apply Array.ext
    · simp
    · intro i h1 h2
      rw [Array.getElem_modify]
      by_cases hi : p.block = i
      · rw [if_pos hi]
        subst hi
        rw [Array.getElem?_eq_getElem h2] at h
        cases ho : w.heap[p.block] with
        | cells c e fr =>
          rw [ho] at h
          by_cases hs : p.spot.isSome = true
          · simp [hs]
          · have h3 : c[p.off]? = some v := by simpa [hs] using h
            obtain ⟨h4, h5⟩ := Array.getElem?_eq_some_iff.1 h3
            have h6 : c.setIfInBounds p.off v = c := by
              apply Array.ext
              · simp
              · intro j h6 h7
                rw [Array.getElem_setIfInBounds]
                split
                · rename_i hj
                  subst hj
                  exact h5.symm
                · rfl
            simp [hs, h6]
        | _ => rfl
      · rw [if_neg hi]
  have h8 : w.setCell p v = { w with heap := (w.setCell p v).heap } := rfl
  rw [h8, key]

theorem int_cells {w : World} {bs g e : Nat} {x : Int} (h : (Kd.int .i64).R 3 w bs (fun _ => True) (.slice (some ⟨g, 0, none⟩) 1 e) [x]) :
    w.cell? ⟨g, 0, none⟩ = some (.int .i64 x) ∧ w.frozen? ⟨g, 0, none⟩ = false :=
  Kd.R_cell (0 : Int) h 0 (by simp) (by simp)
theorem span_cells {w : World} {bs g e : Nat} {x : S38} (h : k38.R 38 w bs (fun _ => True) (.slice (some ⟨g, 0, none⟩) 1 e) [x]) :
    w.cell? ⟨g, 0, none⟩ = some (.int .i64 x.f0) ∧ w.cell? ⟨g, 1, none⟩ = some (.int .i64 x.f1) ∧ w.frozen? ⟨g, 0, none⟩ = false ∧ w.frozen? ⟨g, 1, none⟩ = false := by
  obtain ⟨ad, he, h0, h1⟩ := at_T38 (Kd.R_reads' h).2.2 0 (by simp) (by simp)
  injection he with he
  subst he
  obtain ⟨g', c', hv, _, _, cells, hc⟩ := Kd.R_form h (by simp)
  injection hv with hv
  injection hv with hv
  injection hv with hv
  subst hv
  exact ⟨h0, h1, blk_frozen hc 0, blk_frozen hc 1⟩

/-- What marks.Move answers at the chapter's example. -/
def MovedRet (w : World) (e : Ending) (w' : World) : Prop :=
  ∃ D1 k1 D2 k2 D3 k3, e = .returned (.agg #[.int .i64 4, .slice D1 1 k1, .slice D2 1 k2, .slice D3 1 k3]) ∧ 1 ≤ k1 ∧ 1 ≤ k2 ∧ 1 ≤ k3 ∧
    Kd.string.C w' D1 1 [⟨#[97]⟩] ∧ (Kd.int .i64).C w' D2 1 [2] ∧ k38.C w' D3 1 [S38.mk 1 2] ∧ Below w.heap.size w w'

set_option maxRecDepth 100000 in
set_option maxHeartbeats 1600000 in
theorem move_marks (A1 : Option Addr) (c1 : Nat) (A2 : Option Addr) (c2 : Nat) (A3 : Option Addr) (c3 : Nat) (b : Nat) (w : World)
    (hr1 : Kd.C Kd.string w A1 1 [⟨#[97]⟩]) (hr2 : Kd.C (Kd.int .i64) w A2 1 [2]) (hr3 : Kd.C k38 w A3 1 [S38.mk 1 2])
    (hx : w.heap[b]? = some (.cells #[.int .i64 2, .int .i64 0, .string ⟨#[120, 121]⟩] 43 (0, 0))) :
    Calls Try.prog 13 #[.agg #[.int .i64 2, .slice A1 1 c1, .slice A2 1 c2, .slice A3 1 c3], .slice (some ⟨b, 0, none⟩) 1 1] w fun e w' => MovedRet w e w' := by
  have hu26 := Try.underlying26
  have hu38 := Try.underlying38
  have HR1 := Aside0.mk hr1
  have HR2 := Aside0.mk hr2
  have HR3 := Aside0.mk hr3
  have HX := Aside0.mk hx
  clear hr1 hr2 hr3 hx
  go_enter Try.func13, Try.ntmps13
  go_wp2_with fail
  obtain ⟨k1, k2, k3⟩ := alloc2 w (.cells #[.int .i64 2, .slice A1 1 c1, .slice A2 1 c2, .slice A3 1 c3] 26 (0, 0)) (.cells #[.int .i64 0, .slice none 0 0, .slice none 0 0, .slice none 0 0] 26 (0, 0))
  refine (of_any 2 A1 c1 [⟨#[97]⟩] A2 c2 [2] A3 c3 [S38.mk 1 2] _ (Kd.C_below HR1.out k3) (Kd.C_below HR2.out k3) (Kd.C_below HR3.out k3) (by simp) (by simp) (by simp)).mono ?_
  generalize (w.alloc (.cells #[.int .i64 2, .slice A1 1 c1, .slice A2 1 c2, .slice A3 1 c3] 26)).alloc (.cells #[.int .i64 0, .slice none 0 0, .slice none 0 0, .slice none 0 0] 26) = w1 at k1 k2 k3 ⊢
  have HX1 := Aside0.mk (blk_below HX.out k3)
  rintro e w2 ⟨g, v1, v2, v3, rfl, hg, hge, h1, h2, h3, hb⟩
  obtain ⟨B1, e1, rfl⟩ := Kd.R_slice h1
  obtain ⟨g2, e2, rfl, hg2, hg2l, _⟩ := Kd.R_form h2 (by simp)
  obtain ⟨g3, e3, rfl, hg3, hg3l, _⟩ := Kd.R_form h3 (by simp)
  have hlt2 := blk_lt k2
  have hltb := blk_lt HX1.out
  have NE := Aside0.mk (show w.heap.size + 1 ≠ g from by omega)
  have NEb := Aside0.mk (show b ≠ g from by omega)
  have GE := Aside0.mk (show w.heap.size ≤ g from by have := k3.size; omega)
  have G2 := Aside0.mk hg
  have P2 := Aside0.mk (blk_below k2 hb)
  have X2 := Aside0.mk (blk_below HX1.out hb)
  have N12 := Aside0.mk h1
  have N22 := Aside0.mk h2
  have N32 := Aside0.mk h3
  have B2 := Aside0.mk (below_step k3 hb)
  have HBS := Aside0.mk k3.size
  clear hlt2 hltb hg hge h1 h2 h3 hb k1 k2 k3 hg2 hg2l hg3 hg3l HX1 HX HR1 HR2 HR3
  generalize w1.heap.size = bs at N12 N22 N32 HBS
  have x0 := (blk_cell G2.out 0).trans (show _ = some (Value.int .i64 2) from rfl)
  have x1 := (blk_cell G2.out 1).trans (show _ = some (Value.slice B1 1 e1) from rfl)
  have x2 := (blk_cell G2.out 2).trans (show _ = some (Value.slice (some ⟨g2, 0, none⟩) 1 e2) from rfl)
  have x3 := (blk_cell G2.out 3).trans (show _ = some (Value.slice (some ⟨g3, 0, none⟩) 1 e3) from rfl)
  go_wp2_with fail
  refine (move_any b 2 w2 true 4 X2.out (by simp)).mono ?_
  rintro e w3 ⟨rfl, hb⟩
  clear x0 x1 x2 x3
  have G3 := Aside0.mk (blk_below G2.out hb)
  have P3 := Aside0.mk (blk_below P2.out hb)
  have X3 := Aside0.mk (blk_below X2.out hb)
  have N13 := Aside0.mk (Kd.R_below N12.out hb)
  have N23 := Aside0.mk (Kd.R_below N22.out hb)
  have N33 := Aside0.mk (Kd.R_below N32.out hb)
  have B3 := Aside0.mk (below_step B2.out hb)
  clear G2 P2 X2 N12 N22 N32 B2 hb
  have x0 := (blk_cell G3.out 0).trans (show _ = some (Value.int .i64 2) from rfl)
  have x1 := (blk_cell G3.out 1).trans (show _ = some (Value.slice B1 1 e1) from rfl)
  have x2 := (blk_cell G3.out 2).trans (show _ = some (Value.slice (some ⟨g2, 0, none⟩) 1 e2) from rfl)
  have x3 := (blk_cell G3.out 3).trans (show _ = some (Value.slice (some ⟨g3, 0, none⟩) 1 e3) from rfl)
  have y0 := blk_frozen G3.out 0
  have y1 := blk_frozen G3.out 1
  have y2 := blk_frozen G3.out 2
  have y3 := blk_frozen G3.out 3
  go_wp2_with fail
  clear x0 x1 x2 x3 y0 y1 y2 y3
  have hk := (KeepBut.refl w3 g none).set_ 0 (.int .i64 4)
  have G4 := Aside0.mk (show (w3.setCell ⟨g, 0, none⟩ (.int .i64 4)).heap[g]? = some (.cells #[.int .i64 4, (.slice B1 1 e1), (.slice (some ⟨g2, 0, none⟩) 1 e2), (.slice (some ⟨g3, 0, none⟩) 1 e3)] 50 (0, 0)) from blk_set G3.out 0 _)
  have P4 := Aside0.mk (blk_far P3.out (p := ⟨g, 0, none⟩) NE.out (.int .i64 4))
  have X4 := Aside0.mk (blk_far X3.out (p := ⟨g, 0, none⟩) NEb.out (.int .i64 4))
  have N14 := Aside0.mk (R_keptBut N13.out G3.out (by decide) hk)
  have N24 := Aside0.mk (R_keptBut N23.out G3.out (by decide) hk)
  have N34 := Aside0.mk (R_keptBut N33.out G3.out (by decide) hk)
  have B4 := Aside0.mk (B3.out.setCell (p := ⟨g, 0, none⟩) GE.out (.int .i64 4))
  clear hk G3 P3 X3 N13 N23 N33 B3
  generalize w3.setCell ⟨g, 0, none⟩ (.int .i64 4) = w4 at G4 P4 X4 N14 N24 N34 B4 ⊢
  have x0 := (blk_cell G4.out 0).trans (show _ = some (Value.int .i64 4) from rfl)
  have x1 := (blk_cell G4.out 1).trans (show _ = some (Value.slice B1 1 e1) from rfl)
  have x2 := (blk_cell G4.out 2).trans (show _ = some (Value.slice (some ⟨g2, 0, none⟩) 1 e2) from rfl)
  have x3 := (blk_cell G4.out 3).trans (show _ = some (Value.slice (some ⟨g3, 0, none⟩) 1 e3) from rfl)
  have q0 := (int_cells N24.out).1
  refine wp_loop_rounds 2 ?_
  rw [rounds_succ]
  go_wp2_with fail
  refine start_ (n := 11) (S := fun w' => w'.cell? ⟨g, 2, none⟩ = some (.slice (some ⟨g2, 0, none⟩) 1 e2)) (ds := [10]) #[false, false, false, false, false, false, false, false, false, false, false] (by kernel_rfl) rfl rfl x2 (fun hHeld => ?_)
  have G5 := Aside0.mk (blk_drew G4.out)
  have P5 := Aside0.mk (blk_drew P4.out)
  have X5 := Aside0.mk (blk_drew X4.out)
  have N15 := Aside0.mk (Kd.R_drew N14.out)
  have N25 := Aside0.mk (Kd.R_drew N24.out)
  have N35 := Aside0.mk (Kd.R_drew N34.out)
  have B5 := Aside0.mk (below_drew B4.out)
  generalize w4.drew = w5 at G5 P5 X5 N15 N25 N35 B5 hHeld ⊢
  clear G4 P4 X4 N14 N24 N34 B4
  refine pure_ (i := 0) (N := some 35) (v := ?_) (a' := ?_) #[true, false, false, false, false, false, false, false, false, false, false] rfl rfl (by kernel_rfl) (fun _ _ _ h => h) (Or.inl ⟨by rfl, ?_⟩) ?_ ?_
  rotate_left
  · intro w'
    go_simp
    with_reducible rfl
  rotate_left
  · simp only [Act.put, List.setIfInBounds_toArray, List.set_cons_zero, List.set_cons_succ]
    rfl
  refine pure_ (i := 1) (N := some 36) (v := ?_) (a' := ?_) #[true, true, false, false, false, false, false, false, false, false, false] rfl rfl (by kernel_rfl) (fun _ _ _ h => h) (Or.inl ⟨by rfl, ?_⟩) ?_ ?_
  rotate_left
  · intro w'
    go_simp
    with_reducible rfl
  rotate_left
  · simp only [Act.put, List.setIfInBounds_toArray, List.set_cons_zero, List.set_cons_succ]
    rfl
  refine pure_ (i := 2) (N := some 37) (v := ?_) (a' := ?_) #[true, true, true, false, false, false, false, false, false, false, false] rfl rfl (by kernel_rfl) (fun _ _ _ h => h) (Or.inl ⟨by rfl, ?_⟩) ?_ ?_
  rotate_left
  · intro w'
    go_simp
    with_reducible rfl
  rotate_left
  · simp only [Act.put, List.setIfInBounds_toArray, List.set_cons_zero, List.set_cons_succ]
    rfl
  refine pure_ (i := 3) (N := some 38) (v := ?_) (a' := ?_) #[true, true, true, true, false, false, false, false, false, false, false] rfl rfl (by kernel_rfl) (fun _ _ _ h => h) (Or.inl ⟨by rfl, ?_⟩) ?_ ?_
  rotate_left
  · intro w'
    go_simp
    with_reducible rfl
  rotate_left
  · simp only [Act.put, List.setIfInBounds_toArray, List.set_cons_zero, List.set_cons_succ]
    rfl
  refine take_ (i := 4) (N := some 39) (v := ?_) (a' := ?_) #[true, true, true, true, true, false, false, false, false, false, false] rfl rfl (by kernel_rfl) (fun _ _ _ h => h) (Or.inl ⟨by rfl, ?_⟩) hHeld ?_ ?_
  rotate_left
  · rintro w' s0
    go_simp
    with_reducible rfl
  rotate_left
  · simp only [Act.put, List.setIfInBounds_toArray, List.set_cons_zero, List.set_cons_succ]
    rfl
  refine pure_ (i := 5) (N := some 40) (v := ?_) (a' := ?_) #[true, true, true, true, true, true, false, false, false, false, false] rfl rfl (by kernel_rfl) (fun _ _ _ h => h) (Or.inl ⟨by rfl, ?_⟩) ?_ ?_
  rotate_left
  · intro w'
    go_simp
    with_reducible rfl
  rotate_left
  · simp only [Act.put, List.setIfInBounds_toArray, List.set_cons_zero, List.set_cons_succ]
    rfl
  refine pure_ (i := 6) (N := some 41) (v := ?_) (a' := ?_) #[true, true, true, true, true, true, true, false, false, false, false] rfl rfl (by kernel_rfl) (fun _ _ _ h => h) (Or.inl ⟨by rfl, ?_⟩) ?_ ?_
  rotate_left
  · intro w'
    go_simp
    with_reducible rfl
  rotate_left
  · simp only [Act.put, List.setIfInBounds_toArray, List.set_cons_zero, List.set_cons_succ]
    rfl
  refine pure_ (i := 7) (N := some 42) (v := ?_) (a' := ?_) #[true, true, true, true, true, true, true, true, false, false, false] rfl rfl (by kernel_rfl) (fun _ _ _ h => h) (Or.inl ⟨by rfl, ?_⟩) ?_ ?_
  rotate_left
  · intro w'
    go_simp
    with_reducible rfl
  rotate_left
  · simp only [Act.put, List.setIfInBounds_toArray, List.set_cons_zero, List.set_cons_succ]
    rfl
  refine one_ (i := 8) (N := some 43) #[true, true, true, true, true, true, true, true, true, false, false] rfl rfl (by kernel_rfl) (by decide) (fun K hK => ?_)
  refine goes_ Try.func24 (by kernel_rfl) rfl #[.slice (some ⟨b, 0, none⟩) 1 1, .int .i64 2, .bool false] (by rfl) rfl rfl (by simp only [List.map_toArray, List.map_cons, List.map_nil]; rfl) ?_
  refine (move_any b 2 w5 false 2 X5.out (by simp)).mono ?_
  rintro e w6 ⟨rfl, hb⟩
  refine ⟨_, rfl, ?_⟩
  have G6 := Aside0.mk (blk_below G5.out hb)
  have P6 := Aside0.mk (blk_below P5.out hb)
  have X6 := Aside0.mk (blk_below X5.out hb)
  have N16 := Aside0.mk (Kd.R_below N15.out hb)
  have N26 := Aside0.mk (Kd.R_below N25.out hb)
  have N36 := Aside0.mk (Kd.R_below N35.out hb)
  have B6 := Aside0.mk (below_step B5.out hb)
  clear G5 P5 X5 N15 N25 N35 B5 hb
  have z0 := (int_cells N26.out).1
  have z1 := (int_cells N26.out).2
  refine hK.out _ _ ((blk_cell G6.out 2).trans rfl) (fun _ => ?_)
  clear hK K
  refine pure_ (i := 9) (N := some 44) (v := ?_) (a' := ?_) #[true, true, true, true, true, true, true, true, true, true, false] rfl rfl (by kernel_rfl) (fun _ _ _ h => h) (Or.inl ⟨by rfl, ?_⟩) ?_ ?_
  rotate_left
  · intro w'
    go_simp
    with_reducible rfl
  rotate_left
  · simp only [Act.put, List.setIfInBounds_toArray, List.set_cons_zero, List.set_cons_succ]
    rfl
  refine last_ (i := 10) (N := none) #[true, true, true, true, true, true, true, true, true, true, true] rfl rfl (by kernel_rfl) (by decide) (fun K hK => ?_)
  refine skip_ (w1 := ?_) (by rfl) rfl ?_ ?_
  rotate_left
  · go_simp
    rfl
  refine hK.out _ _ ?_
  clear hK K
  refine done_ (by kernel_rfl) ?_
  rw [setCell_noop z0]
  clear z0 z1 q0 x0 x1 x2 x3
  go_wp2_with fail
  rw [rounds_succ]
  have x0 := (blk_cell G6.out 0).trans (show _ = some (Value.int .i64 4) from rfl)
  have x1 := (blk_cell G6.out 1).trans (show _ = some (Value.slice B1 1 e1) from rfl)
  have x2 := (blk_cell G6.out 2).trans (show _ = some (Value.slice (some ⟨g2, 0, none⟩) 1 e2) from rfl)
  have x3 := (blk_cell G6.out 3).trans (show _ = some (Value.slice (some ⟨g3, 0, none⟩) 1 e3) from rfl)
  go_wp2_with fail
  refine wp_loop_rounds 2 ?_
  rw [rounds_succ]
  have q0 := (span_cells N36.out).1
  have q1 := (span_cells N36.out).2.1
  go_wp2_with fail
  clear q0 q1 x0 x1 x2 x3
  have Y7 := Aside0.mk (blk_new w6 (.cells #[.int .i64 1, .int .i64 2] 38 (0, 0)))
  have hb : Below w6.heap.size w6 (w6.alloc (.cells #[.int .i64 1, .int .i64 2] 38)) := below_alloc (Below.refl _ _) _
  generalize w6.alloc (.cells #[.int .i64 1, .int .i64 2] 38) = w7 at Y7 hb ⊢
  have G7 := Aside0.mk (blk_below G6.out hb)
  have P7 := Aside0.mk (blk_below P6.out hb)
  have X7 := Aside0.mk (blk_below X6.out hb)
  have N17 := Aside0.mk (Kd.R_below N16.out hb)
  have N27 := Aside0.mk (Kd.R_below N26.out hb)
  have N37 := Aside0.mk (Kd.R_below N36.out hb)
  have B7 := Aside0.mk (below_step B6.out hb)
  clear G6 P6 X6 N16 N26 N36 B6 hb
  generalize w6.heap.size = gs at Y7 ⊢
  refine (move_any b 1 w7 true 1 X7.out (by simp)).mono ?_
  rintro e w8 ⟨rfl, hb⟩
  have Y8 := Aside0.mk (blk_below Y7.out hb)
  clear Y7
  have G8 := Aside0.mk (blk_below G7.out hb)
  have P8 := Aside0.mk (blk_below P7.out hb)
  have X8 := Aside0.mk (blk_below X7.out hb)
  have N18 := Aside0.mk (Kd.R_below N17.out hb)
  have N28 := Aside0.mk (Kd.R_below N27.out hb)
  have N38 := Aside0.mk (Kd.R_below N37.out hb)
  have B8 := Aside0.mk (below_step B7.out hb)
  clear G7 P7 X7 N17 N27 N37 B7 hb
  have x0 := (blk_cell G8.out 0).trans (show _ = some (Value.int .i64 4) from rfl)
  have x1 := (blk_cell G8.out 1).trans (show _ = some (Value.slice B1 1 e1) from rfl)
  have x2 := (blk_cell G8.out 2).trans (show _ = some (Value.slice (some ⟨g2, 0, none⟩) 1 e2) from rfl)
  have x3 := (blk_cell G8.out 3).trans (show _ = some (Value.slice (some ⟨g3, 0, none⟩) 1 e3) from rfl)
  have q1 : w8.cell? ⟨gs, 1, none⟩ = some (.int .i64 2) := (blk_cell Y8.out 1).trans rfl
  go_wp2_with fail
  refine start_ (n := 16) (S := fun w' => w'.cell? ⟨g, 3, none⟩ = some (.slice (some ⟨g3, 0, none⟩) 1 e3) ∧ w'.cell? ⟨gs, 1, none⟩ = some (.int .i64 2)) (ds := [15]) #[false, false, false, false, false, false, false, false, false, false, false, false, false, false, false, false] (by kernel_rfl) rfl rfl ⟨x3, q1⟩ (fun hHeld => ?_)
  have G9 := Aside0.mk (blk_drew G8.out)
  have P9 := Aside0.mk (blk_drew P8.out)
  have X9 := Aside0.mk (blk_drew X8.out)
  have Y9 := Aside0.mk (blk_drew Y8.out)
  have N19 := Aside0.mk (Kd.R_drew N18.out)
  have N29 := Aside0.mk (Kd.R_drew N28.out)
  have N39 := Aside0.mk (Kd.R_drew N38.out)
  have B9 := Aside0.mk (below_drew B8.out)
  generalize w8.drew = w9 at G9 P9 X9 Y9 N19 N29 N39 B9 hHeld ⊢
  clear G8 P8 X8 Y8 N18 N28 N38 B8
  refine pure_ (i := 0) (N := some 61) (v := ?_) (a' := ?_) #[true, false, false, false, false, false, false, false, false, false, false, false, false, false, false, false] rfl rfl (by kernel_rfl) (fun _ _ _ h => h) (Or.inl ⟨by rfl, ?_⟩) ?_ ?_
  rotate_left
  · intro w'
    go_simp
    with_reducible rfl
  rotate_left
  · simp only [Act.put, List.setIfInBounds_toArray, List.set_cons_zero, List.set_cons_succ]
    rfl
  refine pure_ (i := 1) (N := some 62) (v := ?_) (a' := ?_) #[true, true, false, false, false, false, false, false, false, false, false, false, false, false, false, false] rfl rfl (by kernel_rfl) (fun _ _ _ h => h) (Or.inl ⟨by rfl, ?_⟩) ?_ ?_
  rotate_left
  · intro w'
    go_simp
    with_reducible rfl
  rotate_left
  · simp only [Act.put, List.setIfInBounds_toArray, List.set_cons_zero, List.set_cons_succ]
    rfl
  refine pure_ (i := 2) (N := some 63) (v := ?_) (a' := ?_) #[true, true, true, false, false, false, false, false, false, false, false, false, false, false, false, false] rfl rfl (by kernel_rfl) (fun _ _ _ h => h) (Or.inl ⟨by rfl, ?_⟩) ?_ ?_
  rotate_left
  · intro w'
    go_simp
    with_reducible rfl
  rotate_left
  · simp only [Act.put, List.setIfInBounds_toArray, List.set_cons_zero, List.set_cons_succ]
    rfl
  refine pure_ (i := 3) (N := some 64) (v := ?_) (a' := ?_) #[true, true, true, true, false, false, false, false, false, false, false, false, false, false, false, false] rfl rfl (by kernel_rfl) (fun _ _ _ h => h) (Or.inl ⟨by rfl, ?_⟩) ?_ ?_
  rotate_left
  · intro w'
    go_simp
    with_reducible rfl
  rotate_left
  · simp only [Act.put, List.setIfInBounds_toArray, List.set_cons_zero, List.set_cons_succ]
    rfl
  refine take_ (i := 4) (N := some 65) (v := ?_) (a' := ?_) #[true, true, true, true, true, false, false, false, false, false, false, false, false, false, false, false] rfl rfl (by kernel_rfl) (fun _ _ _ h => h) (Or.inl ⟨by rfl, ?_⟩) hHeld ?_ ?_
  rotate_left
  · rintro w' ⟨s0, s1⟩
    go_simp
    with_reducible rfl
  rotate_left
  · simp only [Act.put, List.setIfInBounds_toArray, List.set_cons_zero, List.set_cons_succ]
    rfl
  refine pure_ (i := 5) (N := some 66) (v := ?_) (a' := ?_) #[true, true, true, true, true, true, false, false, false, false, false, false, false, false, false, false] rfl rfl (by kernel_rfl) (fun _ _ _ h => h) (Or.inl ⟨by rfl, ?_⟩) ?_ ?_
  rotate_left
  · intro w'
    go_simp
    with_reducible rfl
  rotate_left
  · simp only [Act.put, List.setIfInBounds_toArray, List.set_cons_zero, List.set_cons_succ]
    rfl
  refine pure_ (i := 6) (N := some 67) (v := ?_) (a' := ?_) #[true, true, true, true, true, true, true, false, false, false, false, false, false, false, false, false] rfl rfl (by kernel_rfl) (fun _ _ _ h => h) (Or.inl ⟨by rfl, ?_⟩) ?_ ?_
  rotate_left
  · intro w'
    go_simp
    with_reducible rfl
  rotate_left
  · simp only [Act.put, List.setIfInBounds_toArray, List.set_cons_zero, List.set_cons_succ]
    rfl
  refine pure_ (i := 7) (N := some 68) (v := ?_) (a' := ?_) #[true, true, true, true, true, true, true, true, false, false, false, false, false, false, false, false] rfl rfl (by kernel_rfl) (fun _ _ _ h => h) (Or.inl ⟨by rfl, ?_⟩) ?_ ?_
  rotate_left
  · intro w'
    go_simp
    with_reducible rfl
  rotate_left
  · simp only [Act.put, List.setIfInBounds_toArray, List.set_cons_zero, List.set_cons_succ]
    rfl
  refine pure_ (i := 8) (N := some 69) (v := ?_) (a' := ?_) #[true, true, true, true, true, true, true, true, true, false, false, false, false, false, false, false] rfl rfl (by kernel_rfl) (fun _ _ _ h => h) (Or.inl ⟨by rfl, ?_⟩) ?_ ?_
  rotate_left
  · intro w'
    go_simp
    with_reducible rfl
  rotate_left
  · simp only [Act.put, List.setIfInBounds_toArray, List.set_cons_zero, List.set_cons_succ]
    rfl
  refine pure_ (i := 9) (N := some 70) (v := ?_) (a' := ?_) #[true, true, true, true, true, true, true, true, true, true, false, false, false, false, false, false] rfl rfl (by kernel_rfl) (fun _ _ _ h => h) (Or.inl ⟨by rfl, ?_⟩) ?_ ?_
  rotate_left
  · intro w'
    go_simp
    with_reducible rfl
  rotate_left
  · simp only [Act.put, List.setIfInBounds_toArray, List.set_cons_zero, List.set_cons_succ]
    rfl
  refine take_ (i := 10) (N := some 71) (v := ?_) (a' := ?_) #[true, true, true, true, true, true, true, true, true, true, true, false, false, false, false, false] rfl rfl (by kernel_rfl) (fun _ _ _ h => h) (Or.inl ⟨by rfl, ?_⟩) hHeld ?_ ?_
  rotate_left
  · rintro w' ⟨s0, s1⟩
    go_simp
    with_reducible rfl
  rotate_left
  · simp only [Act.put, List.setIfInBounds_toArray, List.set_cons_zero, List.set_cons_succ]
    rfl
  refine one_ (i := 11) (N := some 72) #[true, true, true, true, true, true, true, true, true, true, true, true, false, false, false, false] rfl rfl (by kernel_rfl) (by decide) (fun K hK => ?_)
  refine goes_ Try.func24 (by kernel_rfl) rfl #[.slice (some ⟨b, 0, none⟩) 1 1, .int .i64 2, .bool false] (by rfl) rfl rfl (by simp only [List.map_toArray, List.map_cons, List.map_nil]; rfl) ?_
  refine (move_any b 2 w9 false 2 X9.out (by simp)).mono ?_
  rintro e wt ⟨rfl, hb⟩
  refine ⟨_, rfl, ?_⟩
  have Yt := Aside0.mk (blk_below Y9.out hb)
  have Gt := Aside0.mk (blk_below G9.out hb)
  have Pt := Aside0.mk (blk_below P9.out hb)
  have Xt := Aside0.mk (blk_below X9.out hb)
  have N1t := Aside0.mk (Kd.R_below N19.out hb)
  have N2t := Aside0.mk (Kd.R_below N29.out hb)
  have N3t := Aside0.mk (Kd.R_below N39.out hb)
  have Bt := Aside0.mk (below_step B9.out hb)
  clear G9 P9 X9 N19 N29 N39 B9 hb
  have z0 := (span_cells N3t.out).1
  have z1 := (span_cells N3t.out).2.1
  have z2 := (span_cells N3t.out).2.2.1
  have z3 := (span_cells N3t.out).2.2.2
  refine hK.out _ _ ⟨(blk_cell Gt.out 3).trans rfl, (blk_cell Yt.out 1).trans rfl⟩ (fun _ => ?_)
  clear hK K
  refine pure_ (i := 12) (N := some 73) (v := ?_) (a' := ?_) #[true, true, true, true, true, true, true, true, true, true, true, true, true, false, false, false] rfl rfl (by kernel_rfl) (fun _ _ _ h => h) (Or.inl ⟨by rfl, ?_⟩) ?_ ?_
  rotate_left
  · intro w'
    go_simp
    with_reducible rfl
  rotate_left
  · simp only [Act.put, List.setIfInBounds_toArray, List.set_cons_zero, List.set_cons_succ]
    rfl
  refine pure_ (i := 13) (N := some 74) (v := ?_) (a' := ?_) #[true, true, true, true, true, true, true, true, true, true, true, true, true, true, false, false] rfl rfl (by kernel_rfl) (fun _ _ _ h => h) (Or.inl ⟨by rfl, ?_⟩) ?_ ?_
  rotate_left
  · intro w'
    go_simp
    with_reducible rfl
  rotate_left
  · simp only [Act.put, List.setIfInBounds_toArray, List.set_cons_zero, List.set_cons_succ]
    rfl
  refine pure_ (i := 14) (N := some 75) (v := ?_) (a' := ?_) #[true, true, true, true, true, true, true, true, true, true, true, true, true, true, true, false] rfl rfl (by kernel_rfl) (fun _ _ _ h => h) (Or.inl ⟨by rfl, ?_⟩) ?_ ?_
  rotate_left
  · intro w'
    go_simp
    with_reducible rfl
  rotate_left
  · simp only [Act.put, List.setIfInBounds_toArray, List.set_cons_zero, List.set_cons_succ]
    rfl
  refine last_ (i := 15) (N := none) #[true, true, true, true, true, true, true, true, true, true, true, true, true, true, true, true] rfl rfl (by kernel_rfl) (by decide) (fun K hK => ?_)
  refine skip_ (w1 := ?_) (by rfl) rfl ?_ ?_
  rotate_left
  · go_simp
    rfl
  refine hK.out _ _ ?_
  clear hK K
  refine done_ (by kernel_rfl) ?_
  rw [setCell_noop z0, setCell_noop z1]
  clear z0 z1 z2 z3 q1 x0 x1 x2 x3
  go_wp2_with fail
  rw [rounds_succ]
  have x0 := (blk_cell Gt.out 0).trans (show _ = some (Value.int .i64 4) from rfl)
  have x1 := (blk_cell Gt.out 1).trans (show _ = some (Value.slice B1 1 e1) from rfl)
  have x2 := (blk_cell Gt.out 2).trans (show _ = some (Value.slice (some ⟨g2, 0, none⟩) 1 e2) from rfl)
  have x3 := (blk_cell Gt.out 3).trans (show _ = some (Value.slice (some ⟨g3, 0, none⟩) 1 e3) from rfl)
  have z0 := (blk_cell Pt.out 0).trans (show _ = some (Value.int .i64 0) from rfl)
  have z1 := (blk_cell Pt.out 1).trans (show _ = some (Value.slice none 0 0) from rfl)
  have z2 := (blk_cell Pt.out 2).trans (show _ = some (Value.slice none 0 0) from rfl)
  have z3 := (blk_cell Pt.out 3).trans (show _ = some (Value.slice none 0 0) from rfl)
  have y0 := blk_frozen Pt.out 0
  have y1 := blk_frozen Pt.out 1
  have y2 := blk_frozen Pt.out 2
  have y3 := blk_frozen Pt.out 3
  go_wp2
  have hb8 := blk_set (blk_set (blk_set (blk_set Pt.out 0 (.int .i64 4)) 1 (.slice B1 1 e1)) 2 (.slice (some ⟨g2, 0, none⟩) 1 e2)) 3 (.slice (some ⟨g3, 0, none⟩) 1 e3)
  have hk8 := ((((KeepBut.refl wt (w.heap.size + 1) none).set_ 0 (.int .i64 4)).set_ 1 (.slice B1 1 e1)).set_ 2 (.slice (some ⟨g2, 0, none⟩) 1 e2)).set_ 3 (.slice (some ⟨g3, 0, none⟩) 1 e3)
  have r1 := Kd.R_reads' (R_keptBut N1t.out Pt.out (by decide) hk8)
  have r2 := Kd.R_reads' (R_keptBut N2t.out Pt.out (by decide) hk8)
  have r3 := Kd.R_reads' (R_keptBut N3t.out Pt.out (by decide) hk8)
  refine bodyPost_ret (results_c (fn := Try.f13) rfl _ _ (w.heap.size + 1) 26 _ _ _ rfl hb8 Try.underlying26 rfl info26) rfl ?_
  exact ⟨B1, e1, some ⟨g2, 0, none⟩, e2, some ⟨g3, 0, none⟩, e3, rfl, r1.2.1, r2.2.1, r3.2.1, r1.2.2, r2.2.2, r3.2.2, (((Bt.out.setCell (Nat.le_succ _) _).setCell (Nat.le_succ _) _).setCell (Nat.le_succ _) _).setCell (Nat.le_succ _) _⟩


end Go.Proofs.Ytkhilhgpkfecaaa.Mk
