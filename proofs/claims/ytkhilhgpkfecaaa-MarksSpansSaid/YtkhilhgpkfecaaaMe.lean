/- marks.Pop answers what the document says, of any marks whose lists are read. -/
import Derived.Test.YtkhilhgpkfecaaaMd
namespace Go.Proofs.Ytkhilhgpkfecaaa.Mk
open Go.RowKit Go.Proofs.YtkhilhgpkfecaaaW.PrintWords Go.Proofs.YtkhilhgpkfecaaaW.PrintLast Go.Proofs.YtkhilhgpkfecaaaW.PrintMore Go.Proofs.Ytkhilhgpkfecaaa.PMarksSpans
set_option linter.unusedVariables false
set_option linter.unusedSimpArgs false

set_option maxRecDepth 100000 in
set_option maxHeartbeats 1600000 in
theorem pop_none (a0 : Int) (A1 : Option Addr) (c1 : Nat) (l1 : List ByteArray) (A2 : Option Addr) (c2 : Nat) (l2 : List Int) (A3 : Option Addr) (c3 : Nat) (l3 : List S38) (w : World) (hl : l3.length = 0) :
    Calls Try.prog 8 #[.agg #[.int .i64 a0, .slice A1 l1.length c1, .slice A2 l2.length c2, .slice A3 l3.length c3]] w fun e w' => MarksRet 0 [] [] [] 9 w e w' := by
  have hu26 := Try.underlying26
  have hd : ((l3.length : Int) == 0) = true := by simp [hl]
  clear hl
  go_enter Try.func8, Try.ntmps8
  go_wp2
  refine bodyPost_ret (results_ct (fn := Try.f8) rfl _ _ (w.heap.size + 1) 26 _ _ _ rfl (alloc2 w (.cells #[.int .i64 a0, .slice A1 l1.length c1, .slice A2 l2.length c2, .slice A3 l3.length c3] 26 (0, 0)) (.cells #[.int .i64 0, .slice none 0 0, .slice none 0 0, .slice none 0 0] 26 (0, 0))).2.1 Try.underlying26 rfl info26) rfl ?_
  exact ⟨none, 0, none, 0, none, 0, rfl, Kd.R_nil _ _ _ _ _, Kd.R_nil _ _ _ _ _, Kd.R_nil _ _ _ _ _, (alloc2 w (.cells #[.int .i64 a0, .slice A1 l1.length c1, .slice A2 l2.length c2, .slice A3 l3.length c3] 26 (0, 0)) (.cells #[.int .i64 0, .slice none 0 0, .slice none 0 0, .slice none 0 0] 26 (0, 0))).2.2⟩

set_option maxRecDepth 100000 in
set_option maxHeartbeats 1600000 in
theorem pop_ok (a0 : Int) (A1 : Option Addr) (c1 : Nat) (l1 : List ByteArray) (A2 : Option Addr) (c2 : Nat) (l2 : List Int) (A3 : Option Addr) (c3 : Nat) (l3 : List S38) (w : World) (m : Nat) (hl : l3.length = m + 1)
    (hr1 : Kd.C Kd.string w A1 l1.length l1) (hr2 : Kd.C (Kd.int .i64) w A2 l2.length l2) (hr3 : Kd.C k38 w A3 l3.length l3)
    (hb1 : l1.length * 16 ≤ 140737488355328) (hb2 : l2.length * 8 ≤ 140737488355328) (hb3 : l3.length * 16 ≤ 140737488355328) :
    Calls Try.prog 8 #[.agg #[.int .i64 a0, .slice A1 l1.length c1, .slice A2 l2.length c2, .slice A3 l3.length c3]] w fun e w' => MarksRet a0 l1 l2 (l3.take m) 0 w e w' := by
  have hu26 := Try.underlying26
  have hd : ((l3.length : Int) == 0) = false := by
    rw [hl]
    simp
    omega
  have hwr : IntKind.i64.wrap ((l3.length : Int) - 1) = (m : Int) := by
    rw [IntWalk.i64_in _ (by omega)]
    omega
  have HL := Aside0.mk hl
  have HWR := Aside0.mk hwr
  have HR1 := Aside0.mk hr1
  have HR2 := Aside0.mk hr2
  have HR3 := Aside0.mk hr3
  have HL1 := Aside0.mk hb1
  have HL2 := Aside0.mk hb2
  have HL3 := Aside0.mk hb3
  clear hl hwr hr1 hr2 hr3 hb1 hb2 hb3
  go_enter Try.func8, Try.ntmps8
  go_wp2_with fail
  obtain ⟨k1, k2, k3⟩ := alloc2 w (.cells #[.int .i64 a0, .slice A1 l1.length c1, .slice A2 l2.length c2, .slice A3 l3.length c3] 26 (0, 0)) (.cells #[.int .i64 0, .slice none 0 0, .slice none 0 0, .slice none 0 0] 26 (0, 0))
  refine (of_any a0 A1 c1 l1 A2 c2 l2 A3 c3 l3 _ (Kd.C_below HR1.out k3) (Kd.C_below HR2.out k3) (Kd.C_below HR3.out k3) HL1.out HL2.out HL3.out).mono ?_
  generalize (w.alloc (.cells #[.int .i64 a0, .slice A1 l1.length c1, .slice A2 l2.length c2, .slice A3 l3.length c3] 26)).alloc (.cells #[.int .i64 0, .slice none 0 0, .slice none 0 0, .slice none 0 0] 26) = w1 at k1 k2 k3 ⊢
  have BK2 := Aside0.mk k2
  have HB := Aside0.mk k3
  have LO := Aside0.mk k3.size
  clear k1 k2 k3
  rintro e w2 ⟨g, v1, v2, v3, rfl, hg, hge, h1, h2, h3, hb⟩
  obtain ⟨B1, e1, rfl⟩ := Kd.R_slice h1
  obtain ⟨B2, e2, rfl⟩ := Kd.R_slice h2
  obtain ⟨B3, e3, rfl⟩ := Kd.R_slice h3
  have hle3 := (Kd.R_reads' h3).2.1
  have hwr := HWR.out
  have hcut : ∀ W : World, (Instr.slice 24 (.slice B3 l3.length e3) none (some (.int .i64 (m : Int))) none).run Try.prog W = .ok (.slice B3 m e3) W := by
    obtain ⟨i0, hi, hz⟩ := Option.map_eq_some_iff.1 info38
    exact cut_to 24 38 .i64 Try.underlying24 hi B3 l3.length e3 (m : Int) (by omega) (by have := HL.out; omega) hle3
  clear hle3
  have H3t := Aside0.mk (Kd.R_take h3 (m := m) (by have := HL.out; omega))
  have H1 := Aside0.mk h1
  have H2 := Aside0.mk h2
  have H3 := Aside0.mk h3
  clear h1 h2 h3
  have hq3 : w2.cell? ⟨g, 3, none⟩ = some (.slice B3 l3.length e3) := (blk_cell hg 3).trans rfl
  have hlt2 := blk_lt BK2.out
  have NE := Aside0.mk (show w.heap.size + 1 ≠ g from by omega)
  have GE := Aside0.mk (show w.heap.size ≤ g from by omega)
  have G3 := Aside0.mk (blk_drew hg)
  have P3 := Aside0.mk (blk_drew (blk_below BK2.out hb))
  have N1 := Aside0.mk (Kd.R_drew H1.out)
  have N2 := Aside0.mk (Kd.R_drew H2.out)
  have N3 := Aside0.mk (Kd.R_drew H3t.out)
  have HB3 := Aside0.mk (below_drew (below_step HB.out hb))
  have u0 : w2.drew.cell? ⟨g, 3, none⟩ = some (.slice B3 l3.length e3) := hq3
  have u1 := blk_frozen G3.out 3
  clear hlt2 hg hb hge H1 H2 H3 H3t BK2 HB
  go_wp2_with fail
  refine start_ (n := 18) (S := fun w' => w'.cell? ⟨g, 3, none⟩ = some (.slice B3 l3.length e3)) (ds := [17]) #[false, false, false, false, false, false, false, false, false, false, false, false, false, false, false, false, false, false] (by kernel_rfl) rfl rfl hq3 (fun hHeld => ?_)
  generalize w2.drew = w3 at G3 P3 N1 N2 N3 HB3 u0 u1 hHeld ⊢
  refine pure_ (i := 0) (N := some 12) (v := ?_) (a' := ?_) #[true, false, false, false, false, false, false, false, false, false, false, false, false, false, false, false, false, false] rfl rfl (by kernel_rfl) (fun _ _ _ h => h) (Or.inl ⟨by rfl, ?_⟩) ?_ ?_
  rotate_left
  · intro w'
    go_simp
    with_reducible rfl
  rotate_left
  · simp only [Act.put, List.setIfInBounds_toArray, List.set_cons_zero, List.set_cons_succ]
    rfl
  refine pure_ (i := 1) (N := some 13) (v := ?_) (a' := ?_) #[true, true, false, false, false, false, false, false, false, false, false, false, false, false, false, false, false, false] rfl rfl (by kernel_rfl) (fun _ _ _ h => h) (Or.inl ⟨by rfl, ?_⟩) ?_ ?_
  rotate_left
  · intro w'
    go_simp
    with_reducible rfl
  rotate_left
  · simp only [Act.put, List.setIfInBounds_toArray, List.set_cons_zero, List.set_cons_succ]
    rfl
  refine pure_ (i := 2) (N := some 14) (v := ?_) (a' := ?_) #[true, true, true, false, false, false, false, false, false, false, false, false, false, false, false, false, false, false] rfl rfl (by kernel_rfl) (fun _ _ _ h => h) (Or.inl ⟨by rfl, ?_⟩) ?_ ?_
  rotate_left
  · intro w'
    go_simp
    with_reducible rfl
  rotate_left
  · simp only [Act.put, List.setIfInBounds_toArray, List.set_cons_zero, List.set_cons_succ]
    rfl
  refine pure_ (i := 3) (N := some 15) (v := ?_) (a' := ?_) #[true, true, true, true, false, false, false, false, false, false, false, false, false, false, false, false, false, false] rfl rfl (by kernel_rfl) (fun _ _ _ h => h) (Or.inl ⟨by rfl, ?_⟩) ?_ ?_
  rotate_left
  · intro w'
    go_simp
    with_reducible rfl
  rotate_left
  · simp only [Act.put, List.setIfInBounds_toArray, List.set_cons_zero, List.set_cons_succ]
    rfl
  refine pure_ (i := 4) (N := some 16) (v := ?_) (a' := ?_) #[true, true, true, true, true, false, false, false, false, false, false, false, false, false, false, false, false, false] rfl rfl (by kernel_rfl) (fun _ _ _ h => h) (Or.inl ⟨by rfl, ?_⟩) ?_ ?_
  rotate_left
  · intro w'
    go_simp
    with_reducible rfl
  rotate_left
  · simp only [Act.put, List.setIfInBounds_toArray, List.set_cons_zero, List.set_cons_succ]
    rfl
  refine take_ (i := 5) (N := some 17) (v := ?_) (a' := ?_) #[true, true, true, true, true, true, false, false, false, false, false, false, false, false, false, false, false, false] rfl rfl (by kernel_rfl) (fun _ _ _ h => h) (Or.inl ⟨by rfl, ?_⟩) hHeld ?_ ?_
  rotate_left
  · rintro w' s0
    go_simp
    with_reducible rfl
  rotate_left
  · simp only [Act.put, List.setIfInBounds_toArray, List.set_cons_zero, List.set_cons_succ]
    rfl
  refine pure_ (i := 6) (N := some 18) (v := ?_) (a' := ?_) #[true, true, true, true, true, true, true, false, false, false, false, false, false, false, false, false, false, false] rfl rfl (by kernel_rfl) (fun _ _ _ h => h) (Or.inl ⟨by rfl, ?_⟩) ?_ ?_
  rotate_left
  · intro w'
    go_simp
    with_reducible rfl
  rotate_left
  · simp only [Act.put, List.setIfInBounds_toArray, List.set_cons_zero, List.set_cons_succ]
    rfl
  refine pure_ (i := 7) (N := some 19) (v := ?_) (a' := ?_) #[true, true, true, true, true, true, true, true, false, false, false, false, false, false, false, false, false, false] rfl rfl (by kernel_rfl) (fun _ _ _ h => h) (Or.inl ⟨by rfl, ?_⟩) ?_ ?_
  rotate_left
  · intro w'
    go_simp
    with_reducible rfl
  rotate_left
  · simp only [Act.put, List.setIfInBounds_toArray, List.set_cons_zero, List.set_cons_succ]
    rfl
  refine pure_ (i := 8) (N := some 20) (v := ?_) (a' := ?_) #[true, true, true, true, true, true, true, true, true, false, false, false, false, false, false, false, false, false] rfl rfl (by kernel_rfl) (fun _ _ _ h => h) (Or.inl ⟨by rfl, ?_⟩) ?_ ?_
  rotate_left
  · intro w'
    go_simp
    with_reducible rfl
  rotate_left
  · simp only [Act.put, List.setIfInBounds_toArray, List.set_cons_zero, List.set_cons_succ]
    rfl
  refine pure_ (i := 9) (N := some 21) (v := ?_) (a' := ?_) #[true, true, true, true, true, true, true, true, true, true, false, false, false, false, false, false, false, false] rfl rfl (by kernel_rfl) (fun _ _ _ h => h) (Or.inl ⟨by rfl, ?_⟩) ?_ ?_
  rotate_left
  · intro w'
    go_simp
    with_reducible rfl
  rotate_left
  · simp only [Act.put, List.setIfInBounds_toArray, List.set_cons_zero, List.set_cons_succ]
    rfl
  refine take_ (i := 10) (N := some 22) (v := ?_) (a' := ?_) #[true, true, true, true, true, true, true, true, true, true, true, false, false, false, false, false, false, false] rfl rfl (by kernel_rfl) (fun _ _ _ h => h) (Or.inl ⟨by rfl, ?_⟩) hHeld ?_ ?_
  rotate_left
  · rintro w' s0
    go_simp
    with_reducible rfl
  rotate_left
  · simp only [Act.put, List.setIfInBounds_toArray, List.set_cons_zero, List.set_cons_succ]
    rfl
  refine pure_ (i := 11) (N := some 23) (v := ?_) (a' := ?_) #[true, true, true, true, true, true, true, true, true, true, true, true, false, false, false, false, false, false] rfl rfl (by kernel_rfl) (fun _ _ _ h => h) (Or.inl ⟨by rfl, ?_⟩) ?_ ?_
  rotate_left
  · intro w'
    go_simp
    with_reducible rfl
  rotate_left
  · simp only [Act.put, List.setIfInBounds_toArray, List.set_cons_zero, List.set_cons_succ]
    rfl
  refine pure_ (i := 12) (N := some 24) (v := ?_) (a' := ?_) #[true, true, true, true, true, true, true, true, true, true, true, true, true, false, false, false, false, false] rfl rfl (by kernel_rfl) (fun _ _ _ h => h) (Or.inl ⟨by rfl, ?_⟩) ?_ ?_
  rotate_left
  · intro w'
    go_simp
    with_reducible rfl
  rotate_left
  · simp only [Act.put, List.setIfInBounds_toArray, List.set_cons_zero, List.set_cons_succ]
    rfl
  refine pure_ (i := 13) (N := some 25) (v := ?_) (a' := ?_) #[true, true, true, true, true, true, true, true, true, true, true, true, true, true, false, false, false, false] rfl rfl (by kernel_rfl) (fun _ _ _ h => h) (Or.inl ⟨by rfl, ?_⟩) ?_ ?_
  rotate_left
  · intro w'
    go_simp
    with_reducible rfl
  rotate_left
  · simp only [Act.put, List.setIfInBounds_toArray, List.set_cons_zero, List.set_cons_succ]
    rfl
  refine pure_ (i := 14) (N := some 26) (v := ?_) (a' := ?_) #[true, true, true, true, true, true, true, true, true, true, true, true, true, true, true, false, false, false] rfl rfl (by kernel_rfl) (fun _ _ _ h => h) (Or.inl ⟨by rfl, ?_⟩) ?_ ?_
  rotate_left
  · intro w'
    go_simp
    with_reducible rfl
  rotate_left
  · simp only [Act.put, List.setIfInBounds_toArray, List.set_cons_zero, List.set_cons_succ]
    rfl
  refine pure_ (i := 15) (N := some 27) (v := ?_) (a' := ?_) #[true, true, true, true, true, true, true, true, true, true, true, true, true, true, true, true, false, false] rfl rfl (by kernel_rfl) (fun _ _ _ h => h) (Or.inl ⟨by rfl, ?_⟩) ?_ ?_
  rotate_left
  · intro w'
    go_simp
    with_reducible rfl
  rotate_left
  · simp only [Act.put, List.setIfInBounds_toArray, List.set_cons_zero, List.set_cons_succ]
    rfl
  refine pure_ (i := 16) (N := some 28) (v := ?_) (a' := ?_) #[true, true, true, true, true, true, true, true, true, true, true, true, true, true, true, true, true, false] rfl rfl (by kernel_rfl) (fun _ _ _ h => h) (Or.inl ⟨by rfl, ?_⟩) ?_ ?_
  rotate_left
  · intro w'
    go_simp
    with_reducible rfl
  rotate_left
  · simp only [Act.put, List.setIfInBounds_toArray, List.set_cons_zero, List.set_cons_succ]
    rfl
  refine last_ (i := 17) (N := none) #[true, true, true, true, true, true, true, true, true, true, true, true, true, true, true, true, true, true] rfl rfl (by kernel_rfl) (by decide) (fun K hK => ?_)
  refine skip_ (w1 := ?_) (by rfl) rfl ?_ ?_
  rotate_left
  · go_simp
    rfl
  refine hK.out _ _ ?_
  clear hK K
  refine done_ (by kernel_rfl) ?_
  clear hHeld u0 u1 hq3 hcut hwr
  have hk4 := (KeepBut.refl w3 g none).set_ 3 (.slice B3 m e3)
  have G4 := Aside0.mk (show (w3.setCell ⟨g, 3, none⟩ (.slice B3 m e3)).heap[g]? = some (.cells #[.int .i64 a0, .slice B1 l1.length e1, .slice B2 l2.length e2, (.slice B3 m e3)] 50 (0, 0)) from blk_set G3.out 3 _)
  have P4 := Aside0.mk (blk_far P3.out (p := ⟨g, 3, none⟩) NE.out (.slice B3 m e3))
  have M1 := Aside0.mk (R_keptBut N1.out G3.out (by decide) hk4)
  have M2 := Aside0.mk (R_keptBut N2.out G3.out (by decide) hk4)
  have M3 := Aside0.mk (R_keptBut N3.out G3.out (by decide) hk4)
  have HB4 := Aside0.mk (HB3.out.setCell (p := ⟨g, 3, none⟩) GE.out (.slice B3 m e3))
  clear hk4 G3 P3 N1 N2 N3 HB3
  generalize w3.setCell ⟨g, 3, none⟩ (.slice B3 m e3) = w4 at G4 P4 M1 M2 M3 HB4 ⊢
  have x0 := (blk_cell G4.out 0).trans (show _ = some (Value.int .i64 a0) from rfl)
  have x1 := (blk_cell G4.out 1).trans (show _ = some (Value.slice B1 l1.length e1) from rfl)
  have x2 := (blk_cell G4.out 2).trans (show _ = some (Value.slice B2 l2.length e2) from rfl)
  have x3 := (blk_cell G4.out 3).trans (show _ = some (Value.slice B3 m e3) from rfl)
  have z0 := (blk_cell P4.out 0).trans (show _ = some (Value.int .i64 0) from rfl)
  have z1 := (blk_cell P4.out 1).trans (show _ = some (Value.slice none 0 0) from rfl)
  have z2 := (blk_cell P4.out 2).trans (show _ = some (Value.slice none 0 0) from rfl)
  have z3 := (blk_cell P4.out 3).trans (show _ = some (Value.slice none 0 0) from rfl)
  have y0 := blk_frozen P4.out 0
  have y1 := blk_frozen P4.out 1
  have y2 := blk_frozen P4.out 2
  have y3 := blk_frozen P4.out 3
  go_wp2
  have hb5 := blk_set (blk_set (blk_set (blk_set P4.out 0 (.int .i64 a0)) 1 (.slice B1 l1.length e1)) 2 (.slice B2 l2.length e2)) 3 (.slice B3 m e3)
  have hk5 := ((((KeepBut.refl w4 (w.heap.size + 1) none).set_ 0 (.int .i64 a0)).set_ 1 (.slice B1 l1.length e1)).set_ 2 (.slice B2 l2.length e2)).set_ 3 (.slice B3 m e3)
  have r1 := Kd.R_lower (R_keptBut M1.out P4.out (by decide) hk5) LO.out
  have r2 := Kd.R_lower (R_keptBut M2.out P4.out (by decide) hk5) LO.out
  have r3 := Kd.R_lower (R_keptBut M3.out P4.out (by decide) hk5) LO.out
  refine bodyPost_ret (results_ct (fn := Try.f8) rfl _ _ (w.heap.size + 1) 26 _ _ _ rfl hb5 Try.underlying26 rfl info26) rfl ?_
  refine ⟨B1, e1, B2, e2, B3, e3, ?_, r1, r2, ?_, ?_⟩
  · rw [show (l3.take m).length = m from by have := HL.out; simp; omega]
    rfl
  · rw [show (l3.take m).length = m from by have := HL.out; simp; omega]
    exact r3
  · exact (((HB4.out.setCell (Nat.le_succ _) _).setCell (Nat.le_succ _) _).setCell (Nat.le_succ _) _).setCell (Nat.le_succ _) _

end Go.Proofs.Ytkhilhgpkfecaaa.Mk
