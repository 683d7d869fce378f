/- marks.Set of a first name in marks that bear nothing but a cursor. -/
import Derived.Test.YtkhilhgpkfecaaaMh
namespace Go.Proofs.Ytkhilhgpkfecaaa.Mk
open Go.RowKit Go.Proofs.YtkhilhgpkfecaaaW.PrintWords Go.Proofs.YtkhilhgpkfecaaaW.PrintLast Go.Proofs.YtkhilhgpkfecaaaW.PrintMore Go.Proofs.Ytkhilhgpkfecaaa.PMarksSpans
set_option linter.unusedVariables false
set_option linter.unusedSimpArgs false

theorem C_block_int {w : World} {b : Nat} {x : Int} (h : w.heap[b]? = some (.cells #[.int .i64 x] 3 (0, 0))) : (Kd.int .i64).C w (some ⟨b, 0, none⟩) [x].length [x] :=
  Kd.C_of_reads (d := (0 : Int)) ⟨rfl, by simp, fun _ => ⟨_, rfl, fun j hj => by
    have hj0 : j = 0 := by simp at hj; omega
    subst hj0
    rw [add_plain]
    exact (blk_cell h 0).trans rfl⟩⟩
theorem C_block_str {w : World} {b : Nat} {x : ByteArray} (h : w.heap[b]? = some (.cells #[.string x] 9 (0, 0))) : Kd.string.C w (some ⟨b, 0, none⟩) [x].length [x] :=
  Kd.C_of_reads (d := ByteArray.empty) ⟨rfl, by simp, fun _ => ⟨_, rfl, fun j hj => by
    have hj0 : j = 0 := by simp at hj; omega
    subst hj0
    rw [add_plain]
    exact (blk_cell h 0).trans rfl⟩⟩
theorem isName_a : marks_isName.f ⟨#[97]⟩ = some true := by
  have h : (⟨#[97]⟩ : ByteArray).toList ≠ [] := by
    rw [ByteArray.toList_eq]
    simp
  unfold marks_isName.f
  rw [if_neg h]
  rfl

set_option maxRecDepth 100000 in
set_option maxHeartbeats 1600000 in
theorem set_one (w : World) : Calls Try.prog 12 #[.agg #[.int .i64 2, .slice none 0 0, .slice none 0 0, .slice none 0 0], .string ⟨#[97]⟩, .int .i64 2, .int .i64 3] w fun e w' => MarksRet 2 [⟨#[97]⟩] [2] [] 0 w e w' := by
  have hu26 := Try.underlying26
  go_enter Try.func12, Try.ntmps12
  go_wp2_with fail
  obtain ⟨k1, k2, k3⟩ := alloc2 w (.cells #[.int .i64 2, .slice none 0 0, .slice none 0 0, .slice none 0 0] 26 (0, 0)) (.cells #[.int .i64 0, .slice none 0 0, .slice none 0 0, .slice none 0 0] 26 (0, 0))
  refine (slices_BinarySearch_string_string.calls 1 none 0 [] ⟨#[97]⟩ 0 false _ (Kd.C_nil _ _) (Nat.le_refl _) (by rfl)).mono ?_
  rintro e w1 ⟨rfl, hd⟩
  have BK1 := Aside0.mk (blk_below k1 hd.below)
  have BK2 := Aside0.mk (blk_below k2 hd.below)
  have HB := Aside0.mk (below_step k3 hd.below)
  clear k1 k2 k3 hd
  have x0 := (blk_cell BK1.out 0).trans (show _ = some (Value.int .i64 2) from rfl)
  have x1 := (blk_cell BK1.out 1).trans (show _ = some (Value.slice none 0 0) from rfl)
  have x2 := (blk_cell BK1.out 2).trans (show _ = some (Value.slice none 0 0) from rfl)
  have x3 := (blk_cell BK1.out 3).trans (show _ = some (Value.slice none 0 0) from rfl)
  go_wp2_with fail
  refine (marks_isName.calls ⟨#[97]⟩ true _ isName_a).mono ?_
  rintro e w2 ⟨rfl, hd⟩
  clear x0 x1 x2 x3
  have BL1 := Aside0.mk (blk_below BK1.out hd.below)
  have BL2 := Aside0.mk (blk_below BK2.out hd.below)
  have HC := Aside0.mk (below_step HB.out hd.below)
  clear BK1 BK2 HB hd
  have x0 := (blk_cell BL1.out 0).trans (show _ = some (Value.int .i64 2) from rfl)
  have x1 := (blk_cell BL1.out 1).trans (show _ = some (Value.slice none 0 0) from rfl)
  have x2 := (blk_cell BL1.out 2).trans (show _ = some (Value.slice none 0 0) from rfl)
  have x3 := (blk_cell BL1.out 3).trans (show _ = some (Value.slice none 0 0) from rfl)
  go_wp2_with fail
  refine (of_any 2 none 0 [] none 0 [] none 0 [] _ (Kd.C_nil _ _) (Kd.C_nil _ _) (Kd.C_nil _ _) (by simp) (by simp) (by simp)).mono ?_
  rintro e w3 ⟨g, v1, v2, v3, rfl, hg, hge, h1, h2, h3, hb⟩
  clear x0 x1 x2 x3
  obtain ⟨B1, e1, rfl⟩ := Kd.R_slice h1
  obtain ⟨B2, e2, rfl⟩ := Kd.R_slice h2
  obtain ⟨B3, e3, rfl⟩ := Kd.R_slice h3
  have hlt2 := blk_lt BL2.out
  have NE := Aside0.mk (show w.heap.size + 1 ≠ g from by omega)
  have GE := Aside0.mk (show w.heap.size ≤ g from by omega)
  have P3 := Aside0.mk (blk_below BL2.out hb)
  have BB3 := Aside0.mk (below_step HC.out hb)
  have HBS' := Aside0.mk (show w.heap.size ≤ w2.heap.size from HC.out.size)
  have Z3 := Aside0.mk (show w2.heap.size ≤ w3.heap.size from hb.size)
  have G3 := Aside0.mk hg
  have N13 := Aside0.mk h1
  have N23 := Aside0.mk h2
  have N33 := Aside0.mk h3
  clear hlt2 hg hge h1 h2 h3 hb BL1 BL2 HC
  generalize w2.heap.size = bs at HBS' Z3 N13 N23 N33
  have HBS := HBS'
  clear HBS'
  have c0 := (blk_cell G3.out 0).trans (show _ = some (Value.int .i64 2) from rfl)
  have c1 := (blk_cell G3.out 1).trans (show _ = some (Value.slice B1 0 e1) from rfl)
  have c2 := (blk_cell G3.out 2).trans (show _ = some (Value.slice B2 0 e2) from rfl)
  have c3 := (blk_cell G3.out 3).trans (show _ = some (Value.slice B3 0 e3) from rfl)
  go_wp2_with fail
  refine start_ (n := 28) (S := fun w' => w'.cell? ⟨g, 1, none⟩ = some (.slice B1 0 e1) ∧ w'.cell? ⟨g, 2, none⟩ = some (.slice B2 0 e2)) (ds := [19, 23, 27]) #[false, false, false, false, false, false, false, false, false, false, false, false, false, false, false, false, false, false, false, false, false, false, false, false, false, false, false, false] (by kernel_rfl) rfl rfl ⟨c1, c2⟩ (fun hHeld => ?_)
  clear c0 c1 c2 c3
  have Ga := Aside0.mk (blk_drew G3.out)
  have Pa := Aside0.mk (blk_drew P3.out)
  have N1a := Aside0.mk (Kd.R_drew N13.out)
  have N2a := Aside0.mk (Kd.R_drew N23.out)
  have N3a := Aside0.mk (Kd.R_drew N33.out)
  have Ba := Aside0.mk (below_drew BB3.out)
  have Za := Aside0.mk (show bs ≤ w3.drew.heap.size from Z3.out)
  generalize w3.drew = w4 at Ga Pa N1a N2a N3a Ba Za hHeld ⊢
  clear G3 P3 N13 N23 N33 BB3 Z3
  refine pure_ (i := 0) (N := some 59) (v := ?_) (a' := ?_) #[true, false, false, false, false, false, false, false, false, false, false, false, false, false, false, false, false, false, false, false, false, false, false, false, false, false, false, false] rfl rfl (by kernel_rfl) (fun _ _ _ h => h) (Or.inl ⟨by rfl, ?_⟩) ?_ ?_
  rotate_left
  · intro w'
    go_simp
    with_reducible rfl
  rotate_left
  · simp only [Act.put, List.setIfInBounds_toArray, List.set_cons_zero, List.set_cons_succ]
    rfl
  refine pure_ (i := 1) (N := some 60) (v := ?_) (a' := ?_) #[true, true, false, false, false, false, false, false, false, false, false, false, false, false, false, false, false, false, false, false, false, false, false, false, false, false, false, false] rfl rfl (by kernel_rfl) (fun _ _ _ h => h) (Or.inl ⟨by rfl, ?_⟩) ?_ ?_
  rotate_left
  · intro w'
    go_simp
    with_reducible rfl
  rotate_left
  · simp only [Act.put, List.setIfInBounds_toArray, List.set_cons_zero, List.set_cons_succ]
    rfl
  refine pure_ (i := 2) (N := some 61) (v := ?_) (a' := ?_) #[true, true, true, false, false, false, false, false, false, false, false, false, false, false, false, false, false, false, false, false, false, false, false, false, false, false, false, false] rfl rfl (by kernel_rfl) (fun _ _ _ h => h) (Or.inl ⟨by rfl, ?_⟩) ?_ ?_
  rotate_left
  · intro w'
    go_simp
    with_reducible rfl
  rotate_left
  · simp only [Act.put, List.setIfInBounds_toArray, List.set_cons_zero, List.set_cons_succ]
    rfl
  refine pure_ (i := 3) (N := some 62) (v := ?_) (a' := ?_) #[true, true, true, true, false, false, false, false, false, false, false, false, false, false, false, false, false, false, false, false, false, false, false, false, false, false, false, false] rfl rfl (by kernel_rfl) (fun _ _ _ h => h) (Or.inl ⟨by rfl, ?_⟩) ?_ ?_
  rotate_left
  · intro w'
    go_simp
    with_reducible rfl
  rotate_left
  · simp only [Act.put, List.setIfInBounds_toArray, List.set_cons_zero, List.set_cons_succ]
    rfl
  refine pure_ (i := 4) (N := some 63) (v := ?_) (a' := ?_) #[true, true, true, true, true, false, false, false, false, false, false, false, false, false, false, false, false, false, false, false, false, false, false, false, false, false, false, false] rfl rfl (by kernel_rfl) (fun _ _ _ h => h) (Or.inl ⟨by rfl, ?_⟩) ?_ ?_
  rotate_left
  · intro w'
    go_simp
    with_reducible rfl
  rotate_left
  · simp only [Act.put, List.setIfInBounds_toArray, List.set_cons_zero, List.set_cons_succ]
    rfl
  refine pure_ (i := 5) (N := some 64) (v := ?_) (a' := ?_) #[true, true, true, true, true, true, false, false, false, false, false, false, false, false, false, false, false, false, false, false, false, false, false, false, false, false, false, false] rfl rfl (by kernel_rfl) (fun _ _ _ h => h) (Or.inl ⟨by rfl, ?_⟩) ?_ ?_
  rotate_left
  · intro w'
    go_simp
    with_reducible rfl
  rotate_left
  · simp only [Act.put, List.setIfInBounds_toArray, List.set_cons_zero, List.set_cons_succ]
    rfl
  refine take_ (i := 6) (N := some 65) (v := ?_) (a' := ?_) #[true, true, true, true, true, true, true, false, false, false, false, false, false, false, false, false, false, false, false, false, false, false, false, false, false, false, false, false] rfl rfl (by kernel_rfl) (fun _ _ _ h => h) (Or.inl ⟨by rfl, ?_⟩) hHeld ?_ ?_
  rotate_left
  · rintro w' ⟨s0, s1⟩
    go_simp
    with_reducible rfl
  rotate_left
  · simp only [Act.put, List.setIfInBounds_toArray, List.set_cons_zero, List.set_cons_succ]
    rfl
  refine pure_ (i := 7) (N := some 66) (v := ?_) (a' := ?_) #[true, true, true, true, true, true, true, true, false, false, false, false, false, false, false, false, false, false, false, false, false, false, false, false, false, false, false, false] rfl rfl (by kernel_rfl) (fun _ _ _ h => h) (Or.inl ⟨by rfl, ?_⟩) ?_ ?_
  rotate_left
  · intro w'
    go_simp
    with_reducible rfl
  rotate_left
  · simp only [Act.put, List.setIfInBounds_toArray, List.set_cons_zero, List.set_cons_succ]
    rfl
  refine pure_ (i := 8) (N := some 67) (v := ?_) (a' := ?_) #[true, true, true, true, true, true, true, true, true, false, false, false, false, false, false, false, false, false, false, false, false, false, false, false, false, false, false, false] rfl rfl (by kernel_rfl) (fun _ _ _ h => h) (Or.inl ⟨by rfl, ?_⟩) ?_ ?_
  rotate_left
  · intro w'
    go_simp
    with_reducible rfl
  rotate_left
  · simp only [Act.put, List.setIfInBounds_toArray, List.set_cons_zero, List.set_cons_succ]
    rfl
  refine pure_ (i := 11) (N := some 70) (v := ?_) (a' := ?_) #[true, true, true, true, true, true, true, true, true, false, false, true, false, false, false, false, false, false, false, false, false, false, false, false, false, false, false, false] rfl rfl (by kernel_rfl) (fun _ _ _ h => h) (Or.inl ⟨by rfl, ?_⟩) ?_ ?_
  rotate_left
  · intro w'
    go_simp
    with_reducible rfl
  rotate_left
  · simp only [Act.put, List.setIfInBounds_toArray, List.set_cons_zero, List.set_cons_succ]
    rfl
  refine pure_ (i := 12) (N := some 71) (v := ?_) (a' := ?_) #[true, true, true, true, true, true, true, true, true, false, false, true, true, false, false, false, false, false, false, false, false, false, false, false, false, false, false, false] rfl rfl (by kernel_rfl) (fun _ _ _ h => h) (Or.inl ⟨by rfl, ?_⟩) ?_ ?_
  rotate_left
  · intro w'
    go_simp
    with_reducible rfl
  rotate_left
  · simp only [Act.put, List.setIfInBounds_toArray, List.set_cons_zero, List.set_cons_succ]
    rfl
  refine pure_ (i := 13) (N := some 72) (v := ?_) (a' := ?_) #[true, true, true, true, true, true, true, true, true, false, false, true, true, true, false, false, false, false, false, false, false, false, false, false, false, false, false, false] rfl rfl (by kernel_rfl) (fun _ _ _ h => h) (Or.inl ⟨by rfl, ?_⟩) ?_ ?_
  rotate_left
  · intro w'
    go_simp
    with_reducible rfl
  rotate_left
  · simp only [Act.put, List.setIfInBounds_toArray, List.set_cons_zero, List.set_cons_succ]
    rfl
  refine pure_ (i := 14) (N := some 73) (v := ?_) (a' := ?_) #[true, true, true, true, true, true, true, true, true, false, false, true, true, true, true, false, false, false, false, false, false, false, false, false, false, false, false, false] rfl rfl (by kernel_rfl) (fun _ _ _ h => h) (Or.inl ⟨by rfl, ?_⟩) ?_ ?_
  rotate_left
  · intro w'
    go_simp
    with_reducible rfl
  rotate_left
  · simp only [Act.put, List.setIfInBounds_toArray, List.set_cons_zero, List.set_cons_succ]
    rfl
  refine take_ (i := 15) (N := some 74) (v := ?_) (a' := ?_) #[true, true, true, true, true, true, true, true, true, false, false, true, true, true, true, true, false, false, false, false, false, false, false, false, false, false, false, false] rfl rfl (by kernel_rfl) (fun _ _ _ h => h) (Or.inl ⟨by rfl, ?_⟩) hHeld ?_ ?_
  rotate_left
  · rintro w' ⟨s0, s1⟩
    go_simp
    with_reducible rfl
  rotate_left
  · simp only [Act.put, List.setIfInBounds_toArray, List.set_cons_zero, List.set_cons_succ]
    rfl
  refine pure_ (i := 16) (N := some 75) (v := ?_) (a' := ?_) #[true, true, true, true, true, true, true, true, true, false, false, true, true, true, true, true, true, false, false, false, false, false, false, false, false, false, false, false] rfl rfl (by kernel_rfl) (fun _ _ _ h => h) (Or.inl ⟨by rfl, ?_⟩) ?_ ?_
  rotate_left
  · intro w'
    go_simp
    with_reducible rfl
  rotate_left
  · simp only [Act.put, List.setIfInBounds_toArray, List.set_cons_zero, List.set_cons_succ]
    rfl
  refine pure_ (i := 17) (N := some 76) (v := ?_) (a' := ?_) #[true, true, true, true, true, true, true, true, true, false, false, true, true, true, true, true, true, true, false, false, false, false, false, false, false, false, false, false] rfl rfl (by kernel_rfl) (fun _ _ _ h => h) (Or.inl ⟨by rfl, ?_⟩) ?_ ?_
  rotate_left
  · intro w'
    go_simp
    with_reducible rfl
  rotate_left
  · simp only [Act.put, List.setIfInBounds_toArray, List.set_cons_zero, List.set_cons_succ]
    rfl
  refine join_ 9 #[true, true, true, true, true, true, true, true, true, true, true, true, true, true, true, true, true, true, true, false, false, false, false, false, false, false, false, false] (fun (s : Option Addr × Nat × Nat × Nat) => [(68, .slice (some ⟨s.2.2.1, 0, none⟩) 1 1), (69, .slice s.1 1 s.2.1), (77, .slice (some ⟨s.2.2.2, 0, none⟩) 1 1)]) (fun (s : Option Addr × Nat × Nat × Nat) (w' : World) => Kd.string.R 9 w' bs (fun _ => True) (.slice s.1 1 s.2.1) [⟨#[97]⟩] ∧ (Kd.int .i64).R 3 w' bs (fun _ => True) (.slice B2 0 e2) [] ∧ k38.R 38 w' bs (fun _ => True) (.slice B3 0 e3) [] ∧ w'.heap[s.2.2.2]? = some (.cells #[.int .i64 2] 3 (0, 0)) ∧ w'.heap[g]? = some (.cells #[.int .i64 2, .slice B1 0 e1, .slice B2 0 e2, .slice B3 0 e3] 50 (0, 0)) ∧ w'.heap[w.heap.size + 1]? = some (.cells #[.int .i64 0, .slice none 0 0, .slice none 0 0, .slice none 0 0] 26 (0, 0)) ∧ Below w.heap.size w w' ∧ bs ≤ w'.heap.size) ?hcont ?hall
  case hcont =>
    intro s w5 hF
    obtain ⟨D1, k1, b9, b18⟩ := s
    obtain ⟨r1, r2, r3, rx, rg, rp, rb, rz⟩ := hF
    have R15 := Aside0.mk r1
    have N25 := Aside0.mk r2
    have N35 := Aside0.mk r3
    have X5 := Aside0.mk rx
    have G5 := Aside0.mk rg
    have P5 := Aside0.mk rp
    have B5 := Aside0.mk rb
    have Z5 := Aside0.mk rz
    clear r1 r2 r3 rx rg rp rb rz
    refine norm_ (a' := ?_) ?_ ?_
    rotate_left
    · simp only [putAll, Act.put, List.setIfInBounds_toArray, List.set_cons_zero, List.set_cons_succ]
      rfl
    refine last_ (i := 19) (N := some 78) #[true, true, true, true, true, true, true, true, true, true, true, true, true, true, true, true, true, true, true, true, false, false, false, false, false, false, false, false] rfl rfl (by kernel_rfl) (by decide) (fun K hK => ?_)
    refine goes_ Try.func23 (by kernel_rfl) rfl #[.slice B2 0 e2, .int .i64 0, .slice (some ⟨b18, 0, none⟩) 1 1] (by rfl) rfl rfl (by simp only [List.map_toArray, List.map_cons, List.map_nil]; rfl) ?_
    refine (ins_int B2 e2 bs (some ⟨b18, 0, none⟩) 2 w5 N25.out Z5.out (C_block_int X5.out)).mono ?_
    rintro e w6 ⟨D2, k2, rfl, r2, hg⟩
    refine ⟨_, rfl, ?_⟩
    have G6 := Aside0.mk (blk_grown G5.out hg (Kd.R_ne N25.out G5.out (by decide)))
    have P6 := Aside0.mk (blk_grown P5.out hg (Kd.R_ne N25.out P5.out (by decide)))
    have R16 := Aside0.mk (Kd.R_over R15.out N25.out (by decide) hg)
    have R26 := Aside0.mk r2
    have N36 := Aside0.mk (Kd.R_over N35.out N25.out (by decide) hg)
    have B6 := Aside0.mk (pw_below_grown B5.out _ (below_size B5.out) hg (fun k hk => Nat.le_trans HBS.out (Kd.R_base N25.out k hk)))
    clear hg r2
    have c0 := (blk_cell G6.out 0).trans (show _ = some (Value.int .i64 2) from rfl)
    have c1 := (blk_cell G6.out 1).trans (show _ = some (Value.slice B1 0 e1) from rfl)
    have c2 := (blk_cell G6.out 2).trans (show _ = some (Value.slice B2 0 e2) from rfl)
    have f1 := blk_frozen G6.out 1
    have f2 := blk_frozen G6.out 2
    refine hK.out _ _ ?_
    clear hK K
    refine pure_ (i := 20) (N := some 79) (v := ?_) (a' := ?_) #[true, true, true, true, true, true, true, true, true, true, true, true, true, true, true, true, true, true, true, true, true, false, false, false, false, false, false, false] rfl rfl (by kernel_rfl) (fun _ _ _ h => h) (Or.inl ⟨by rfl, ?_⟩) ?_ ?_
    rotate_left
    · intro w'
      go_simp
      with_reducible rfl
    rotate_left
    · simp only [Act.put, List.setIfInBounds_toArray, List.set_cons_zero, List.set_cons_succ]
      rfl
    refine pure_ (i := 21) (N := some 80) (v := ?_) (a' := ?_) #[true, true, true, true, true, true, true, true, true, true, true, true, true, true, true, true, true, true, true, true, true, true, false, false, false, false, false, false] rfl rfl (by kernel_rfl) (fun _ _ _ h => h) (Or.inl ⟨by rfl, ?_⟩) ?_ ?_
    rotate_left
    · intro w'
      go_simp
      with_reducible rfl
    rotate_left
    · simp only [Act.put, List.setIfInBounds_toArray, List.set_cons_zero, List.set_cons_succ]
      rfl
    refine pure_ (i := 22) (N := some 81) (v := ?_) (a' := ?_) #[true, true, true, true, true, true, true, true, true, true, true, true, true, true, true, true, true, true, true, true, true, true, true, false, false, false, false, false] rfl rfl (by kernel_rfl) (fun _ _ _ h => h) (Or.inl ⟨by rfl, ?_⟩) ?_ ?_
    rotate_left
    · intro w'
      go_simp
      with_reducible rfl
    rotate_left
    · simp only [Act.put, List.setIfInBounds_toArray, List.set_cons_zero, List.set_cons_succ]
      rfl
    refine last_ (i := 23) (N := none) #[true, true, true, true, true, true, true, true, true, true, true, true, true, true, true, true, true, true, true, true, true, true, true, true, false, false, false, false] rfl rfl (by kernel_rfl) (by decide) (fun K hK => ?_)
    refine skip_ (w1 := ?_) (by rfl) rfl ?_ ?_
    rotate_left
    · go_simp
      rfl
    refine hK.out _ _ ?_
    clear hK K
    refine pure_ (i := 24) (N := some 82) (v := ?_) (a' := ?_) #[true, true, true, true, true, true, true, true, true, true, true, true, true, true, true, true, true, true, true, true, true, true, true, true, true, false, false, false] rfl rfl (by kernel_rfl) (fun _ _ _ h => h) (Or.inl ⟨by rfl, ?_⟩) ?_ ?_
    rotate_left
    · intro w'
      go_simp
      with_reducible rfl
    rotate_left
    · simp only [Act.put, List.setIfInBounds_toArray, List.set_cons_zero, List.set_cons_succ]
      rfl
    refine pure_ (i := 25) (N := some 83) (v := ?_) (a' := ?_) #[true, true, true, true, true, true, true, true, true, true, true, true, true, true, true, true, true, true, true, true, true, true, true, true, true, true, false, false] rfl rfl (by kernel_rfl) (fun _ _ _ h => h) (Or.inl ⟨by rfl, ?_⟩) ?_ ?_
    rotate_left
    · intro w'
      go_simp
      with_reducible rfl
    rotate_left
    · simp only [Act.put, List.setIfInBounds_toArray, List.set_cons_zero, List.set_cons_succ]
      rfl
    refine pure_ (i := 26) (N := some 84) (v := ?_) (a' := ?_) #[true, true, true, true, true, true, true, true, true, true, true, true, true, true, true, true, true, true, true, true, true, true, true, true, true, true, true, false] rfl rfl (by kernel_rfl) (fun _ _ _ h => h) (Or.inl ⟨by rfl, ?_⟩) ?_ ?_
    rotate_left
    · intro w'
      go_simp
      with_reducible rfl
    rotate_left
    · simp only [Act.put, List.setIfInBounds_toArray, List.set_cons_zero, List.set_cons_succ]
      rfl
    refine last_ (i := 27) (N := none) #[true, true, true, true, true, true, true, true, true, true, true, true, true, true, true, true, true, true, true, true, true, true, true, true, true, true, true, true] rfl rfl (by kernel_rfl) (by decide) (fun K hK => ?_)
    refine skip_ (w1 := ?_) (by rfl) rfl ?_ ?_
    rotate_left
    · go_simp
      rfl
    refine hK.out _ _ ?_
    clear hK K
    refine done_ (by kernel_rfl) ?_
    clear c0 c1 c2 f1 f2
    have hk7 := ((KeepBut.refl w6 g none).set_ 1 (.slice D1 1 k1)).set_ 2 (.slice D2 1 k2)
    have G7 := Aside0.mk (show ((w6.setCell ⟨g, 1, none⟩ (.slice D1 1 k1)).setCell ⟨g, 2, none⟩ (.slice D2 1 k2)).heap[g]? = some (.cells #[.int .i64 2, (.slice D1 1 k1), (.slice D2 1 k2), .slice B3 0 e3] 50 (0, 0)) from blk_set (blk_set G6.out 1 _) 2 _)
    have P7 := Aside0.mk (blk_far (blk_far P6.out (p := ⟨g, 1, none⟩) NE.out (.slice D1 1 k1)) (p := ⟨g, 2, none⟩) NE.out (.slice D2 1 k2))
    have M1 := Aside0.mk (R_keptBut R16.out G6.out (by decide) hk7)
    have M2 := Aside0.mk (R_keptBut R26.out G6.out (by decide) hk7)
    have M3 := Aside0.mk (R_keptBut N36.out G6.out (by decide) hk7)
    have HB7 := Aside0.mk ((B6.out.setCell (p := ⟨g, 1, none⟩) GE.out (.slice D1 1 k1)).setCell (p := ⟨g, 2, none⟩) GE.out (.slice D2 1 k2))
    clear hk7
    generalize (w6.setCell ⟨g, 1, none⟩ (.slice D1 1 k1)).setCell ⟨g, 2, none⟩ (.slice D2 1 k2) = w7 at G7 P7 M1 M2 M3 HB7 ⊢
    have x0 := (blk_cell G7.out 0).trans (show _ = some (Value.int .i64 2) from rfl)
    have x1 := (blk_cell G7.out 1).trans (show _ = some (Value.slice D1 1 k1) from rfl)
    have x2 := (blk_cell G7.out 2).trans (show _ = some (Value.slice D2 1 k2) from rfl)
    have x3 := (blk_cell G7.out 3).trans (show _ = some (Value.slice B3 0 e3) from rfl)
    have z0 := (blk_cell P7.out 0).trans (show _ = some (Value.int .i64 0) from rfl)
    have z1 := (blk_cell P7.out 1).trans (show _ = some (Value.slice none 0 0) from rfl)
    have z2 := (blk_cell P7.out 2).trans (show _ = some (Value.slice none 0 0) from rfl)
    have z3 := (blk_cell P7.out 3).trans (show _ = some (Value.slice none 0 0) from rfl)
    have y0 := blk_frozen P7.out 0
    have y1 := blk_frozen P7.out 1
    have y2 := blk_frozen P7.out 2
    have y3 := blk_frozen P7.out 3
    go_wp2
    have hb8 := blk_set (blk_set (blk_set (blk_set P7.out 0 (.int .i64 2)) 1 (.slice D1 1 k1)) 2 (.slice D2 1 k2)) 3 (.slice B3 0 e3)
    have hk8 := ((((KeepBut.refl w7 (w.heap.size + 1) none).set_ 0 (.int .i64 2)).set_ 1 (.slice D1 1 k1)).set_ 2 (.slice D2 1 k2)).set_ 3 (.slice B3 0 e3)
    have r1 := Kd.R_lower (R_keptBut M1.out P7.out (by decide) hk8) HBS.out
    have r2 := Kd.R_lower (R_keptBut M2.out P7.out (by decide) hk8) HBS.out
    have r3 := Kd.R_lower (R_keptBut M3.out P7.out (by decide) hk8) HBS.out
    refine bodyPost_ret (results_ct (fn := Try.f12) rfl _ _ (w.heap.size + 1) 26 _ _ _ rfl hb8 Try.underlying26 rfl info26) rfl ?_
    exact ⟨D1, k1, D2, k2, B3, e3, rfl, r1, r2, r3, (((HB7.out.setCell (Nat.le_succ _) _).setCell (Nat.le_succ _) _).setCell (Nat.le_succ _) _).setCell (Nat.le_succ _) _⟩
  case hall =>
    intro hc
    refine two_ (i := 9) (j := 18) (Ni := some 68) (Nj := some 77) #[true, true, true, true, true, true, true, true, true, true, false, true, true, true, true, true, true, true, false, false, false, false, false, false, false, false, false, false] #[true, true, true, true, true, true, true, true, true, false, false, true, true, true, true, true, true, true, true, false, false, false, false, false, false, false, false, false] rfl rfl rfl rfl (by kernel_rfl) (by decide) (by decide) (fun K hK => ?_) (fun K hK => ?_)
    · refine value_ (v := .slice (some ⟨w4.heap.size, 0, none⟩) 1 1) (w1 := w4.alloc (.cells #[.string ⟨#[97]⟩] 9)) (by rfl) rfl ?_ ?_
      · first | (go_simp; done) | (go_simp; rfl)
      have Gb := Aside0.mk (blk_alloc Ga.out (.cells #[.string ⟨#[97]⟩] 9))
      have Pb := Aside0.mk (blk_alloc Pa.out (.cells #[.string ⟨#[97]⟩] 9))
      have N2b := Aside0.mk (Kd.R_alloc N2a.out (.cells #[.string ⟨#[97]⟩] 9))
      have N3b := Aside0.mk (Kd.R_alloc N3a.out (.cells #[.string ⟨#[97]⟩] 9))
      have Bb := Aside0.mk (below_alloc Ba.out (.cells #[.string ⟨#[97]⟩] 9))
      have Zb := Aside0.mk (Nat.le_trans Za.out (below_alloc (Below.refl _ _) (.cells #[.string ⟨#[97]⟩] 9)).size)
      have N1b := Aside0.mk (Kd.R_alloc N1a.out (.cells #[.string ⟨#[97]⟩] 9))
      have X9b := Aside0.mk (blk_new w4 (.cells #[.string ⟨#[97]⟩] 9 (0, 0)))
      refine hK.out _ _ ⟨(blk_cell Gb.out 1).trans rfl, (blk_cell Gb.out 2).trans rfl⟩ (fun _ => ?_)
      clear hK K
      refine two_ (i := 10) (j := 18) (Ni := some 69) (Nj := some 77) #[true, true, true, true, true, true, true, true, true, true, true, true, true, true, true, true, true, true, false, false, false, false, false, false, false, false, false, false] #[true, true, true, true, true, true, true, true, true, true, false, true, true, true, true, true, true, true, true, false, false, false, false, false, false, false, false, false] rfl rfl rfl rfl (by kernel_rfl) (by decide) (by decide) (fun K hK => ?_) (fun K hK => ?_)
      · refine goes_ Try.func22 (by kernel_rfl) rfl #[.slice B1 0 e1, .int .i64 0, .slice (some ⟨w4.heap.size, 0, none⟩) 1 1] (by rfl) rfl rfl (by simp only [List.map_toArray, List.map_cons, List.map_nil]; rfl) ?_
        refine (ins_str B1 e1 bs (some ⟨w4.heap.size, 0, none⟩) ⟨#[97]⟩ (w4.alloc (.cells #[.string ⟨#[97]⟩] 9)) N1b.out Zb.out (C_block_str X9b.out)).mono ?_
        rintro e vc ⟨D1, k1, rfl, r1, hg⟩
        refine ⟨_, rfl, ?_⟩
        have Gc := Aside0.mk (blk_grown Gb.out hg (Kd.R_ne N1b.out Gb.out (by decide)))
        have Pc := Aside0.mk (blk_grown Pb.out hg (Kd.R_ne N1b.out Pb.out (by decide)))
        have N2c := Aside0.mk (Kd.R_over N2b.out N1b.out (by decide) hg)
        have N3c := Aside0.mk (Kd.R_over N3b.out N1b.out (by decide) hg)
        have Bc := Aside0.mk (pw_below_grown Bb.out _ (below_size Bb.out) hg (fun k hk => Nat.le_trans HBS.out (Kd.R_base N1b.out k hk)))
        have Zc := Aside0.mk (Nat.le_trans Zb.out hg.size)
        have R1c := Aside0.mk r1
        clear hg r1
        refine hK.out _ _ ⟨(blk_cell Gc.out 1).trans rfl, (blk_cell Gc.out 2).trans rfl⟩ (fun _ => ?_)
        clear hK K
        refine one_ (i := 18) (N := some 77) #[true, true, true, true, true, true, true, true, true, true, true, true, true, true, true, true, true, true, true, false, false, false, false, false, false, false, false, false] rfl rfl (by kernel_rfl) (by decide) (fun K hK => ?_)
        refine value_ (v := .slice (some ⟨vc.heap.size, 0, none⟩) 1 1) (w1 := vc.alloc (.cells #[.int .i64 2] 3)) (by rfl) rfl ?_ ?_
        · first | (go_simp; done) | (go_simp; rfl)
        have Gd := Aside0.mk (blk_alloc Gc.out (.cells #[.int .i64 2] 3))
        have Pd := Aside0.mk (blk_alloc Pc.out (.cells #[.int .i64 2] 3))
        have N2d := Aside0.mk (Kd.R_alloc N2c.out (.cells #[.int .i64 2] 3))
        have N3d := Aside0.mk (Kd.R_alloc N3c.out (.cells #[.int .i64 2] 3))
        have Bd := Aside0.mk (below_alloc Bc.out (.cells #[.int .i64 2] 3))
        have Zd := Aside0.mk (Nat.le_trans Zc.out (below_alloc (Below.refl _ _) (.cells #[.int .i64 2] 3)).size)
        have R1d := Aside0.mk (Kd.R_alloc R1c.out (.cells #[.int .i64 2] 3))
        have X18d := Aside0.mk (blk_new vc (.cells #[.int .i64 2] 3 (0, 0)))
        refine hK.out _ _ ⟨(blk_cell Gd.out 1).trans rfl, (blk_cell Gd.out 2).trans rfl⟩ (fun _ => ?_)
        clear hK K
        refine norm_ ?_ (hc (D1, k1, w4.heap.size, vc.heap.size) _ ⟨R1d.out, N2d.out, N3d.out, X18d.out, Gd.out, Pd.out, Bd.out, Zd.out⟩)
        simp only [putAll, Act.put, List.setIfInBounds_toArray, List.set_cons_zero, List.set_cons_succ]
      · refine value_ (v := .slice (some ⟨(w4.alloc (.cells #[.string ⟨#[97]⟩] 9)).heap.size, 0, none⟩) 1 1) (w1 := (w4.alloc (.cells #[.string ⟨#[97]⟩] 9)).alloc (.cells #[.int .i64 2] 3)) (by rfl) rfl ?_ ?_
        · first | (go_simp; done) | (go_simp; rfl)
        have Gc := Aside0.mk (blk_alloc Gb.out (.cells #[.int .i64 2] 3))
        have Pc := Aside0.mk (blk_alloc Pb.out (.cells #[.int .i64 2] 3))
        have N2c := Aside0.mk (Kd.R_alloc N2b.out (.cells #[.int .i64 2] 3))
        have N3c := Aside0.mk (Kd.R_alloc N3b.out (.cells #[.int .i64 2] 3))
        have Bc := Aside0.mk (below_alloc Bb.out (.cells #[.int .i64 2] 3))
        have Zc := Aside0.mk (Nat.le_trans Zb.out (below_alloc (Below.refl _ _) (.cells #[.int .i64 2] 3)).size)
        have N1c := Aside0.mk (Kd.R_alloc N1b.out (.cells #[.int .i64 2] 3))
        have X9c := Aside0.mk (blk_alloc X9b.out (.cells #[.int .i64 2] 3))
        have X18c := Aside0.mk (blk_new (w4.alloc (.cells #[.string ⟨#[97]⟩] 9)) (.cells #[.int .i64 2] 3 (0, 0)))
        refine hK.out _ _ ⟨(blk_cell Gc.out 1).trans rfl, (blk_cell Gc.out 2).trans rfl⟩ (fun _ => ?_)
        clear hK K
        refine one_ (i := 10) (N := some 69) #[true, true, true, true, true, true, true, true, true, true, true, true, true, true, true, true, true, true, true, false, false, false, false, false, false, false, false, false] rfl rfl (by kernel_rfl) (by decide) (fun K hK => ?_)
        refine goes_ Try.func22 (by kernel_rfl) rfl #[.slice B1 0 e1, .int .i64 0, .slice (some ⟨w4.heap.size, 0, none⟩) 1 1] (by rfl) rfl rfl (by simp only [List.map_toArray, List.map_cons, List.map_nil]; rfl) ?_
        refine (ins_str B1 e1 bs (some ⟨w4.heap.size, 0, none⟩) ⟨#[97]⟩ ((w4.alloc (.cells #[.string ⟨#[97]⟩] 9)).alloc (.cells #[.int .i64 2] 3)) N1c.out Zc.out (C_block_str X9c.out)).mono ?_
        rintro e vd ⟨D1, k1, rfl, r1, hg⟩
        refine ⟨_, rfl, ?_⟩
        have Gd := Aside0.mk (blk_grown Gc.out hg (Kd.R_ne N1c.out Gc.out (by decide)))
        have Pd := Aside0.mk (blk_grown Pc.out hg (Kd.R_ne N1c.out Pc.out (by decide)))
        have N2d := Aside0.mk (Kd.R_over N2c.out N1c.out (by decide) hg)
        have N3d := Aside0.mk (Kd.R_over N3c.out N1c.out (by decide) hg)
        have Bd := Aside0.mk (pw_below_grown Bc.out _ (below_size Bc.out) hg (fun k hk => Nat.le_trans HBS.out (Kd.R_base N1c.out k hk)))
        have Zd := Aside0.mk (Nat.le_trans Zc.out hg.size)
        have R1d := Aside0.mk r1
        have X18d := Aside0.mk (blk_grown X18c.out hg (Kd.R_ne N1c.out X18c.out (by decide)))
        clear hg r1
        refine hK.out _ _ ⟨(blk_cell Gd.out 1).trans rfl, (blk_cell Gd.out 2).trans rfl⟩ (fun _ => ?_)
        clear hK K
        refine norm_ ?_ (hc (D1, k1, w4.heap.size, (w4.alloc (.cells #[.string ⟨#[97]⟩] 9)).heap.size) _ ⟨R1d.out, N2d.out, N3d.out, X18d.out, Gd.out, Pd.out, Bd.out, Zd.out⟩)
        simp only [putAll, Act.put, List.setIfInBounds_toArray, List.set_cons_zero, List.set_cons_succ]
    · refine value_ (v := .slice (some ⟨w4.heap.size, 0, none⟩) 1 1) (w1 := w4.alloc (.cells #[.int .i64 2] 3)) (by rfl) rfl ?_ ?_
      · first | (go_simp; done) | (go_simp; rfl)
      have Gb := Aside0.mk (blk_alloc Ga.out (.cells #[.int .i64 2] 3))
      have Pb := Aside0.mk (blk_alloc Pa.out (.cells #[.int .i64 2] 3))
      have N2b := Aside0.mk (Kd.R_alloc N2a.out (.cells #[.int .i64 2] 3))
      have N3b := Aside0.mk (Kd.R_alloc N3a.out (.cells #[.int .i64 2] 3))
      have Bb := Aside0.mk (below_alloc Ba.out (.cells #[.int .i64 2] 3))
      have Zb := Aside0.mk (Nat.le_trans Za.out (below_alloc (Below.refl _ _) (.cells #[.int .i64 2] 3)).size)
      have N1b := Aside0.mk (Kd.R_alloc N1a.out (.cells #[.int .i64 2] 3))
      have X18b := Aside0.mk (blk_new w4 (.cells #[.int .i64 2] 3 (0, 0)))
      refine hK.out _ _ ⟨(blk_cell Gb.out 1).trans rfl, (blk_cell Gb.out 2).trans rfl⟩ (fun _ => ?_)
      clear hK K
      refine one_ (i := 9) (N := some 68) #[true, true, true, true, true, true, true, true, true, true, false, true, true, true, true, true, true, true, true, false, false, false, false, false, false, false, false, false] rfl rfl (by kernel_rfl) (by decide) (fun K hK => ?_)
      refine value_ (v := .slice (some ⟨(w4.alloc (.cells #[.int .i64 2] 3)).heap.size, 0, none⟩) 1 1) (w1 := (w4.alloc (.cells #[.int .i64 2] 3)).alloc (.cells #[.string ⟨#[97]⟩] 9)) (by rfl) rfl ?_ ?_
      · first | (go_simp; done) | (go_simp; rfl)
      have Gc := Aside0.mk (blk_alloc Gb.out (.cells #[.string ⟨#[97]⟩] 9))
      have Pc := Aside0.mk (blk_alloc Pb.out (.cells #[.string ⟨#[97]⟩] 9))
      have N2c := Aside0.mk (Kd.R_alloc N2b.out (.cells #[.string ⟨#[97]⟩] 9))
      have N3c := Aside0.mk (Kd.R_alloc N3b.out (.cells #[.string ⟨#[97]⟩] 9))
      have Bc := Aside0.mk (below_alloc Bb.out (.cells #[.string ⟨#[97]⟩] 9))
      have Zc := Aside0.mk (Nat.le_trans Zb.out (below_alloc (Below.refl _ _) (.cells #[.string ⟨#[97]⟩] 9)).size)
      have N1c := Aside0.mk (Kd.R_alloc N1b.out (.cells #[.string ⟨#[97]⟩] 9))
      have X18c := Aside0.mk (blk_alloc X18b.out (.cells #[.string ⟨#[97]⟩] 9))
      have X9c := Aside0.mk (blk_new (w4.alloc (.cells #[.int .i64 2] 3)) (.cells #[.string ⟨#[97]⟩] 9 (0, 0)))
      refine hK.out _ _ ⟨(blk_cell Gc.out 1).trans rfl, (blk_cell Gc.out 2).trans rfl⟩ (fun _ => ?_)
      clear hK K
      refine one_ (i := 10) (N := some 69) #[true, true, true, true, true, true, true, true, true, true, true, true, true, true, true, true, true, true, true, false, false, false, false, false, false, false, false, false] rfl rfl (by kernel_rfl) (by decide) (fun K hK => ?_)
      refine goes_ Try.func22 (by kernel_rfl) rfl #[.slice B1 0 e1, .int .i64 0, .slice (some ⟨(w4.alloc (.cells #[.int .i64 2] 3)).heap.size, 0, none⟩) 1 1] (by rfl) rfl rfl (by simp only [List.map_toArray, List.map_cons, List.map_nil]; rfl) ?_
      refine (ins_str B1 e1 bs (some ⟨(w4.alloc (.cells #[.int .i64 2] 3)).heap.size, 0, none⟩) ⟨#[97]⟩ ((w4.alloc (.cells #[.int .i64 2] 3)).alloc (.cells #[.string ⟨#[97]⟩] 9)) N1c.out Zc.out (C_block_str X9c.out)).mono ?_
      rintro e vd ⟨D1, k1, rfl, r1, hg⟩
      refine ⟨_, rfl, ?_⟩
      have Gd := Aside0.mk (blk_grown Gc.out hg (Kd.R_ne N1c.out Gc.out (by decide)))
      have Pd := Aside0.mk (blk_grown Pc.out hg (Kd.R_ne N1c.out Pc.out (by decide)))
      have N2d := Aside0.mk (Kd.R_over N2c.out N1c.out (by decide) hg)
      have N3d := Aside0.mk (Kd.R_over N3c.out N1c.out (by decide) hg)
      have Bd := Aside0.mk (pw_below_grown Bc.out _ (below_size Bc.out) hg (fun k hk => Nat.le_trans HBS.out (Kd.R_base N1c.out k hk)))
      have Zd := Aside0.mk (Nat.le_trans Zc.out hg.size)
      have R1d := Aside0.mk r1
      have X18d := Aside0.mk (blk_grown X18c.out hg (Kd.R_ne N1c.out X18c.out (by decide)))
      clear hg r1
      refine hK.out _ _ ⟨(blk_cell Gd.out 1).trans rfl, (blk_cell Gd.out 2).trans rfl⟩ (fun _ => ?_)
      clear hK K
      refine norm_ ?_ (hc (D1, k1, (w4.alloc (.cells #[.int .i64 2] 3)).heap.size, w4.heap.size) _ ⟨R1d.out, N2d.out, N3d.out, X18d.out, Gd.out, Pd.out, Bd.out, Zd.out⟩)
      simp only [putAll, Act.put, List.setIfInBounds_toArray, List.set_cons_zero, List.set_cons_succ]


end Go.Proofs.Ytkhilhgpkfecaaa.Mk
