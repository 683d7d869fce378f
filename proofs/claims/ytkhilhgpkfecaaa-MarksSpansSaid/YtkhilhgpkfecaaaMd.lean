/- marks.Push and marks.Pop answer what the document says, of any marks whose lists are read. -/
import Derived.Test.YtkhilhgpkfecaaaMc
namespace Go.Proofs.Ytkhilhgpkfecaaa.Mk
open Go.RowKit Go.Proofs.YtkhilhgpkfecaaaW.PrintWords Go.Proofs.YtkhilhgpkfecaaaW.PrintLast Go.Proofs.YtkhilhgpkfecaaaW.PrintMore Go.Proofs.Ytkhilhgpkfecaaa.PMarksSpans
set_option linter.unusedVariables false
set_option linter.unusedSimpArgs false

/-- Marks and a code, answered: what the lists read as. -/
def MarksRet (a0 : Int) (l1 : List ByteArray) (l2 : List Int) (l3 : List S38) (code : Int) (w : World) (e : Ending) (w' : World) : Prop :=
  ∃ B1 d1 B2 d2 B3 d3, e = .returned (.tuple #[.agg #[.int .i64 a0, .slice B1 l1.length d1, .slice B2 l2.length d2, .slice B3 l3.length d3], .int .i64 code]) ∧
    Kd.string.R 9 w' w.heap.size (fun _ => True) (.slice B1 l1.length d1) l1 ∧ (Kd.int .i64).R 3 w' w.heap.size (fun _ => True) (.slice B2 l2.length d2) l2 ∧ k38.R 38 w' w.heap.size (fun _ => True) (.slice B3 l3.length d3) l3 ∧ Below w.heap.size w w'

theorem box38 (W : World) (x : S38) : k38.C (W.alloc (.cells #[.int .i64 x.f0, .int .i64 x.f1] 38)) (some ⟨W.heap.size, 0, none⟩) [x].length [x] := by
  have h := OwnRow.lit (R := fun p c => k38.M (W.alloc (.cells #[.int .i64 x.f0, .int .i64 x.f1] 38)) W.heap.size (fun k => True ∧ some k ≠ (Value.slice (some ⟨W.heap.size, 0, none⟩) 1 1).ownBlock) p c) (e := 38) (size := 2) W W.heap.size (ps := [x])
    ((Reps.none _ 2).snoc (k38_mkM _ _ _ x) rfl) (Nat.le_refl _) (by simp)
  exact (Kd.R_reads' (⟨fun _ _ => trivial, h⟩ : k38.R 38 (W.alloc (.cells #[.int .i64 x.f0, .int .i64 x.f1] 38)) W.heap.size (fun _ => True) (.slice (some ⟨W.heap.size, 0, none⟩) 1 1) [x])).2.2
theorem exec_append {P : Program} {o : Oper} {a : Act} {s x : Operand} {t : TypeId} {v u v1 : Value} {w w1 : World} (ho : o.op = .call { callee := .builtin .append, args := #[s, x], argTypes := #[t, t] })
    (hs : a.eval s = v) (hx : a.eval x = u) (hr : (Builtin.append_ #[t, t] o.type #[v, u]).run P w = .ok v1 w1) : (execOp a.eval o).run P w = .ok (.value v1) w1 := by
  unfold execOp
  simp only [ho, resolve, invoke, builtin, Sem.run_bind, Sem.run_pure, Result.andThen_ok, List.map_toArray, List.map_cons, List.map_nil, hs, hx, hr]

def spanB (a b n : Int) : Bool := decide (0 ≤ a) && decide (a ≤ b) && decide (b ≤ n)
theorem isSpan_f (a b n : Int) : marks_isSpan.f a b n = some (spanB a b n) := by
  unfold marks_isSpan.f spanB
  by_cases h1 : a ≥ 0
  · by_cases h2 : a ≤ b
    · rw [if_pos h1, if_pos h2]
      have : 0 ≤ a := h1
      simp [this, h2]
    · rw [if_pos h1, if_neg h2]
      simp [h2]
  · rw [if_neg h1]
    have : ¬ 0 ≤ a := h1
    simp [this]

theorem alloc2 (w : World) (o1 o2 : Obj) : ((w.alloc o1).alloc o2).heap[w.heap.size]? = some o1 ∧ ((w.alloc o1).alloc o2).heap[w.heap.size + 1]? = some o2 ∧ Below w.heap.size w ((w.alloc o1).alloc o2) := by
  have h1 : (w.alloc o1).heap.size = w.heap.size + 1 := by simp
  refine ⟨blk_alloc (blk_new w o1) o2, ?_, below_alloc (below_alloc (Below.refl _ _) _) _⟩
  rw [← h1]
  exact blk_new (w.alloc o1) o2
theorem alloc3 (w : World) (o1 o2 o3 : Obj) : (((w.alloc o1).alloc o2).alloc o3).heap[w.heap.size]? = some o1 ∧ (((w.alloc o1).alloc o2).alloc o3).heap[w.heap.size + 1]? = some o2 ∧
    (((w.alloc o1).alloc o2).alloc o3).heap[w.heap.size + 2]? = some o3 ∧ Below w.heap.size w (((w.alloc o1).alloc o2).alloc o3) := by
  have h1 : (w.alloc o1).heap.size = w.heap.size + 1 := by simp
  have h2 : ((w.alloc o1).alloc o2).heap.size = w.heap.size + 2 := by simp
  refine ⟨blk_alloc (blk_alloc (blk_new w o1) o2) o3, ?_, ?_, below_alloc (below_alloc (below_alloc (Below.refl _ _) _) _) _⟩
  · rw [← h1]
    exact blk_alloc (blk_new (w.alloc o1) o2) o3
  · rw [← h2]
    exact blk_new ((w.alloc o1).alloc o2) o3

set_option maxRecDepth 100000 in
set_option maxHeartbeats 1600000 in
theorem push_bad (a0 : Int) (A1 : Option Addr) (c1 : Nat) (l1 : List ByteArray) (A2 : Option Addr) (c2 : Nat) (l2 : List Int) (A3 : Option Addr) (c3 : Nat) (l3 : List S38) (from_ to_ n : Int) (w : World)
    (hs : spanB from_ to_ n = false) :
    Calls Try.prog 7 #[.agg #[.int .i64 a0, .slice A1 l1.length c1, .slice A2 l2.length c2, .slice A3 l3.length c3], .int .i64 from_, .int .i64 to_, .int .i64 n] w fun e w' => MarksRet 0 [] [] [] 3 w e w' := by
  have hu26 := Try.underlying26
  have hu38 := Try.underlying38
  have HS := Aside0.mk hs
  clear hs
  go_enter Try.func7, Try.ntmps7
  go_wp2_with fail
  refine (marks_isSpan.calls from_ to_ n false _ (by rw [isSpan_f, HS.out])).mono ?_
  rintro e w1 ⟨rfl, hb⟩
  obtain ⟨k1, k2, k3, k4⟩ := alloc3 w (.cells #[.int .i64 a0, .slice A1 l1.length c1, .slice A2 l2.length c2, .slice A3 l3.length c3] 26 (0, 0)) (.cells #[.int .i64 0, .slice none 0 0, .slice none 0 0, .slice none 0 0] 26 (0, 0)) (.cells #[.int .i64 from_, .int .i64 to_] 38 (0, 0))
  have BK2 := Aside0.mk (blk_below k2 hb)
  have HB := Aside0.mk (below_step k4 hb)
  clear k1 k2 k3 k4 hb
  have z0 := (blk_cell BK2.out 0).trans (show _ = some (Value.int .i64 0) from rfl)
  have z1 := (blk_cell BK2.out 1).trans (show _ = some (Value.slice none 0 0) from rfl)
  have z2 := (blk_cell BK2.out 2).trans (show _ = some (Value.slice none 0 0) from rfl)
  have z3 := (blk_cell BK2.out 3).trans (show _ = some (Value.slice none 0 0) from rfl)
  have y0 := blk_frozen BK2.out 0
  have y1 := blk_frozen BK2.out 1
  have y2 := blk_frozen BK2.out 2
  have y3 := blk_frozen BK2.out 3
  go_wp2
  have hb4 := blk_set (blk_set (blk_set (blk_set BK2.out 0 (.int .i64 0)) 1 (.slice none 0 0)) 2 (.slice none 0 0)) 3 (.slice none 0 0)
  refine bodyPost_ret (results_ct (fn := Try.f7) rfl _ _ (w.heap.size + 1) 26 _ _ _ rfl hb4 Try.underlying26 rfl info26) rfl ?_
  exact ⟨none, 0, none, 0, none, 0, rfl, Kd.R_nil _ _ _ _ _, Kd.R_nil _ _ _ _ _, Kd.R_nil _ _ _ _ _,
    (((HB.out.setCell (Nat.le_succ _) _).setCell (Nat.le_succ _) _).setCell (Nat.le_succ _) _).setCell (Nat.le_succ _) _⟩

set_option maxRecDepth 100000 in
set_option maxHeartbeats 1600000 in
theorem push_full (a0 : Int) (A1 : Option Addr) (c1 : Nat) (l1 : List ByteArray) (A2 : Option Addr) (c2 : Nat) (l2 : List Int) (A3 : Option Addr) (c3 : Nat) (l3 : List S38) (from_ to_ n : Int) (w : World)
    (hs : spanB from_ to_ n = true) (hl : 32 ≤ l3.length) (hm : l3.length ≤ 140737488355328) :
    Calls Try.prog 7 #[.agg #[.int .i64 a0, .slice A1 l1.length c1, .slice A2 l2.length c2, .slice A3 l3.length c3], .int .i64 from_, .int .i64 to_, .int .i64 n] w fun e w' => MarksRet 0 [] [] [] 13 w e w' := by
  have hu26 := Try.underlying26
  have hu38 := Try.underlying38
  have HS := Aside0.mk hs
  clear hs
  go_enter Try.func7, Try.ntmps7
  go_wp2_with fail
  refine (marks_isSpan.calls from_ to_ n true _ (by rw [isSpan_f, HS.out])).mono ?_
  rintro e w1 ⟨rfl, hb⟩
  obtain ⟨k1, k2, k3, k4⟩ := alloc3 w (.cells #[.int .i64 a0, .slice A1 l1.length c1, .slice A2 l2.length c2, .slice A3 l3.length c3] 26 (0, 0)) (.cells #[.int .i64 0, .slice none 0 0, .slice none 0 0, .slice none 0 0] 26 (0, 0)) (.cells #[.int .i64 from_, .int .i64 to_] 38 (0, 0))
  have BK1 := Aside0.mk (blk_below k1 hb)
  have BK2 := Aside0.mk (blk_below k2 hb)
  have HB := Aside0.mk (below_step k4 hb)
  clear k1 k2 k3 k4 hb
  have x0 := (blk_cell BK1.out 0).trans (show _ = some (Value.int .i64 a0) from rfl)
  have x1 := (blk_cell BK1.out 1).trans (show _ = some (Value.slice A1 l1.length c1) from rfl)
  have x2 := (blk_cell BK1.out 2).trans (show _ = some (Value.slice A2 l2.length c2) from rfl)
  have x3 := (blk_cell BK1.out 3).trans (show _ = some (Value.slice A3 l3.length c3) from rfl)
  have z0 := (blk_cell BK2.out 0).trans (show _ = some (Value.int .i64 0) from rfl)
  have z1 := (blk_cell BK2.out 1).trans (show _ = some (Value.slice none 0 0) from rfl)
  have z2 := (blk_cell BK2.out 2).trans (show _ = some (Value.slice none 0 0) from rfl)
  have z3 := (blk_cell BK2.out 3).trans (show _ = some (Value.slice none 0 0) from rfl)
  have y0 := blk_frozen BK2.out 0
  have y1 := blk_frozen BK2.out 1
  have y2 := blk_frozen BK2.out 2
  have y3 := blk_frozen BK2.out 3
  go_wp2
  have hb4 := blk_set (blk_set (blk_set (blk_set BK2.out 0 (.int .i64 0)) 1 (.slice none 0 0)) 2 (.slice none 0 0)) 3 (.slice none 0 0)
  refine bodyPost_ret (results_ct (fn := Try.f7) rfl _ _ (w.heap.size + 1) 26 _ _ _ rfl hb4 Try.underlying26 rfl info26) rfl ?_
  exact ⟨none, 0, none, 0, none, 0, rfl, Kd.R_nil _ _ _ _ _, Kd.R_nil _ _ _ _ _, Kd.R_nil _ _ _ _ _,
    (((HB.out.setCell (Nat.le_succ _) _).setCell (Nat.le_succ _) _).setCell (Nat.le_succ _) _).setCell (Nat.le_succ _) _⟩

set_option maxRecDepth 100000 in
set_option maxHeartbeats 1600000 in
theorem push_ok (a0 : Int) (A1 : Option Addr) (c1 : Nat) (l1 : List ByteArray) (A2 : Option Addr) (c2 : Nat) (l2 : List Int) (A3 : Option Addr) (c3 : Nat) (l3 : List S38) (from_ to_ n : Int) (w : World)
    (hs : spanB from_ to_ n = true) (hl : l3.length < 32)
    (hr1 : Kd.C Kd.string w A1 l1.length l1) (hr2 : Kd.C (Kd.int .i64) w A2 l2.length l2) (hr3 : Kd.C k38 w A3 l3.length l3)
    (hb1 : l1.length * 16 ≤ 140737488355328) (hb2 : l2.length * 8 ≤ 140737488355328) :
    Calls Try.prog 7 #[.agg #[.int .i64 a0, .slice A1 l1.length c1, .slice A2 l2.length c2, .slice A3 l3.length c3], .int .i64 from_, .int .i64 to_, .int .i64 n] w fun e w' => MarksRet a0 l1 l2 (l3 ++ [(S38.mk from_ to_)]) 0 w e w' := by
  have hu26 := Try.underlying26
  have hu38 := Try.underlying38
  have HS := Aside0.mk hs
  clear hs
  have HR1 := Aside0.mk hr1
  have HR2 := Aside0.mk hr2
  have HR3 := Aside0.mk hr3
  have HL1 := Aside0.mk hb1
  have HL2 := Aside0.mk hb2
  clear hr1 hr2 hr3 hb1 hb2
  go_enter Try.func7, Try.ntmps7
  go_wp2_with fail
  refine (marks_isSpan.calls from_ to_ n true _ (by rw [isSpan_f, HS.out])).mono ?_
  rintro e w1 ⟨rfl, hb⟩
  obtain ⟨k1, k2, k3, k4⟩ := alloc3 w (.cells #[.int .i64 a0, .slice A1 l1.length c1, .slice A2 l2.length c2, .slice A3 l3.length c3] 26 (0, 0)) (.cells #[.int .i64 0, .slice none 0 0, .slice none 0 0, .slice none 0 0] 26 (0, 0)) (.cells #[.int .i64 from_, .int .i64 to_] 38 (0, 0))
  have BK1 := Aside0.mk (blk_below k1 hb)
  have BK2 := Aside0.mk (blk_below k2 hb)
  have BK3 := Aside0.mk (blk_below k3 hb)
  have HB := Aside0.mk (below_step k4 hb)
  clear k1 k2 k3 k4 hb
  have x0 := (blk_cell BK1.out 0).trans (show _ = some (Value.int .i64 a0) from rfl)
  have x1 := (blk_cell BK1.out 1).trans (show _ = some (Value.slice A1 l1.length c1) from rfl)
  have x2 := (blk_cell BK1.out 2).trans (show _ = some (Value.slice A2 l2.length c2) from rfl)
  have x3 := (blk_cell BK1.out 3).trans (show _ = some (Value.slice A3 l3.length c3) from rfl)
  have LO := Aside0.mk HB.out.size
  go_wp2_with fail
  refine (of_any a0 A1 c1 l1 A2 c2 l2 A3 c3 l3 _ (Kd.C_below HR1.out HB.out) (Kd.C_below HR2.out HB.out) (Kd.C_below HR3.out HB.out) HL1.out HL2.out (by omega)).mono ?_
  rintro e w2 ⟨g, v1, v2, v3, rfl, hg, hge, h1, h2, h3, hb⟩
  clear x0 x1 x2 x3
  obtain ⟨B1, e1, rfl⟩ := Kd.R_slice h1
  obtain ⟨B2, e2, rfl⟩ := Kd.R_slice h2
  obtain ⟨B3, e3, rfl⟩ := Kd.R_slice h3
  have H1 := Aside0.mk h1
  have H2 := Aside0.mk h2
  have H3 := Aside0.mk h3
  clear h1 h2 h3
  have hq3 : w2.cell? ⟨g, 3, none⟩ = some (.slice B3 l3.length e3) := (blk_cell hg 3).trans rfl
  have hs0 : w2.cell? ⟨w.heap.size + 1 + 1, 0, none⟩ = some (.int .i64 from_) := (blk_cell (blk_below BK3.out hb) 0).trans rfl
  have hs1 : w2.cell? ⟨w.heap.size + 1 + 1, 1, none⟩ = some (.int .i64 to_) := (blk_cell (blk_below BK3.out hb) 1).trans rfl
  go_wp2_with fail
  refine start_ (n := 13) (S := fun w' => w'.cell? ⟨g, 3, none⟩ = some (.slice B3 l3.length e3) ∧ w'.cell? ⟨w.heap.size + 1 + 1, 0, none⟩ = some (.int .i64 from_) ∧ w'.cell? ⟨w.heap.size + 1 + 1, 1, none⟩ = some (.int .i64 to_)) (ds := [8, 12]) #[false, false, false, false, false, false, false, false, false, false, false, false, false] (by kernel_rfl) rfl rfl ⟨hq3, hs0, hs1⟩ (fun hHeld => ?_)
  refine pure_ (i := 0) (N := some 29) (v := ?_) (a' := ?_) #[true, false, false, false, false, false, false, false, false, false, false, false, false] rfl rfl (by kernel_rfl) (fun _ _ _ h => h) (Or.inl ⟨by rfl, ?_⟩) ?_ ?_
  rotate_left
  · intro w'
    go_simp
    with_reducible rfl
  rotate_left
  · simp only [Act.put, List.setIfInBounds_toArray, List.set_cons_zero, List.set_cons_succ]
    rfl
  refine pure_ (i := 1) (N := some 30) (v := ?_) (a' := ?_) #[true, true, false, false, false, false, false, false, false, false, false, false, false] rfl rfl (by kernel_rfl) (fun _ _ _ h => h) (Or.inl ⟨by rfl, ?_⟩) ?_ ?_
  rotate_left
  · intro w'
    go_simp
    with_reducible rfl
  rotate_left
  · simp only [Act.put, List.setIfInBounds_toArray, List.set_cons_zero, List.set_cons_succ]
    rfl
  refine pure_ (i := 2) (N := some 31) (v := ?_) (a' := ?_) #[true, true, true, false, false, false, false, false, false, false, false, false, false] rfl rfl (by kernel_rfl) (fun _ _ _ h => h) (Or.inl ⟨by rfl, ?_⟩) ?_ ?_
  rotate_left
  · intro w'
    go_simp
    with_reducible rfl
  rotate_left
  · simp only [Act.put, List.setIfInBounds_toArray, List.set_cons_zero, List.set_cons_succ]
    rfl
  refine pure_ (i := 3) (N := some 32) (v := ?_) (a' := ?_) #[true, true, true, true, false, false, false, false, false, false, false, false, false] rfl rfl (by kernel_rfl) (fun _ _ _ h => h) (Or.inl ⟨by rfl, ?_⟩) ?_ ?_
  rotate_left
  · intro w'
    go_simp
    with_reducible rfl
  rotate_left
  · simp only [Act.put, List.setIfInBounds_toArray, List.set_cons_zero, List.set_cons_succ]
    rfl
  refine pure_ (i := 4) (N := some 33) (v := ?_) (a' := ?_) #[true, true, true, true, true, false, false, false, false, false, false, false, false] rfl rfl (by kernel_rfl) (fun _ _ _ h => h) (Or.inl ⟨by rfl, ?_⟩) ?_ ?_
  rotate_left
  · intro w'
    go_simp
    with_reducible rfl
  rotate_left
  · simp only [Act.put, List.setIfInBounds_toArray, List.set_cons_zero, List.set_cons_succ]
    rfl
  refine take_ (i := 5) (N := some 34) (v := ?_) (a' := ?_) #[true, true, true, true, true, true, false, false, false, false, false, false, false] rfl rfl (by kernel_rfl) (fun _ _ _ h => h) (Or.inl ⟨by rfl, ?_⟩) hHeld ?_ ?_
  rotate_left
  · rintro w' ⟨s0, s1, s2⟩
    go_simp
    with_reducible rfl
  rotate_left
  · simp only [Act.put, List.setIfInBounds_toArray, List.set_cons_zero, List.set_cons_succ]
    rfl
  refine take_ (i := 6) (N := some 35) (v := ?_) (a' := ?_) #[true, true, true, true, true, true, true, false, false, false, false, false, false] rfl rfl (by kernel_rfl) (fun _ _ _ h => h) (Or.inl ⟨by rfl, ?_⟩) hHeld ?_ ?_
  rotate_left
  · rintro w' ⟨s0, s1, s2⟩
    go_simp
    with_reducible rfl
  rotate_left
  · simp only [Act.put, List.setIfInBounds_toArray, List.set_cons_zero, List.set_cons_succ]
    rfl
  refine one_ (i := 7) (N := some 36) #[true, true, true, true, true, true, true, true, false, false, false, false, false] rfl rfl (by kernel_rfl) (by decide) (fun K hK => ?_)
  refine value_ (v := .slice (some ⟨w2.heap.size, 0, none⟩) 1 1) (w1 := (w2.drew.alloc (.cells #[.int .i64 from_, .int .i64 to_] 38))) (by rfl) rfl ?_ ?_
  · first | (go_simp; done) | (go_simp; rfl)
  refine hK.out _ _ ⟨pw_cell_below (below_alloc (Below.refl _ _) _) hHeld.1, pw_cell_below (below_alloc (Below.refl _ _) _) hHeld.2.1, pw_cell_below (below_alloc (Below.refl _ _) _) hHeld.2.2⟩ (fun _ => ?_)
  clear hK K
  refine last_ (i := 8) (N := some 37) #[true, true, true, true, true, true, true, true, true, false, false, false, false] rfl rfl (by kernel_rfl) (by decide) (fun K hK => ?_)
  obtain ⟨v4, w3, hrun, hR4, hg4⟩ := run_rows k38 (w2.drew.alloc (.cells #[.int .i64 from_, .int .i64 to_] 38)) w1.heap.size 24 24 38 _ 16 Try.underlying24 info38 rfl (by decide) (by decide) (.slice B3 l3.length e3) l3 [(S38.mk from_ to_)] (some ⟨w2.heap.size, 0, none⟩) 1 (Kd.R_alloc (Kd.R_drew H3.out) _) (box38 w2.drew (S38.mk from_ to_)) (fun _ _ h => h) (by simp; have := hb.size; omega) (by simp; omega)
  obtain ⟨B4, d4, hv4⟩ := Kd.R_slice hR4
  rw [show (l3 ++ [(S38.mk from_ to_)]).length = l3.length + 1 from by simp] at hv4
  subst hv4
  refine value_ (w1 := w3) (by rfl) rfl (exec_append (by rfl) (by rfl) (by rfl) hrun) ?_
  refine hK.out _ _ ?_
  clear hK K hrun
  have hne : some g ≠ (Value.slice B3 l3.length e3).ownBlock := Kd.R_ne H3.out hg (by decide)
  have hlt2 := blk_lt BK2.out
  have hne2 : some (w.heap.size + 1) ≠ (Value.slice B3 l3.length e3).ownBlock := fun he => by
    have := Kd.R_base H3.out _ he.symm
    omega
  have G3 := Aside0.mk (blk_grown (blk_alloc (blk_drew hg) _) hg4 hne)
  have P3 := Aside0.mk (blk_grown (blk_alloc (blk_drew (blk_below BK2.out hb)) _) hg4 hne2)
  have N1 := Aside0.mk (Kd.R_over (Kd.R_alloc (Kd.R_drew H1.out) _) (Kd.R_alloc (Kd.R_drew H3.out) _) (by decide) hg4)
  have N2 := Aside0.mk (Kd.R_over (Kd.R_alloc (Kd.R_drew H2.out) _) (Kd.R_alloc (Kd.R_drew H3.out) _) (by decide) hg4)
  have N3 := Aside0.mk hR4
  have HB3 := Aside0.mk (pw_below_grown (below_alloc (below_drew (below_step HB.out hb)) _) _ (below_size (below_alloc (below_drew (below_step HB.out hb)) _)) hg4 (fun k hk => Nat.le_trans HB.out.size (Kd.R_base H3.out k hk)))
  have NE := Aside0.mk (show w.heap.size + 1 ≠ g from by omega)
  have GE := Aside0.mk (show w.heap.size ≤ g from by omega)
  clear hR4 hg4 hne hne2 hlt2
  have u0 : w3.cell? ⟨g, 3, none⟩ = some (.slice B3 l3.length e3) := (blk_cell G3.out 3).trans rfl
  have u1 := blk_frozen G3.out 3
  refine pure_ (i := 9) (N := some 38) (v := ?_) (a' := ?_) #[true, true, true, true, true, true, true, true, true, true, false, false, false] rfl rfl (by kernel_rfl) (fun _ _ _ h => h) (Or.inl ⟨by rfl, ?_⟩) ?_ ?_
  rotate_left
  · intro w'
    go_simp
    with_reducible rfl
  rotate_left
  · simp only [Act.put, List.setIfInBounds_toArray, List.set_cons_zero, List.set_cons_succ]
    rfl
  refine pure_ (i := 10) (N := some 39) (v := ?_) (a' := ?_) #[true, true, true, true, true, true, true, true, true, true, true, false, false] rfl rfl (by kernel_rfl) (fun _ _ _ h => h) (Or.inl ⟨by rfl, ?_⟩) ?_ ?_
  rotate_left
  · intro w'
    go_simp
    with_reducible rfl
  rotate_left
  · simp only [Act.put, List.setIfInBounds_toArray, List.set_cons_zero, List.set_cons_succ]
    rfl
  refine pure_ (i := 11) (N := some 40) (v := ?_) (a' := ?_) #[true, true, true, true, true, true, true, true, true, true, true, true, false] rfl rfl (by kernel_rfl) (fun _ _ _ h => h) (Or.inl ⟨by rfl, ?_⟩) ?_ ?_
  rotate_left
  · intro w'
    go_simp
    with_reducible rfl
  rotate_left
  · simp only [Act.put, List.setIfInBounds_toArray, List.set_cons_zero, List.set_cons_succ]
    rfl
  refine last_ (i := 12) (N := none) #[true, true, true, true, true, true, true, true, true, true, true, true, true] rfl rfl (by kernel_rfl) (by decide) (fun K hK => ?_)
  refine skip_ (w1 := ?_) (by rfl) rfl ?_ ?_
  rotate_left
  · go_simp
    rfl
  refine hK.out _ _ ?_
  clear hK K
  refine done_ (by kernel_rfl) ?_
  clear u0 u1 hq3 hs0 hs1 hHeld
  have hk4 := (KeepBut.refl w3 g none).set_ 3 (.slice B4 (l3.length + 1) d4)
  have G4 := Aside0.mk (show (w3.setCell ⟨g, 3, none⟩ (.slice B4 (l3.length + 1) d4)).heap[g]? = some (.cells #[.int .i64 a0, .slice B1 l1.length e1, .slice B2 l2.length e2, (.slice B4 (l3.length + 1) d4)] 50 (0, 0)) from blk_set G3.out 3 _)
  have P4 := Aside0.mk (blk_far P3.out (p := ⟨g, 3, none⟩) NE.out (.slice B4 (l3.length + 1) d4))
  have M1 := Aside0.mk (R_keptBut N1.out G3.out (by decide) hk4)
  have M2 := Aside0.mk (R_keptBut N2.out G3.out (by decide) hk4)
  have M3 := Aside0.mk (R_keptBut N3.out G3.out (by decide) hk4)
  have HB4 := Aside0.mk (HB3.out.setCell (p := ⟨g, 3, none⟩) GE.out (.slice B4 (l3.length + 1) d4))
  clear hk4 G3 P3 N1 N2 N3 HB3 H1 H2 H3 hg
  generalize w3.setCell ⟨g, 3, none⟩ (.slice B4 (l3.length + 1) d4) = w4 at G4 P4 M1 M2 M3 HB4 ⊢
  have x0 := (blk_cell G4.out 0).trans (show _ = some (Value.int .i64 a0) from rfl)
  have x1 := (blk_cell G4.out 1).trans (show _ = some (Value.slice B1 l1.length e1) from rfl)
  have x2 := (blk_cell G4.out 2).trans (show _ = some (Value.slice B2 l2.length e2) from rfl)
  have x3 := (blk_cell G4.out 3).trans (show _ = some (Value.slice B4 (l3.length + 1) d4) from rfl)
  have z0 := (blk_cell P4.out 0).trans (show _ = some (Value.int .i64 0) from rfl)
  have z1 := (blk_cell P4.out 1).trans (show _ = some (Value.slice none 0 0) from rfl)
  have z2 := (blk_cell P4.out 2).trans (show _ = some (Value.slice none 0 0) from rfl)
  have z3 := (blk_cell P4.out 3).trans (show _ = some (Value.slice none 0 0) from rfl)
  have y0 := blk_frozen P4.out 0
  have y1 := blk_frozen P4.out 1
  have y2 := blk_frozen P4.out 2
  have y3 := blk_frozen P4.out 3
  go_wp2
  have hb5 := blk_set (blk_set (blk_set (blk_set P4.out 0 (.int .i64 a0)) 1 (.slice B1 l1.length e1)) 2 (.slice B2 l2.length e2)) 3 (.slice B4 (l3.length + 1) d4)
  have hk5 := ((((KeepBut.refl w4 (w.heap.size + 1) none).set_ 0 (.int .i64 a0)).set_ 1 (.slice B1 l1.length e1)).set_ 2 (.slice B2 l2.length e2)).set_ 3 (.slice B4 (l3.length + 1) d4)
  have r1 := Kd.R_lower (R_keptBut M1.out P4.out (by decide) hk5) LO.out
  have r2 := Kd.R_lower (R_keptBut M2.out P4.out (by decide) hk5) LO.out
  have r3 := Kd.R_lower (R_keptBut M3.out P4.out (by decide) hk5) LO.out
  refine bodyPost_ret (results_ct (fn := Try.f7) rfl _ _ (w.heap.size + 1) 26 _ _ _ rfl hb5 Try.underlying26 rfl info26) rfl ?_
  refine ⟨B1, e1, B2, e2, B4, d4, ?_, r1, r2, ?_, ?_⟩
  · rw [show (l3 ++ [(S38.mk from_ to_)]).length = l3.length + 1 from by simp]
    rfl
  · rw [show (l3 ++ [(S38.mk from_ to_)]).length = l3.length + 1 from by simp]
    exact r3
  · exact (((HB4.out.setCell (Nat.le_succ _) _).setCell (Nat.le_succ _) _).setCell (Nat.le_succ _) _).setCell (Nat.le_succ _) _

end Go.Proofs.Ytkhilhgpkfecaaa.Mk
