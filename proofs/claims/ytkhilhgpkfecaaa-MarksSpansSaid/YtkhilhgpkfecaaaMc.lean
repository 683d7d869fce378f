/- pleacherref25.Copy answers a struct whose three lists are rows of the call's own with the same elements. -/
import Derived.Test.YtkhilhgpkfecaaaMb
namespace Go.Proofs.Ytkhilhgpkfecaaa.Mk
open Go.RowKit Go.Proofs.YtkhilhgpkfecaaaW.PrintWords Go.Proofs.YtkhilhgpkfecaaaW.PrintLast Go.Proofs.YtkhilhgpkfecaaaW.PrintMore Go.Proofs.Ytkhilhgpkfecaaa.PMarksSpans

section
variable {P : Program} {α : Type}
/-- append(v, ys...), v a row of the call's own, ys read: the run. -/
theorem run_rows (d : Kd α) (W : World) (base : Nat) (t ty e : TypeId) (z : Value) (bytes : Nat)
    (ht : P.underlying t = some (.slice e)) (hinfo : (P.info? e).map (fun i => (i.zero, i.size, i.bytes)) = some (some z, d.sz, bytes)) (hz : z.cells.size = d.sz) (hs0 : 0 < d.sz) (hb0 : 0 < bytes)
    (v : Value) (xs ys : List α) (A : Option Addr) (c : Nat)
    (HO : d.R e W base (fun _ => True) v xs) (HR : d.C W A ys.length ys) (hKM : ∀ x cs, d.K W x cs → d.M W base (fun _ => False) x cs)
    (hbase : base ≤ W.heap.size) (hl : (xs.length + ys.length) * bytes ≤ 140737488355328) :
    ∃ v1 w1, (Builtin.append_ #[t, t] ty #[v, .slice A ys.length c]).run P W = .ok v1 w1 ∧ d.R e w1 base (fun _ => True) v1 (xs ++ ys) ∧ W.grownBy w1 v.ownBlock := by
  have key := Kd.R_append_rows (P := P) d (Rr := d.K W) (ops := #[]) (rest := []) (o := { dst := some 0, op := .call { callee := .builtin .append, args := #[.const v, .const (.slice A ys.length c)], argTypes := #[t, t] }, type := ty, pos := "", after := #[], guard := none })
    (a := { tmps := #[undef], defers := [] }) (w0 := W) base rfl (.const v) (.const (.slice A ys.length c)) t e z bytes rfl ht hinfo hz hs0 hb0 v xs ys A ys.length c (fun _ => True) (fun _ => False) rfl rfl HO HR hKM (fun _ h => h.elim) (fun _ _ => trivial)
    (Below.refl base W) hbase hl
    (Q := fun ex a w1 => ex = .normal ∧ ∃ v1, a.tmps = #[v1] ∧ d.R e w1 base (fun _ => True) v1 (xs ++ ys) ∧ W.grownBy w1 v.ownBlock)
    (fun v1 w1 h1 _ h2 _ => by
      unfold wpList
      exact ⟨rfl, v1, rfl, h1, h2⟩)
  simp [wpList, Region.wanted, Oper.wp, execOp, resolve, invoke, builtin, LetsOut] at key
  have he1 : ({ tmps := #[undef], defers := [] } : Act).eval (.const v) = v := rfl
  have he2 : ({ tmps := #[undef], defers := [] } : Act).eval (.const (.slice A ys.length c)) = .slice A ys.length c := rfl
  rw [he1, he2] at key
  cases hrun : (Builtin.append_ #[t, t] ty #[v, .slice A ys.length c]).run P W with
  | ok v1 w1 =>
    rw [hrun] at key
    obtain ⟨v2, h1, h2, h3⟩ := key
    have h4 : v2 = v1 := by
      have h5 : (#[v1] : Array Value) = #[v2] := h1
      simpa using h5.symm
    subst h4
    exact ⟨_, _, rfl, h2, h3⟩
  | halt h w1 =>
    rw [hrun] at key
    exfalso
    cases h with
    | panic u =>
      obtain ⟨h1, _⟩ := key
      cases h1
    | _ => exact key

/-- append(nil, ys...), as a step of a region that draws its order. -/
theorem step_nil {W : World} {o : Oper} {ops : Array Oper} {a : Act} {K : Act → World → Prop} {Q : Exit → Act → World → Prop} {E : Prop} (d : Kd α) (hgd : o.guard = none) (s x : Operand) (t e : TypeId) (z : Value) (bytes : Nat)
    (ho : o.op = .call { callee := .builtin .append, args := #[s, x], argTypes := #[t, t] })
    (ht : P.underlying t = some (.slice e)) (hinfo : (P.info? e).map (fun i => (i.zero, i.size, i.bytes)) = some (some z, d.sz, bytes)) (hz : z.cells.size = d.sz) (hs0 : 0 < d.sz) (hb0 : 0 < bytes)
    (ys : List α) (A : Option Addr) (c : Nat) (hs : a.eval s = .slice none 0 0) (hx : a.eval x = .slice A ys.length c)
    (HR : d.C W A ys.length ys) (hKM : ∀ x cs, d.K W x cs → d.M W W.heap.size (fun _ => False) x cs) (hl : ys.length * bytes ≤ 140737488355328)
    (h : ∀ A1 c1 w1, Stays d e W.heap.size (.slice A1 ys.length c1) ys w1 → Below W.heap.size W w1 → K (a.put o.dst (.slice A1 ys.length c1)) w1) :
    if Region.wanted o (yielded ops a.tmps) = true then Oper.wp P o a W K Q else E := by
  have hw : Region.wanted o (yielded ops a.tmps) = true := by simp [Region.wanted, hgd]
  rw [if_pos hw]
  obtain ⟨v1, w1, hr, hR, hg⟩ := run_rows d W W.heap.size t o.type e z bytes ht hinfo hz hs0 hb0 (.slice none 0 0) [] ys A c (Kd.R_nil _ _ _ _ _) HR hKM (Nat.le_refl _) (by simpa using hl)
  rw [List.nil_append] at hR
  obtain ⟨A1, c1, rfl⟩ := Kd.R_slice hR
  unfold Oper.wp execOp
  simp only [ho, resolve, invoke, builtin, Sem.run_bind, Sem.run_pure, Result.andThen_ok, List.map_toArray, List.map_cons, List.map_nil, hs, hx, hr]
  exact h A1 c1 w1 (fun W' hW => Kd.R_below hR hW) ((Below.refl _ _).grown hg (Nat.le_refl _) (fun k hk => by simp [Value.ownBlock] at hk))
end

/-- What pleacherref25.Copy leaves. -/
def CopyPost (a0 : Int) (l1 : List ByteArray) (l2 : List Int) (l3 : List S38) (w : World) (e : Ending) (w' : World) : Prop :=
  ∃ B1 d1 B2 d2 B3 d3, e = .returned (.agg #[.int .i64 a0, .slice B1 l1.length d1, .slice B2 l2.length d2, .slice B3 l3.length d3]) ∧
    Kd.string.R 9 w' w.heap.size (fun _ => True) (.slice B1 l1.length d1) l1 ∧ (Kd.int .i64).R 3 w' w.heap.size (fun _ => True) (.slice B2 l2.length d2) l2 ∧
    k38.R 38 w' w.heap.size (fun _ => True) (.slice B3 l3.length d3) l3 ∧ Below w.heap.size w w'

set_option maxRecDepth 100000 in
set_option maxHeartbeats 1600000 in
theorem copy_any (a0 : Int) (A1 : Option Addr) (c1 : Nat) (l1 : List ByteArray) (A2 : Option Addr) (c2 : Nat) (l2 : List Int) (A3 : Option Addr) (c3 : Nat) (l3 : List S38) (w : World)
    (hr1 : Kd.C Kd.string w A1 l1.length l1) (hr2 : Kd.C (Kd.int .i64) w A2 l2.length l2) (hr3 : Kd.C k38 w A3 l3.length l3)
    (hb1 : l1.length * 16 ≤ 140737488355328) (hb2 : l2.length * 8 ≤ 140737488355328) (hb3 : l3.length * 16 ≤ 140737488355328) :
    Calls Try.prog 6 #[.agg #[.int .i64 a0, .slice A1 l1.length c1, .slice A2 l2.length c2, .slice A3 l3.length c3]] w fun e w' => CopyPost a0 l1 l2 l3 w e w' := by
  have HR1 := Aside0.mk hr1
  have HR2 := Aside0.mk hr2
  have HR3 := Aside0.mk hr3
  have HB1 := Aside0.mk hb1
  have HB2 := Aside0.mk hb2
  have HB3 := Aside0.mk hb3
  clear hr1 hr2 hr3 hb1 hb2 hb3
  have hu26 := Try.underlying26
  go_enter Try.func6, Try.ntmps6
  go_wp2_with fail
  have hb0 : Below w.heap.size w ((w.alloc (.cells #[.int .i64 a0, .slice A1 l1.length c1, .slice A2 l2.length c2, .slice A3 l3.length c3] 26)).alloc (.cells #[.int .i64 0, .slice none 0 0, .slice none 0 0, .slice none 0 0] 26)) := below_alloc ((Below.refl _ _).alloc (Nat.le_refl _) _) _
  have hk0 := blk_alloc (blk_new w (.cells #[.int .i64 a0, .slice A1 l1.length c1, .slice A2 l2.length c2, .slice A3 l3.length c3] 26 (0, 0))) (.cells #[.int .i64 0, .slice none 0 0, .slice none 0 0, .slice none 0 0] 26)
  have hk1 := blk_new (w.alloc (.cells #[.int .i64 a0, .slice A1 l1.length c1, .slice A2 l2.length c2, .slice A3 l3.length c3] 26)) (.cells #[.int .i64 0, .slice none 0 0, .slice none 0 0, .slice none 0 0] 26 (0, 0))
  have hsz : (w.alloc (.cells #[.int .i64 a0, .slice A1 l1.length c1, .slice A2 l2.length c2, .slice A3 l3.length c3] 26)).heap.size = w.heap.size + 1 := by simp
  rw [hsz] at hk1
  clear hsz
  generalize ((w.alloc (.cells #[.int .i64 a0, .slice A1 l1.length c1, .slice A2 l2.length c2, .slice A3 l3.length c3] 26)).alloc (.cells #[.int .i64 0, .slice none 0 0, .slice none 0 0, .slice none 0 0] 26)) = W at hb0 hk0 hk1 ⊢
  have HB := Aside0.mk hb0
  have hq0 : W.cell? ⟨w.heap.size, 0, none⟩ = some (.int .i64 a0) := (blk_cell hk0 0).trans rfl
  have hq1 : W.cell? ⟨w.heap.size, 1, none⟩ = some (.slice A1 l1.length c1) := (blk_cell hk0 1).trans rfl
  have hq2 : W.cell? ⟨w.heap.size, 2, none⟩ = some (.slice A2 l2.length c2) := (blk_cell hk0 2).trans rfl
  have hq3 : W.cell? ⟨w.heap.size, 3, none⟩ = some (.slice A3 l3.length c3) := (blk_cell hk0 3).trans rfl
  have BK := Aside0.mk hk1
  clear hk0 hk1 hb0
  go_region_held3 (fun w' => w'.cell? ⟨w.heap.size, 0, none⟩ = some (.int .i64 a0) ∧ w'.cell? ⟨w.heap.size, 1, none⟩ = some (.slice A1 l1.length c1) ∧ w'.cell? ⟨w.heap.size, 2, none⟩ = some (.slice A2 l2.length c2) ∧ w'.cell? ⟨w.heap.size, 3, none⟩ = some (.slice A3 l3.length c3))
    (first | go_keep | (go_split_ands; exact ⟨pw_cell_below (by assumption) (by assumption), pw_cell_below (by assumption) (by assumption), pw_cell_below (by assumption) (by assumption), pw_cell_below (by assumption) (by assumption)⟩))
    (first
      | ((refine step_nil (P := Try.prog) Kd.string ?_ (.const (.slice none 0 0)) (.tmp 6) 22 9 _ 16 ?_ Try.underlying22 info9 rfl ?_ ?_ l1 A1 c1 ?_ ?_ ?_ ?_ HB1.out ?_; rfl; rfl; decide; decide; rfl; rfl; (exact Kd.C_below HR1.out (by repeat (first | exact Below.refl _ _ | exact HB.out | exact pw_below_drewN (Below.refl _ _) _ | (with_reducible refine below_step ?_ HW1.out) | (with_reducible refine below_step ?_ HW2.out) | (with_reducible refine below_step ?_ HW3.out) | (with_reducible apply below_alloc) | (with_reducible apply pw_below_drewN) | (with_reducible apply below_drew)))); (exact fun _ _ h => h); intro B1 d1 w1 hs1 hbb1; have HS1 := Aside0.mk hs1; have HW1 := Aside0.mk hbb1; clear hs1; have BKn := Aside0.mk (blk_below (g := w.heap.size + 1) (o := .cells #[.int .i64 0, .slice none 0 0, .slice none 0 0, .slice none 0 0] 26 (0, 0)) (by first | exact BK.out | exact blk_drew BK.out) hbb1); clear BK; have BK := BKn; clear BKn))
      | ((refine step_nil (P := Try.prog) (Kd.int .i64) ?_ (.const (.slice none 0 0)) (.tmp 9) 23 3 _ 8 ?_ Try.underlying23 info3 rfl ?_ ?_ l2 A2 c2 ?_ ?_ ?_ ?_ HB2.out ?_; rfl; rfl; decide; decide; rfl; rfl; (exact Kd.C_below HR2.out (by repeat (first | exact Below.refl _ _ | exact HB.out | exact pw_below_drewN (Below.refl _ _) _ | (with_reducible refine below_step ?_ HW1.out) | (with_reducible refine below_step ?_ HW2.out) | (with_reducible refine below_step ?_ HW3.out) | (with_reducible apply below_alloc) | (with_reducible apply pw_below_drewN) | (with_reducible apply below_drew)))); (exact fun _ _ h => h); intro B2 d2 w2 hs2 hbb2; have HS2 := Aside0.mk hs2; have HW2 := Aside0.mk hbb2; clear hs2; have BKn := Aside0.mk (blk_below (g := w.heap.size + 1) (o := .cells #[.int .i64 0, .slice none 0 0, .slice none 0 0, .slice none 0 0] 26 (0, 0)) (by first | exact BK.out | exact blk_drew BK.out) hbb2); clear BK; have BK := BKn; clear BKn))
      | ((refine step_nil (P := Try.prog) k38 ?_ (.const (.slice none 0 0)) (.tmp 12) 24 38 _ 16 ?_ Try.underlying24 info38 rfl ?_ ?_ l3 A3 c3 ?_ ?_ ?_ ?_ HB3.out ?_; rfl; rfl; decide; decide; rfl; rfl; (exact Kd.C_below HR3.out (by repeat (first | exact Below.refl _ _ | exact HB.out | exact pw_below_drewN (Below.refl _ _) _ | (with_reducible refine below_step ?_ HW1.out) | (with_reducible refine below_step ?_ HW2.out) | (with_reducible refine below_step ?_ HW3.out) | (with_reducible apply below_alloc) | (with_reducible apply pw_below_drewN) | (with_reducible apply below_drew)))); (exact fun _ _ h => h); intro B3 d3 w3 hs3 hbb3; have HS3 := Aside0.mk hs3; have HW3 := Aside0.mk hbb3; clear hs3; have BKn := Aside0.mk (blk_below (g := w.heap.size + 1) (o := .cells #[.int .i64 0, .slice none 0 0, .slice none 0 0, .slice none 0 0] 26 (0, 0)) (by first | exact BK.out | exact blk_drew BK.out) hbb3); clear BK; have BK := BKn; clear BKn; have z0 := (blk_cell BK.out 0).trans (show _ = some (Value.int .i64 0) from rfl); have z1 := (blk_cell BK.out 1).trans (show _ = some (Value.slice none 0 0) from rfl); have z2 := (blk_cell BK.out 2).trans (show _ = some (Value.slice none 0 0) from rfl); have z3 := (blk_cell BK.out 3).trans (show _ = some (Value.slice none 0 0) from rfl); have y0 := blk_frozen BK.out 0; have y1 := blk_frozen BK.out 1; have y2 := blk_frozen BK.out 2; have y3 := blk_frozen BK.out 3)))
  clear hbb1 hbb2 hbb3
  go_wp2
  have hB : Below w.heap.size w w3 := by repeat (first | exact Below.refl _ _ | exact HB.out | exact pw_below_drewN (Below.refl _ _) _ | (with_reducible refine below_step ?_ HW1.out) | (with_reducible refine below_step ?_ HW2.out) | (with_reducible refine below_step ?_ HW3.out) | (with_reducible apply below_alloc) | (with_reducible apply pw_below_drewN) | (with_reducible apply below_drew))
  have hB12 : Below w1.heap.size w1 w3 := by repeat (first | exact Below.refl _ _ | exact HB.out | exact pw_below_drewN (Below.refl _ _) _ | (with_reducible refine below_step ?_ HW1.out) | (with_reducible refine below_step ?_ HW2.out) | (with_reducible refine below_step ?_ HW3.out) | (with_reducible apply below_alloc) | (with_reducible apply pw_below_drewN) | (with_reducible apply below_drew))
  have hB23 : Below w2.heap.size w2 w3 := by repeat (first | exact Below.refl _ _ | exact HB.out | exact pw_below_drewN (Below.refl _ _) _ | (with_reducible refine below_step ?_ HW1.out) | (with_reducible refine below_step ?_ HW2.out) | (with_reducible refine below_step ?_ HW3.out) | (with_reducible apply below_alloc) | (with_reducible apply pw_below_drewN) | (with_reducible apply below_drew))
  have hle1 : w.heap.size ≤ W.heap.size := HB.out.size
  have hle2 : w.heap.size ≤ w1.heap.size := below_size (by repeat (first | exact Below.refl _ _ | exact HB.out | exact pw_below_drewN (Below.refl _ _) _ | (with_reducible refine below_step ?_ HW1.out) | (with_reducible refine below_step ?_ HW2.out) | (with_reducible refine below_step ?_ HW3.out) | (with_reducible apply below_alloc) | (with_reducible apply pw_below_drewN) | (with_reducible apply below_drew)))
  have hle3 : w.heap.size ≤ w2.heap.size := below_size (by repeat (first | exact Below.refl _ _ | exact HB.out | exact pw_below_drewN (Below.refl _ _) _ | (with_reducible refine below_step ?_ HW1.out) | (with_reducible refine below_step ?_ HW2.out) | (with_reducible refine below_step ?_ HW3.out) | (with_reducible apply below_alloc) | (with_reducible apply pw_below_drewN) | (with_reducible apply below_drew)))
  have hk4 := ((((KeepBut.refl w3 (w.heap.size + 1) none).set_ 0 (.int .i64 a0)).set_ 1 (.slice B1 l1.length d1)).set_ 2 (.slice B2 l2.length d2)).set_ 3 (.slice B3 l3.length d3)
  have hb4 := blk_set (blk_set (blk_set (blk_set BK.out 0 (.int .i64 a0)) 1 (.slice B1 l1.length d1)) 2 (.slice B2 l2.length d2)) 3 (.slice B3 l3.length d3)
  refine bodyPost_ret (results_c (fn := Try.f6) rfl _ _ (w.heap.size + 1) 26 _ _ _ rfl hb4 Try.underlying26 rfl info26) rfl ?_
  refine ⟨B1, d1, B2, d2, B3, d3, rfl, ?_, ?_, ?_, ?_⟩
  · exact R_keptBut (Kd.R_lower (HS1.out _ hB12) hle1) BK.out (by decide) hk4
  · exact R_keptBut (Kd.R_lower (HS2.out _ hB23) hle2) BK.out (by decide) hk4
  · exact R_keptBut (Kd.R_lower (HS3.out _ (Below.refl _ _)) hle3) BK.out (by decide) hk4
  · exact (((hB.setCell (Nat.le_succ _) _).setCell (Nat.le_succ _) _).setCell (Nat.le_succ _) _).setCell (Nat.le_succ _) _

end Go.Proofs.Ytkhilhgpkfecaaa.Mk
