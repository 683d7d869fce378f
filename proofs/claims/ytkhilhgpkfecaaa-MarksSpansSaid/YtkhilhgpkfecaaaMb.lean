/- marks.of lays a struct of the call's own that bears the cursor and copies of the three lists. -/
import Derived.Test.YtkhilhgpkfecaaaMa
namespace Go.Proofs.Ytkhilhgpkfecaaa.Mk
open Go.RowKit Go.Proofs.YtkhilhgpkfecaaaW.PrintWords Go.Proofs.YtkhilhgpkfecaaaW.PrintLast Go.Proofs.YtkhilhgpkfecaaaW.PrintMore Go.Proofs.Ytkhilhgpkfecaaa.PMarksSpans

/-- A row of the call's own, in every later world. -/
def Stays {α : Type} (d : Kd α) (t : Nat) (base : Nat) (v : Value) (l : List α) (w : World) : Prop :=
  ∀ W, Below w.heap.size w W → d.R t W base (fun _ => True) v l
theorem Fresh.stays {α : Type} {d : Kd α} {t : Nat} {l : List α} {e : Ending} {w w' : World} (h : Fresh d t w.heap.size l e w w') :
    ∃ A c, e = .returned (.slice A l.length c) ∧ Stays d t w.heap.size (.slice A l.length c) l w' ∧ Below w.heap.size w w' := by
  obtain ⟨v, he, hr, hb⟩ := h
  obtain ⟨A, c, rfl⟩ := Kd.R_slice hr
  exact ⟨A, c, he, fun W hW => Kd.R_below hr hW, hb⟩

/-- A row lives on where one block of another type alone has been written. -/
theorem R_keptBut {α : Type} {d : Kd α} {e : Nat} {w w1 : World} {base : Nat} {ok : Nat → Prop} {v : Value} {xs : List α} {g t : Nat} {cells : Array Value}
    (h : d.R e w base ok v xs) (hb : w.heap[g]? = some (.cells cells t (0, 0))) (ht : ∀ q, q ∈ e :: d.E → q ≠ t) (hk : KeepBut w w1 g none) : d.R e w1 base ok v xs :=
  Kd.R_mono (Kd.R_keep (Kd.R_types h hb ht) hk (fun _ h => h.2)) (fun _ h => h.1)
theorem results_c {P : Program} {fn : Func} {p : Tmp} {ty : TypeId} (h : fn.results = #[.cell p ty]) (tmps : Array Value) (w : World) (g : Nat) (t : TypeId) (cs : Array Value) (fr : Nat × Nat) (d : TypeDesc)
    (hp : tmps.getD p undef = .pointer (some ⟨g, 0, none⟩)) (hg : w.heap[g]? = some (.cells cs t fr))
    (hu : P.underlying ty = some d) (hd : (match d with | .struct _ | .array _ _ => true | _ => false) = true) (hi : (P.info? ty).map (·.size) = some cs.size) :
    (results fn tmps).run P w = .ok (.agg cs) w := by
  have hp' : tmps[p]?.getD undef = .pointer (some ⟨g, 0, none⟩) := by simpa using hp
  simp [results, h, hp', asAddr, run_loadVar_row w g t ty cs fr d hg hu hd hi]
theorem info26 : (Try.prog.info? 26).map (·.size) = some 4 := by kernel_rfl

/-- What marks.of leaves. -/
def OfPost (a0 : Int) (l1 : List ByteArray) (l2 : List Int) (l3 : List S38) (w : World) (e : Ending) (w' : World) : Prop :=
  ∃ g v1 v2 v3, e = .returned (.pointer (some ⟨g, 0, none⟩)) ∧ w'.heap[g]? = some (.cells #[.int .i64 a0, v1, v2, v3] 50 (0, 0)) ∧ w.heap.size ≤ g ∧
    Kd.string.R 9 w' w.heap.size (fun _ => True) v1 l1 ∧ (Kd.int .i64).R 3 w' w.heap.size (fun _ => True) v2 l2 ∧ k38.R 38 w' w.heap.size (fun _ => True) v3 l3 ∧ Below w.heap.size w w'

set_option maxRecDepth 100000 in
set_option maxHeartbeats 1600000 in
theorem of_any (a0 : Int) (A1 : Option Addr) (c1 : Nat) (l1 : List ByteArray) (A2 : Option Addr) (c2 : Nat) (l2 : List Int) (A3 : Option Addr) (c3 : Nat) (l3 : List S38) (w : World)
    (hr1 : Kd.C Kd.string w A1 l1.length l1) (hr2 : Kd.C (Kd.int .i64) w A2 l2.length l2) (hr3 : Kd.C k38 w A3 l3.length l3)
    (hb1 : l1.length * 16 ≤ 140737488355328) (hb2 : l2.length * 8 ≤ 140737488355328) (hb3 : l3.length * 16 ≤ 140737488355328) :
    Calls Try.prog 16 #[.agg #[.int .i64 a0, .slice A1 l1.length c1, .slice A2 l2.length c2, .slice A3 l3.length c3]] w fun e w' => OfPost a0 l1 l2 l3 w e w' := by
  have HR1 := Aside0.mk hr1
  have HR2 := Aside0.mk hr2
  have HR3 := Aside0.mk hr3
  have HB1 := Aside0.mk hb1
  have HB2 := Aside0.mk hb2
  have HB3 := Aside0.mk hb3
  clear hr1 hr2 hr3 hb1 hb2 hb3
  have hu26 := Try.underlying26
  go_enter Try.func16, Try.ntmps16
  go_wp2_with fail
  have hb0 : Below w.heap.size w (w.alloc (.cells #[.int .i64 a0, .slice A1 l1.length c1, .slice A2 l2.length c2, .slice A3 l3.length c3] 26)) := (Below.refl _ _).alloc (Nat.le_refl _) _
  have hk0 := blk_new w (.cells #[.int .i64 a0, .slice A1 l1.length c1, .slice A2 l2.length c2, .slice A3 l3.length c3] 26 (0, 0))
  generalize w.alloc (.cells #[.int .i64 a0, .slice A1 l1.length c1, .slice A2 l2.length c2, .slice A3 l3.length c3] 26) = W at hb0 hk0 ⊢
  have HB := Aside0.mk hb0
  have hq0 : W.cell? ⟨w.heap.size, 0, none⟩ = some (.int .i64 a0) := (blk_cell hk0 0).trans rfl
  have hq1 : W.cell? ⟨w.heap.size, 1, none⟩ = some (.slice A1 l1.length c1) := (blk_cell hk0 1).trans rfl
  have hq2 : W.cell? ⟨w.heap.size, 2, none⟩ = some (.slice A2 l2.length c2) := (blk_cell hk0 2).trans rfl
  have hq3 : W.cell? ⟨w.heap.size, 3, none⟩ = some (.slice A3 l3.length c3) := (blk_cell hk0 3).trans rfl
  clear hk0 hb0
  go_region_held3 (fun w' => w'.cell? ⟨w.heap.size, 0, none⟩ = some (.int .i64 a0) ∧ w'.cell? ⟨w.heap.size, 1, none⟩ = some (.slice A1 l1.length c1) ∧ w'.cell? ⟨w.heap.size, 2, none⟩ = some (.slice A2 l2.length c2) ∧ w'.cell? ⟨w.heap.size, 3, none⟩ = some (.slice A3 l3.length c3))
    (first | go_keep | (go_split_ands; exact ⟨pw_cell_below (by assumption) (by assumption), pw_cell_below (by assumption) (by assumption), pw_cell_below (by assumption) (by assumption), pw_cell_below (by assumption) (by assumption)⟩))
    (first
      | (go_at_call 25; refine (clone_str _ _ l1 _ ?_ HB1.out).mono ?_; (exact Kd.C_below HR1.out (by repeat (first | exact Below.refl _ _ | exact HB.out | exact pw_below_drewN (Below.refl _ _) _ | (with_reducible refine below_step ?_ HW1.out) | (with_reducible refine below_step ?_ HW2.out) | (with_reducible refine below_step ?_ HW3.out) | (with_reducible apply below_alloc) | (with_reducible apply pw_below_drewN) | (with_reducible apply below_drew)))); intro e w1 hpost; obtain ⟨B1, d1, rfl, hs1, hbb1⟩ := hpost.stays; clear hpost; have HS1 := Aside0.mk hs1; have HW1 := Aside0.mk hbb1; clear hs1)
      | (go_at_call 26; refine (clone_int _ _ l2 _ ?_ HB2.out).mono ?_; (exact Kd.C_below HR2.out (by repeat (first | exact Below.refl _ _ | exact HB.out | exact pw_below_drewN (Below.refl _ _) _ | (with_reducible refine below_step ?_ HW1.out) | (with_reducible refine below_step ?_ HW2.out) | (with_reducible refine below_step ?_ HW3.out) | (with_reducible apply below_alloc) | (with_reducible apply pw_below_drewN) | (with_reducible apply below_drew)))); intro e w2 hpost; obtain ⟨B2, d2, rfl, hs2, hbb2⟩ := hpost.stays; clear hpost; have HS2 := Aside0.mk hs2; have HW2 := Aside0.mk hbb2; clear hs2)
      | (go_at_call 27; refine (clone_span _ _ l3 _ ?_ HB3.out).mono ?_; (exact Kd.C_below HR3.out (by repeat (first | exact Below.refl _ _ | exact HB.out | exact pw_below_drewN (Below.refl _ _) _ | (with_reducible refine below_step ?_ HW1.out) | (with_reducible refine below_step ?_ HW2.out) | (with_reducible refine below_step ?_ HW3.out) | (with_reducible apply below_alloc) | (with_reducible apply pw_below_drewN) | (with_reducible apply below_drew)))); intro e w3 hpost; obtain ⟨B3, d3, rfl, hs3, hbb3⟩ := hpost.stays; clear hpost; have HS3 := Aside0.mk hs3; have HW3 := Aside0.mk hbb3; clear hs3))
  clear hbb1 hbb2 hbb3
  go_wp2
  go_ret
  have hB : Below w.heap.size w w3 := by repeat (first | exact Below.refl _ _ | exact HB.out | exact pw_below_drewN (Below.refl _ _) _ | (with_reducible refine below_step ?_ HW1.out) | (with_reducible refine below_step ?_ HW2.out) | (with_reducible refine below_step ?_ HW3.out) | (with_reducible apply below_alloc) | (with_reducible apply pw_below_drewN) | (with_reducible apply below_drew))
  have hB12 : Below w1.heap.size w1 w3 := by repeat (first | exact Below.refl _ _ | exact HB.out | exact pw_below_drewN (Below.refl _ _) _ | (with_reducible refine below_step ?_ HW1.out) | (with_reducible refine below_step ?_ HW2.out) | (with_reducible refine below_step ?_ HW3.out) | (with_reducible apply below_alloc) | (with_reducible apply pw_below_drewN) | (with_reducible apply below_drew))
  have hB23 : Below w2.heap.size w2 w3 := by repeat (first | exact Below.refl _ _ | exact HB.out | exact pw_below_drewN (Below.refl _ _) _ | (with_reducible refine below_step ?_ HW1.out) | (with_reducible refine below_step ?_ HW2.out) | (with_reducible refine below_step ?_ HW3.out) | (with_reducible apply below_alloc) | (with_reducible apply pw_below_drewN) | (with_reducible apply below_drew))
  have hle1 : w.heap.size ≤ W.heap.size := HB.out.size
  have hle2 : w.heap.size ≤ w1.heap.size := below_size (by repeat (first | exact Below.refl _ _ | exact HB.out | exact pw_below_drewN (Below.refl _ _) _ | (with_reducible refine below_step ?_ HW1.out) | (with_reducible refine below_step ?_ HW2.out) | (with_reducible refine below_step ?_ HW3.out) | (with_reducible apply below_alloc) | (with_reducible apply pw_below_drewN) | (with_reducible apply below_drew)))
  have hle3 : w.heap.size ≤ w2.heap.size := below_size (by repeat (first | exact Below.refl _ _ | exact HB.out | exact pw_below_drewN (Below.refl _ _) _ | (with_reducible refine below_step ?_ HW1.out) | (with_reducible refine below_step ?_ HW2.out) | (with_reducible refine below_step ?_ HW3.out) | (with_reducible apply below_alloc) | (with_reducible apply pw_below_drewN) | (with_reducible apply below_drew)))
  exact ⟨w3.heap.size, _, _, _, rfl, blk_new w3 _, below_size hB,
    Kd.R_lower (HS1.out _ (below_alloc hB12 _)) hle1, Kd.R_lower (HS2.out _ (below_alloc hB23 _)) hle2, Kd.R_lower (HS3.out _ (below_alloc (Below.refl _ _) _)) hle3, below_alloc hB _⟩

end Go.Proofs.Ytkhilhgpkfecaaa.Mk
