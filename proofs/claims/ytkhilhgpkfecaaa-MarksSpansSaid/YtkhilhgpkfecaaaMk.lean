/- The law's own example (alive) is true. -/
import Derived.Test.YtkhilhgpkfecaaaMj
namespace Go.Proofs.Ytkhilhgpkfecaaa.Mk
open Go.RowKit Go.Proofs.YtkhilhgpkfecaaaW.PrintWords Go.Proofs.YtkhilhgpkfecaaaW.PrintLast Go.Proofs.YtkhilhgpkfecaaaW.PrintMore Go.Proofs.Ytkhilhgpkfecaaa.PMarksSpans
set_option linter.unusedVariables false
set_option linter.unusedSimpArgs false

theorem less_aa : cmp_Less_string.f ⟨#[97]⟩ ⟨#[97]⟩ = some false := by
  unfold cmp_Less_string.f cmp_isNaN_string.f
  rw [ByteArray.toList_eq]
  rfl
theorem half_one : wrap64 ((IntKind.u64.wrap (wrap64 (0 + 1))) / 2) = 0 := by
  unfold wrap64
  decide
theorem search_a : slices_BinarySearch_string_string.f 2 [⟨#[97]⟩] ⟨#[97]⟩ = some (0, true) := by
  show slices_BinarySearch_string_string.l0 2 [⟨#[97]⟩] ⟨#[97]⟩ 1 0 1 = _
  simp only [slices_BinarySearch_string_string.l0]
  rw [if_pos (by decide), half_one, if_pos (by decide), if_pos (by decide)]
  rw [show rdOf ByteArray.empty [(⟨#[97]⟩ : ByteArray)] 0 = ⟨#[97]⟩ from rfl, less_aa]
  simp
theorem place_a : marks_Place.f 2 4 [⟨#[97]⟩] [2] [S38.mk 1 2] ⟨#[97]⟩ = some (2, true) := by
  unfold marks_Place.f
  rw [search_a]
  simp
  rfl
theorem top_a : marks_Top.f 4 [⟨#[97]⟩] [2] [S38.mk 1 2] = some (1, 2, true) := by
  unfold marks_Top.f
  rw [if_neg (by decide)]
  rw [show wrap64 ((([S38.mk 1 2] : List S38).length : Int) - 1) = 0 from by unfold wrap64; decide]
  rw [if_pos (by decide), if_pos (by decide)]
  rfl

set_option maxRecDepth 100000 in
set_option maxHeartbeats 1600000 in
theorem alive_true (w : World) : Calls Try.prog 4 #[] w fun e w' => e = .returned (.bool true) ∧ Below w.heap.size w w' := by
  have hu26 := Try.underlying26
  have hu43 := Try.underlying43
  go_enter Try.func4, Try.ntmps4
  go_wp2_with fail
  refine (set_one w).mono ?_
  rintro e w1 ⟨B1, d1, B2, d2, B3, d3, rfl, h1, h2, h3, hb⟩
  have N11 := Aside0.mk h1
  have N21 := Aside0.mk h2
  have N31 := Aside0.mk h3
  have B1' := Aside0.mk hb
  clear h1 h2 h3 hb
  go_wp2_with fail
  have K2 := Aside0.mk (blk_new w1 (.cells #[.int .i64 2, .slice B1 1 d1, .slice B2 1 d2, .slice B3 0 d3] 26 (0, 0)))
  have hb : Below w1.heap.size w1 (w1.alloc (.cells #[.int .i64 2, .slice B1 1 d1, .slice B2 1 d2, .slice B3 0 d3] 26)) := below_alloc (Below.refl _ _) _
  have GL := Aside0.mk B1'.out.size
  generalize w1.alloc (.cells #[.int .i64 2, .slice B1 1 d1, .slice B2 1 d2, .slice B3 0 d3] 26) = w2 at K2 hb ⊢
  have N12 := Aside0.mk (Kd.R_below N11.out hb)
  have N22 := Aside0.mk (Kd.R_below N21.out hb)
  have N32 := Aside0.mk (Kd.R_below N31.out hb)
  have B2' := Aside0.mk (below_step B1'.out hb)
  clear N11 N21 N31 B1' hb
  generalize w1.heap.size = gm at K2 GL ⊢
  refine (push_ok 2 B1 d1 [⟨#[97]⟩] B2 d2 [2] B3 d3 [] 1 2 3 w2 (by decide) (by simp) (Kd.R_reads' N12.out).2.2 (Kd.R_reads' N22.out).2.2 (Kd.R_reads' N32.out).2.2 (by simp) (by simp)).mono ?_
  rintro e w3 ⟨D1, k1, D2, k2, D3, k3, rfl, h1, h2, h3, hb⟩
  have N13 := Aside0.mk h1
  have N23 := Aside0.mk h2
  have N33 := Aside0.mk (show k38.R 38 w3 w2.heap.size (fun _ => True) (.slice D3 1 k3) [S38.mk 1 2] from h3)
  have K3 := Aside0.mk (blk_below K2.out hb)
  have B3' := Aside0.mk (below_step B2'.out hb)
  clear h1 h2 h3 hb N12 N22 N32 K2 B2'
  have x0 := (blk_cell K3.out 0).trans (show _ = some (Value.int .i64 2) from rfl)
  have x1 := (blk_cell K3.out 1).trans (show _ = some (Value.slice B1 1 d1) from rfl)
  have x2 := (blk_cell K3.out 2).trans (show _ = some (Value.slice B2 1 d2) from rfl)
  have x3 := (blk_cell K3.out 3).trans (show _ = some (Value.slice B3 0 d3) from rfl)
  have y0 := blk_frozen K3.out 0
  have y1 := blk_frozen K3.out 1
  have y2 := blk_frozen K3.out 2
  have y3 := blk_frozen K3.out 3
  go_wp2_with fail
  clear x0 x1 x2 x3 y0 y1 y2 y3
  have hk := ((((KeepBut.refl w3 gm none).set_ 0 (.int .i64 2)).set_ 1 (.slice D1 1 k1)).set_ 2 (.slice D2 1 k2)).set_ 3 (.slice D3 1 k3)
  have hs4 : ((((w3.setCell ⟨gm, 0, none⟩ (.int .i64 2)).setCell ⟨gm, 1, none⟩ (.slice D1 1 k1)).setCell ⟨gm, 2, none⟩ (.slice D2 1 k2)).setCell ⟨gm, 3, none⟩ (.slice D3 1 k3)).heap.size = w3.heap.size := by simp [World.setCell]
  have N14 := Aside0.mk (R_keptBut N13.out K3.out (by decide) hk)
  have N24 := Aside0.mk (R_keptBut N23.out K3.out (by decide) hk)
  have N34 := Aside0.mk (R_keptBut N33.out K3.out (by decide) hk)
  have B4' := Aside0.mk ((((B3'.out.setCell (p := ⟨gm, 0, none⟩) GL.out (.int .i64 2)).setCell (p := ⟨gm, 1, none⟩) GL.out (.slice D1 1 k1)).setCell (p := ⟨gm, 2, none⟩) GL.out (.slice D2 1 k2)).setCell (p := ⟨gm, 3, none⟩) GL.out (.slice D3 1 k3))
  generalize (((w3.setCell ⟨gm, 0, none⟩ (.int .i64 2)).setCell ⟨gm, 1, none⟩ (.slice D1 1 k1)).setCell ⟨gm, 2, none⟩ (.slice D2 1 k2)).setCell ⟨gm, 3, none⟩ (.slice D3 1 k3) = w4 at hs4 N14 N24 N34 B4' ⊢
  rw [← hs4]
  clear hs4 hk N13 N23 N33 B3' K3
  refine (move_marks D1 k1 D2 k2 D3 k3 w4.heap.size (w4.alloc (.cells #[.int .i64 2, .int .i64 0, .string ⟨#[120, 121]⟩] 43)) (Kd.C_alloc (Kd.R_reads' N14.out).2.2 _) (Kd.C_alloc (Kd.R_reads' N24.out).2.2 _) (Kd.C_alloc (Kd.R_reads' N34.out).2.2 _) (blk_new w4 (.cells #[.int .i64 2, .int .i64 0, .string ⟨#[120, 121]⟩] 43 (0, 0)))).mono ?_
  rintro e w6 ⟨E1, j1, E2, j2, E3, j3, rfl, m1, m2, m3, h1, h2, h3, hb⟩
  have M1 := Aside0.mk m1
  have M2 := Aside0.mk m2
  have M3 := Aside0.mk m3
  have N16 := Aside0.mk h1
  have N26 := Aside0.mk h2
  have N36 := Aside0.mk h3
  have B6' := Aside0.mk (below_step (below_alloc B4'.out _) hb)
  clear m1 m2 m3 h1 h2 h3 hb N14 N24 N34 B4'
  go_wp2_with fail
  have K7 := Aside0.mk (blk_new w6 (.cells #[.int .i64 4, .slice E1 1 j1, .slice E2 1 j2, .slice E3 1 j3] 26 (0, 0)))
  have hb : Below w6.heap.size w6 (w6.alloc (.cells #[.int .i64 4, .slice E1 1 j1, .slice E2 1 j2, .slice E3 1 j3] 26)) := below_alloc (Below.refl _ _) _
  generalize w6.alloc (.cells #[.int .i64 4, .slice E1 1 j1, .slice E2 1 j2, .slice E3 1 j3] 26) = w7 at K7 hb ⊢
  have N17 := Aside0.mk (Kd.C_below N16.out hb)
  have N27 := Aside0.mk (Kd.C_below N26.out hb)
  have N37 := Aside0.mk (Kd.C_below N36.out hb)
  have B7' := Aside0.mk (below_step B6'.out hb)
  clear N16 N26 N36 B6' hb
  generalize w6.heap.size = gx at K7 ⊢
  refine (marks_Place.calls 2 4 E1 j1 [⟨#[97]⟩] E2 j2 [2] E3 j3 [S38.mk 1 2] ⟨#[97]⟩ 2 true w7 N17.out M1.out N27.out M2.out N37.out M3.out place_a).mono ?_
  rintro e w8 ⟨rfl, hb⟩
  have K8 := Aside0.mk (blk_below K7.out hb)
  have N18 := Aside0.mk (Kd.C_below N17.out hb)
  have N28 := Aside0.mk (Kd.C_below N27.out hb)
  have N38 := Aside0.mk (Kd.C_below N37.out hb)
  have B8' := Aside0.mk (below_step B7'.out hb)
  clear hb K7 N17 N27 N37 B7'
  have x0 := (blk_cell K8.out 0).trans (show _ = some (Value.int .i64 4) from rfl)
  have x1 := (blk_cell K8.out 1).trans (show _ = some (Value.slice E1 1 j1) from rfl)
  have x2 := (blk_cell K8.out 2).trans (show _ = some (Value.slice E2 1 j2) from rfl)
  have x3 := (blk_cell K8.out 3).trans (show _ = some (Value.slice E3 1 j3) from rfl)
  go_wp2_with fail
  refine (marks_Top.calls 4 E1 j1 [⟨#[97]⟩] E2 j2 [2] E3 j3 [S38.mk 1 2] 1 2 true w8 N18.out M1.out N28.out M2.out N38.out M3.out top_a).mono ?_
  rintro e w9 ⟨rfl, hb⟩
  clear x0 x1 x2 x3
  have K9 := Aside0.mk (blk_below K8.out hb)
  have B9' := Aside0.mk (below_step B8'.out hb)
  clear hb K8 N18 N28 N38 B8'
  have x0 := (blk_cell K9.out 0).trans (show _ = some (Value.int .i64 4) from rfl)
  have x1 := (blk_cell K9.out 1).trans (show _ = some (Value.slice E1 1 j1) from rfl)
  have x2 := (blk_cell K9.out 2).trans (show _ = some (Value.slice E2 1 j2) from rfl)
  have x3 := (blk_cell K9.out 3).trans (show _ = some (Value.slice E3 1 j3) from rfl)
  go_wp2
  go_ret
  exact ⟨rfl, B9'.out⟩


end Go.Proofs.Ytkhilhgpkfecaaa.Mk
