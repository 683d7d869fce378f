/- The law of spans answers true: its walk, where there is no span. -/
import Derived.Test.YtkhilhgpkfecaaaMl
namespace Go.Proofs.Ytkhilhgpkfecaaa.Mk
open Go.RowKit Go.Proofs.YtkhilhgpkfecaaaW.PrintWords Go.Proofs.YtkhilhgpkfecaaaW.PrintLast Go.Proofs.YtkhilhgpkfecaaaW.PrintMore Go.Proofs.Ytkhilhgpkfecaaa.PMarksSpans Go.Proofs.Ytkhilhgpkfecaaa.Pl
set_option linter.unusedVariables false
set_option linter.unusedSimpArgs false

set_option maxRecDepth 100000 in
set_option maxHeartbeats 4000000 in
theorem law_none_bad (m0 q0 f t n : Int) (l1 k1 : List ByteArray) (l2 k2 : List Int) (l3 k3 : List S38) (A1 : Option Addr) (n1 c1 : Nat) (A2 : Option Addr) (n2 c2 : Nat) (A3 : Option Addr) (c3 : Nat)
    (Q1 : Option Addr) (j1 g1 : Nat) (Q2 : Option Addr) (j2 g2 : Nat) (Q3 : Option Addr) (j3 g3 : Nat) (w : World) (hm : Rd w l1 l2 l3 A1 n1 c1 A2 n2 c2 A3 0 c3) (hq : Rd w k1 k2 k3 Q1 j1 g1 Q2 j2 g2 Q3 j3 g3)
    (hgm : pleacherlaw25_Great.f 400 m0 l1 l2 l3 = some false) (hgq : pleacherlaw25_Great.f 400 q0 k1 k2 k3 = some false) (b1 : n1 ≤ 60) (b2 : n2 ≤ 60) (b3 : 0 ≤ 60) (hs : spanB f t n = false) :
    Calls Try.prog 3 #[.agg #[.int .i64 m0, .slice A1 n1 c1, .slice A2 n2 c2, .slice A3 0 c3], .agg #[.int .i64 q0, .slice Q1 j1 g1, .slice Q2 j2 g2, .slice Q3 j3 g3], .int .i64 f, .int .i64 t, .int .i64 n] w fun e w' => e = .returned (.bool true) ∧ Below w.heap.size w w' := by
  have HGm := Aside0.mk hgm
  have HGq := Aside0.mk hgq
  have HS := Aside0.mk hs
  have HB1 := Aside0.mk b1
  have HB2 := Aside0.mk b2
  have HB3 := Aside0.mk b3
  clear hgm hgq hs b1 b2 b3
  have hu26 := Try.underlying26
  have hu38 := Try.underlying38
  have HM := Aside0.mk hm
  have HQ := Aside0.mk hq
  clear hm hq
  go_enter Try.func3, Try.ntmps3
  go_wp2_with fail
  obtain ⟨y1, y2, y3⟩ := alloc2 w (.cells #[.int .i64 m0, .slice A1 n1 c1, .slice A2 n2 c2, .slice A3 0 c3] 26 (0, 0)) (.cells #[.int .i64 q0, .slice Q1 j1 g1, .slice Q2 j2 g2, .slice Q3 j3 g3] 26 (0, 0))
  generalize (w.alloc (.cells #[.int .i64 m0, .slice A1 n1 c1, .slice A2 n2 c2, .slice A3 0 c3] 26)).alloc (.cells #[.int .i64 q0, .slice Q1 j1 g1, .slice Q2 j2 g2, .slice Q3 j3 g3] 26) = w0 at y1 y2 y3 ⊢
  have K5w0 := Aside0.mk (y1)
  have K6w0 := Aside0.mk (y2)
  have Bw0 := Aside0.mk (y3)
  have Mw0 := Aside0.mk (HM.out.below y3)
  have Qw0 := Aside0.mk (HQ.out.below y3)
  clear y1 y2 y3
  refine (alive_true w0).mono ?_
  rintro e w1 ⟨rfl, hb⟩
  have K5w1 := Aside0.mk (blk_below K5w0.out hb)
  have K6w1 := Aside0.mk (blk_below K6w0.out hb)
  have Bw1 := Aside0.mk (below_step Bw0.out hb)
  have Mw1 := Aside0.mk (Rd.below Mw0.out hb)
  have Qw1 := Aside0.mk (Rd.below Qw0.out hb)
  clear K5w0 K6w0 Bw0 Mw0 Qw0 hb
  have xlt := blk_lt K5w1.out
  have x0 := (blk_cell K5w1.out 0).trans (show _ = some (Value.int .i64 m0) from rfl)
  have x1 := (blk_cell K5w1.out 1).trans (show _ = some (Value.slice A1 n1 c1) from rfl)
  have x2 := (blk_cell K5w1.out 2).trans (show _ = some (Value.slice A2 n2 c2) from rfl)
  have x3 := (blk_cell K5w1.out 3).trans (show _ = some (Value.slice A3 0 c3) from rfl)
  go_wp2_with fail
  clear xlt x0 x1 x2 x3
  refine (great5 m0 Mw1.out false HGm.out).mono ?_
  rintro e w2 ⟨rfl, hb⟩
  have K5w2 := Aside0.mk (blk_below K5w1.out hb)
  have K6w2 := Aside0.mk (blk_below K6w1.out hb)
  have Bw2 := Aside0.mk (below_step Bw1.out hb)
  have Mw2 := Aside0.mk (Rd.below Mw1.out hb)
  have Qw2 := Aside0.mk (Rd.below Qw1.out hb)
  clear K5w1 K6w1 Bw1 Mw1 Qw1 hb
  have xlt := blk_lt K6w2.out
  have x0 := (blk_cell K6w2.out 0).trans (show _ = some (Value.int .i64 q0) from rfl)
  have x1 := (blk_cell K6w2.out 1).trans (show _ = some (Value.slice Q1 j1 g1) from rfl)
  have x2 := (blk_cell K6w2.out 2).trans (show _ = some (Value.slice Q2 j2 g2) from rfl)
  have x3 := (blk_cell K6w2.out 3).trans (show _ = some (Value.slice Q3 j3 g3) from rfl)
  go_wp2_with fail
  clear xlt x0 x1 x2 x3
  refine (great5 q0 Qw2.out false HGq.out).mono ?_
  rintro e w3 ⟨rfl, hb⟩
  have K5w3 := Aside0.mk (blk_below K5w2.out hb)
  have K6w3 := Aside0.mk (blk_below K6w2.out hb)
  have Bw3 := Aside0.mk (below_step Bw2.out hb)
  have Mw3 := Aside0.mk (Rd.below Mw2.out hb)
  have Qw3 := Aside0.mk (Rd.below Qw2.out hb)
  clear K5w2 K6w2 Bw2 Mw2 Qw2 hb
  have xlt := blk_lt K5w3.out
  have x0 := (blk_cell K5w3.out 0).trans (show _ = some (Value.int .i64 m0) from rfl)
  have x1 := (blk_cell K5w3.out 1).trans (show _ = some (Value.slice A1 n1 c1) from rfl)
  have x2 := (blk_cell K5w3.out 2).trans (show _ = some (Value.slice A2 n2 c2) from rfl)
  have x3 := (blk_cell K5w3.out 3).trans (show _ = some (Value.slice A3 0 c3) from rfl)
  go_wp2_with fail
  clear xlt x0 x1 x2 x3
  refine (copy6 m0 Mw3.out (by have := HB1.out; omega) (by have := HB2.out; omega) (by have := HB3.out; omega)).mono ?_
  rintro e w4 ⟨O1, o1, O2, o2, O3, o3, rfl, hr, hb⟩
  have hge : w.heap.size ≤ w3.heap.size := Bw3.out.size
  have K5w4 := Aside0.mk (blk_below K5w3.out hb)
  have K6w4 := Aside0.mk (blk_below K6w3.out hb)
  have Bw4 := Aside0.mk (below_step Bw3.out hb)
  have Mw4 := Aside0.mk (Rd.below Mw3.out hb)
  have Qw4 := Aside0.mk (Rd.below Qw3.out hb)
  clear K5w3 K6w3 Bw3 Mw3 Qw3 hb
  have Ow4 := Aside0.mk (hr.lower hge)
  clear hr hge
  have xlt := blk_lt K5w4.out
  have x0 := (blk_cell K5w4.out 0).trans (show _ = some (Value.int .i64 m0) from rfl)
  have x1 := (blk_cell K5w4.out 1).trans (show _ = some (Value.slice A1 n1 c1) from rfl)
  have x2 := (blk_cell K5w4.out 2).trans (show _ = some (Value.slice A2 n2 c2) from rfl)
  have x3 := (blk_cell K5w4.out 3).trans (show _ = some (Value.slice A3 0 c3) from rfl)
  go_wp2_with fail
  clear xlt x0 x1 x2 x3
  have hnew := blk_new w4 (.cells #[.int .i64 m0, .slice O1 n1 o1, .slice O2 n2 o2, .slice O3 0 o3] 26 (0, 0))
  have hb : Below w4.heap.size w4 (w4.alloc (.cells #[.int .i64 m0, .slice O1 n1 o1, .slice O2 n2 o2, .slice O3 0 o3] 26)) := below_alloc (Below.refl _ _) _
  have hge : w.heap.size ≤ w4.heap.size := Bw4.out.size
  generalize w4.alloc (.cells #[.int .i64 m0, .slice O1 n1 o1, .slice O2 n2 o2, .slice O3 0 o3] 26) = w5 at hnew hb ⊢
  have K5w5 := Aside0.mk (blk_below K5w4.out hb)
  have K6w5 := Aside0.mk (blk_below K6w4.out hb)
  have Bw5 := Aside0.mk (below_step Bw4.out hb)
  have Mw5 := Aside0.mk (Rd.below Mw4.out hb)
  have Qw5 := Aside0.mk (Rd.below Qw4.out hb)
  have Ow5 := Aside0.mk (Rw.below Ow4.out hb)
  clear K5w4 K6w4 Bw4 Mw4 Qw4 Ow4 hb
  generalize w4.heap.size = K11b at hnew hge  ⊢
  have K11w5 := Aside0.mk (hnew)
  clear hnew
  have K11ge := Aside0.mk hge
  clear hge
  refine (push7_bad m0 Mw5.out f t n HS.out).mono ?_
  rintro e w6 ⟨P1, p1, P2, p2, P3, p3, rfl, hr, hb⟩
  have NEO := Aside0.mk (show ∀ k, (Value.slice O3 0 o3).ownBlock = some k → k < w5.heap.size from Kd.R_lt Ow5.out.r3)
  have K5w6 := Aside0.mk (blk_below K5w5.out hb)
  have K6w6 := Aside0.mk (blk_below K6w5.out hb)
  have Bw6 := Aside0.mk (below_step Bw5.out hb)
  have Mw6 := Aside0.mk (Rd.below Mw5.out hb)
  have Qw6 := Aside0.mk (Rd.below Qw5.out hb)
  have Ow6 := Aside0.mk (Rw.below Ow5.out hb)
  have K11w6 := Aside0.mk (blk_below K11w5.out hb)
  clear K5w5 K6w5 Bw5 Mw5 Qw5 Ow5 K11w5 hb
  have Pw6 := Aside0.mk (hr)
  clear hr
  have xlt := blk_lt K5w6.out
  have x0 := (blk_cell K5w6.out 0).trans (show _ = some (Value.int .i64 m0) from rfl)
  have x1 := (blk_cell K5w6.out 1).trans (show _ = some (Value.slice A1 n1 c1) from rfl)
  have x2 := (blk_cell K5w6.out 2).trans (show _ = some (Value.slice A2 n2 c2) from rfl)
  have x3 := (blk_cell K5w6.out 3).trans (show _ = some (Value.slice A3 0 c3) from rfl)
  go_wp2_with fail
  clear xlt x0 x1 x2 x3
  have hl11 := blk_lt K11w6.out
  have hnew := blk_new w6 (.cells #[.int .i64 0, .slice P1 0 p1, .slice P2 0 p2, .slice P3 0 p3] 26 (0, 0))
  have hb : Below w6.heap.size w6 (w6.alloc (.cells #[.int .i64 0, .slice P1 0 p1, .slice P2 0 p2, .slice P3 0 p3] 26)) := below_alloc (Below.refl _ _) _
  have hge : w.heap.size ≤ w6.heap.size := Bw6.out.size
  generalize w6.alloc (.cells #[.int .i64 0, .slice P1 0 p1, .slice P2 0 p2, .slice P3 0 p3] 26) = w7 at hnew hb ⊢
  have K5w7 := Aside0.mk (blk_below K5w6.out hb)
  have K6w7 := Aside0.mk (blk_below K6w6.out hb)
  have Bw7 := Aside0.mk (below_step Bw6.out hb)
  have Mw7 := Aside0.mk (Rd.below Mw6.out hb)
  have Qw7 := Aside0.mk (Rd.below Qw6.out hb)
  have Ow7 := Aside0.mk (Rw.below Ow6.out hb)
  have K11w7 := Aside0.mk (blk_below K11w6.out hb)
  have Pw7 := Aside0.mk (Rw.below Pw6.out hb)
  clear K5w6 K6w6 Bw6 Mw6 Qw6 Ow6 K11w6 Pw6 hb
  generalize w6.heap.size = K12b at hnew hge hl11 ⊢
  have K12w7 := Aside0.mk (hnew)
  clear hnew
  have K12ge := Aside0.mk hge
  clear hge
  have NEK := Aside0.mk (show K12b ≠ K11b from by omega)
  clear hl11
  refine (pop8_none m0 Mw7.out rfl).mono ?_
  rintro e w8 ⟨E1, e1, E2, e2, E3, e3, rfl, hr, hb⟩
  have hge : w.heap.size ≤ w7.heap.size := Bw7.out.size
  have K5w8 := Aside0.mk (blk_below K5w7.out hb)
  have K6w8 := Aside0.mk (blk_below K6w7.out hb)
  have Bw8 := Aside0.mk (below_step Bw7.out hb)
  have Mw8 := Aside0.mk (Rd.below Mw7.out hb)
  have Qw8 := Aside0.mk (Rd.below Qw7.out hb)
  have Ow8 := Aside0.mk (Rw.below Ow7.out hb)
  have K11w8 := Aside0.mk (blk_below K11w7.out hb)
  have Pw8 := Aside0.mk (Rw.below Pw7.out hb)
  have K12w8 := Aside0.mk (blk_below K12w7.out hb)
  clear K5w7 K6w7 Bw7 Mw7 Qw7 Ow7 K11w7 Pw7 K12w7 hb
  have Ew8 := Aside0.mk (hr.lower hge)
  clear hr hge
  have xlt := blk_lt K5w8.out
  have x0 := (blk_cell K5w8.out 0).trans (show _ = some (Value.int .i64 m0) from rfl)
  have x1 := (blk_cell K5w8.out 1).trans (show _ = some (Value.slice A1 n1 c1) from rfl)
  have x2 := (blk_cell K5w8.out 2).trans (show _ = some (Value.slice A2 n2 c2) from rfl)
  have x3 := (blk_cell K5w8.out 3).trans (show _ = some (Value.slice A3 0 c3) from rfl)
  go_wp2_with fail
  clear xlt x0 x1 x2 x3
  have hnew := blk_new w8 (.cells #[.int .i64 0, .slice E1 0 e1, .slice E2 0 e2, .slice E3 0 e3] 26 (0, 0))
  have hb : Below w8.heap.size w8 (w8.alloc (.cells #[.int .i64 0, .slice E1 0 e1, .slice E2 0 e2, .slice E3 0 e3] 26)) := below_alloc (Below.refl _ _) _
  have hge : w.heap.size ≤ w8.heap.size := Bw8.out.size
  generalize w8.alloc (.cells #[.int .i64 0, .slice E1 0 e1, .slice E2 0 e2, .slice E3 0 e3] 26) = w9 at hnew hb ⊢
  have K5w9 := Aside0.mk (blk_below K5w8.out hb)
  have K6w9 := Aside0.mk (blk_below K6w8.out hb)
  have Bw9 := Aside0.mk (below_step Bw8.out hb)
  have Mw9 := Aside0.mk (Rd.below Mw8.out hb)
  have Qw9 := Aside0.mk (Rd.below Qw8.out hb)
  have Ow9 := Aside0.mk (Rw.below Ow8.out hb)
  have K11w9 := Aside0.mk (blk_below K11w8.out hb)
  have Pw9 := Aside0.mk (Rw.below Pw8.out hb)
  have K12w9 := Aside0.mk (blk_below K12w8.out hb)
  have Ew9 := Aside0.mk (Rw.below Ew8.out hb)
  clear K5w8 K6w8 Bw8 Mw8 Qw8 Ow8 K11w8 Pw8 K12w8 Ew8 hb
  generalize w8.heap.size = K14b at hnew hge  ⊢
  have K14w9 := Aside0.mk (hnew)
  clear hnew
  have K14ge := Aside0.mk hge
  clear hge
  refine (top9 m0 Mw9.out 0 0 false (top_none m0 l1 l2 l3 Mw9.out.e3)).mono ?_
  rintro e w10 ⟨rfl, hb⟩
  have K5w10 := Aside0.mk (blk_below K5w9.out hb)
  have K6w10 := Aside0.mk (blk_below K6w9.out hb)
  have Bw10 := Aside0.mk (below_step Bw9.out hb)
  have Mw10 := Aside0.mk (Rd.below Mw9.out hb)
  have Qw10 := Aside0.mk (Rd.below Qw9.out hb)
  have Ow10 := Aside0.mk (Rw.below Ow9.out hb)
  have K11w10 := Aside0.mk (blk_below K11w9.out hb)
  have Pw10 := Aside0.mk (Rw.below Pw9.out hb)
  have K12w10 := Aside0.mk (blk_below K12w9.out hb)
  have Ew10 := Aside0.mk (Rw.below Ew9.out hb)
  have K14w10 := Aside0.mk (blk_below K14w9.out hb)
  clear K5w9 K6w9 Bw9 Mw9 Qw9 Ow9 K11w9 Pw9 K12w9 Ew9 K14w9 hb
  have xlt := blk_lt K5w10.out
  have x0 := (blk_cell K5w10.out 0).trans (show _ = some (Value.int .i64 m0) from rfl)
  have x1 := (blk_cell K5w10.out 1).trans (show _ = some (Value.slice A1 n1 c1) from rfl)
  have x2 := (blk_cell K5w10.out 2).trans (show _ = some (Value.slice A2 n2 c2) from rfl)
  have x3 := (blk_cell K5w10.out 3).trans (show _ = some (Value.slice A3 0 c3) from rfl)
  have xqlt := blk_lt K6w10.out
  have xq0 := (blk_cell K6w10.out 0).trans (show _ = some (Value.int .i64 q0) from rfl)
  have xq1 := (blk_cell K6w10.out 1).trans (show _ = some (Value.slice Q1 j1 g1) from rfl)
  have xq2 := (blk_cell K6w10.out 2).trans (show _ = some (Value.slice Q2 j2 g2) from rfl)
  have xq3 := (blk_cell K6w10.out 3).trans (show _ = some (Value.slice Q3 j3 g3) from rfl)
  have xolt := blk_lt K11w10.out
  have xo0 := (blk_cell K11w10.out 0).trans (show _ = some (Value.int .i64 m0) from rfl)
  have xo1 := (blk_cell K11w10.out 1).trans (show _ = some (Value.slice O1 n1 o1) from rfl)
  have xo2 := (blk_cell K11w10.out 2).trans (show _ = some (Value.slice O2 n2 o2) from rfl)
  have xo3 := (blk_cell K11w10.out 3).trans (show _ = some (Value.slice O3 0 o3) from rfl)
  go_wp2_with fail
  clear xlt x0 x1 x2 x3 xqlt xq0 xq1 xq2 xq3 xolt xo0 xo1 xo2 xo3
  refine start_ (n := 19) (S := fun w' => w'.cell? ⟨w.heap.size, 0, none⟩ = some (.int .i64 m0) ∧ w'.cell? ⟨w.heap.size, 1, none⟩ = some (.slice A1 n1 c1) ∧ w'.cell? ⟨w.heap.size, 2, none⟩ = some (.slice A2 n2 c2) ∧ w'.cell? ⟨w.heap.size, 3, none⟩ = some (.slice A3 0 c3) ∧ w'.cell? ⟨w.heap.size + 1, 0, none⟩ = some (.int .i64 q0) ∧ w'.cell? ⟨w.heap.size + 1, 1, none⟩ = some (.slice Q1 j1 g1) ∧ w'.cell? ⟨w.heap.size + 1, 2, none⟩ = some (.slice Q2 j2 g2) ∧ w'.cell? ⟨w.heap.size + 1, 3, none⟩ = some (.slice Q3 j3 g3) ∧ w'.cell? ⟨K11b, 0, none⟩ = some (.int .i64 m0) ∧ w'.cell? ⟨K11b, 1, none⟩ = some (.slice O1 n1 o1) ∧ w'.cell? ⟨K11b, 2, none⟩ = some (.slice O2 n2 o2) ∧ w'.cell? ⟨K11b, 3, none⟩ = some (.slice O3 0 o3)) (ds := []) #[false, false, false, false, false, false, false, false, false, false, false, false, false, false, false, false, false, false, false] (by kernel_rfl) rfl rfl ⟨(blk_cell K5w10.out 0).trans rfl, (blk_cell K5w10.out 1).trans rfl, (blk_cell K5w10.out 2).trans rfl, (blk_cell K5w10.out 3).trans rfl, (blk_cell K6w10.out 0).trans rfl, (blk_cell K6w10.out 1).trans rfl, (blk_cell K6w10.out 2).trans rfl, (blk_cell K6w10.out 3).trans rfl, (blk_cell K11w10.out 0).trans rfl, (blk_cell K11w10.out 1).trans rfl, (blk_cell K11w10.out 2).trans rfl, (blk_cell K11w10.out 3).trans rfl⟩ (fun hHeld => ?_)
  have hb : Below w10.heap.size w10 w10.drew := below_drew (Below.refl _ _)
  generalize w10.drew = w11 at hb hHeld ⊢
  have K5w11 := Aside0.mk (blk_below K5w10.out hb)
  have K6w11 := Aside0.mk (blk_below K6w10.out hb)
  have Bw11 := Aside0.mk (below_step Bw10.out hb)
  have Mw11 := Aside0.mk (Rd.below Mw10.out hb)
  have Qw11 := Aside0.mk (Rd.below Qw10.out hb)
  have Ow11 := Aside0.mk (Rw.below Ow10.out hb)
  have K11w11 := Aside0.mk (blk_below K11w10.out hb)
  have Pw11 := Aside0.mk (Rw.below Pw10.out hb)
  have K12w11 := Aside0.mk (blk_below K12w10.out hb)
  have Ew11 := Aside0.mk (Rw.below Ew10.out hb)
  have K14w11 := Aside0.mk (blk_below K14w10.out hb)
  clear K5w10 K6w10 Bw10 Mw10 Qw10 Ow10 K11w10 Pw10 K12w10 Ew10 K14w10 hb
  refine take_ (i := 0) (N := some 53) (v := ?_) (a' := ?_) #[true, false, false, false, false, false, false, false, false, false, false, false, false, false, false, false, false, false, false] rfl rfl (by kernel_rfl) (fun _ _ _ h => h) (Or.inl ⟨by rfl, ?_⟩) hHeld ?_ ?_
  rotate_left
  · rintro w' ⟨s0, s1, s2, s3, s4, s5, s6, s7, s8, s9, s10, s11⟩
    go_simp
    with_reducible rfl
  rotate_left
  · simp only [Act.put, List.setIfInBounds_toArray, List.set_cons_zero, List.set_cons_succ]
    rfl
  refine take_ (i := 1) (N := some 54) (v := ?_) (a' := ?_) #[true, true, false, false, false, false, false, false, false, false, false, false, false, false, false, false, false, false, false] rfl rfl (by kernel_rfl) (fun _ _ _ h => h) (Or.inl ⟨by rfl, ?_⟩) hHeld ?_ ?_
  rotate_left
  · rintro w' ⟨s0, s1, s2, s3, s4, s5, s6, s7, s8, s9, s10, s11⟩
    go_simp
    with_reducible rfl
  rotate_left
  · simp only [Act.put, List.setIfInBounds_toArray, List.set_cons_zero, List.set_cons_succ]
    rfl
  refine take_ (i := 3) (N := some 56) (v := ?_) (a' := ?_) #[true, true, false, true, false, false, false, false, false, false, false, false, false, false, false, false, false, false, false] rfl rfl (by kernel_rfl) (fun _ _ _ h => h) (Or.inl ⟨by rfl, ?_⟩) hHeld ?_ ?_
  rotate_left
  · rintro w' ⟨s0, s1, s2, s3, s4, s5, s6, s7, s8, s9, s10, s11⟩
    go_simp
    with_reducible rfl
  rotate_left
  · simp only [Act.put, List.setIfInBounds_toArray, List.set_cons_zero, List.set_cons_succ]
    rfl
  refine take_ (i := 4) (N := some 57) (v := ?_) (a' := ?_) #[true, true, false, true, true, false, false, false, false, false, false, false, false, false, false, false, false, false, false] rfl rfl (by kernel_rfl) (fun _ _ _ h => h) (Or.inl ⟨by rfl, ?_⟩) hHeld ?_ ?_
  rotate_left
  · rintro w' ⟨s0, s1, s2, s3, s4, s5, s6, s7, s8, s9, s10, s11⟩
    go_simp
    with_reducible rfl
  rotate_left
  · simp only [Act.put, List.setIfInBounds_toArray, List.set_cons_zero, List.set_cons_succ]
    rfl
  refine one_ (i := 2) (N := some 55) #[true, true, true, true, true, false, false, false, false, false, false, false, false, false, false, false, false, false, false] rfl rfl (by kernel_rfl) (by decide) (fun K hK => ?_)
  refine goes_ Try.func10 (by kernel_rfl) rfl #[.agg #[.int .i64 m0, .slice A1 n1 c1, .slice A2 n2 c2, .slice A3 0 c3], .agg #[.int .i64 q0, .slice Q1 j1 g1, .slice Q2 j2 g2, .slice Q3 j3 g3]] (by rfl) rfl rfl (by simp only [List.map_toArray, List.map_cons, List.map_nil]; rfl) ?_
  refine (same10 m0 q0 Mw11.out Qw11.out (by have := HB1.out; omega) (by have := HB2.out; omega) (by have := HB3.out; omega)).mono ?_
  rintro e w12 ⟨rfl, hb⟩
  refine ⟨_, rfl, ?_⟩
  have K5w12 := Aside0.mk (blk_below K5w11.out hb)
  have K6w12 := Aside0.mk (blk_below K6w11.out hb)
  have Bw12 := Aside0.mk (below_step Bw11.out hb)
  have Mw12 := Aside0.mk (Rd.below Mw11.out hb)
  have Qw12 := Aside0.mk (Rd.below Qw11.out hb)
  have Ow12 := Aside0.mk (Rw.below Ow11.out hb)
  have K11w12 := Aside0.mk (blk_below K11w11.out hb)
  have Pw12 := Aside0.mk (Rw.below Pw11.out hb)
  have K12w12 := Aside0.mk (blk_below K12w11.out hb)
  have Ew12 := Aside0.mk (Rw.below Ew11.out hb)
  have K14w12 := Aside0.mk (blk_below K14w11.out hb)
  clear K5w11 K6w11 Bw11 Mw11 Qw11 Ow11 K11w11 Pw11 K12w11 Ew11 K14w11 hb
  refine hK.out _ _ ⟨(blk_cell K5w12.out 0).trans rfl, (blk_cell K5w12.out 1).trans rfl, (blk_cell K5w12.out 2).trans rfl, (blk_cell K5w12.out 3).trans rfl, (blk_cell K6w12.out 0).trans rfl, (blk_cell K6w12.out 1).trans rfl, (blk_cell K6w12.out 2).trans rfl, (blk_cell K6w12.out 3).trans rfl, (blk_cell K11w12.out 0).trans rfl, (blk_cell K11w12.out 1).trans rfl, (blk_cell K11w12.out 2).trans rfl, (blk_cell K11w12.out 3).trans rfl⟩ (fun hHeld => ?_)
  clear hK K
  refine one_ (i := 5) (N := some 58) #[true, true, true, true, true, true, false, false, false, false, false, false, false, false, false, false, false, false, false] rfl rfl (by kernel_rfl) (by decide) (fun K hK => ?_)
  refine goes_ Try.func11 (by kernel_rfl) rfl #[.agg #[.int .i64 m0, .slice A1 n1 c1, .slice A2 n2 c2, .slice A3 0 c3], .agg #[.int .i64 q0, .slice Q1 j1 g1, .slice Q2 j2 g2, .slice Q3 j3 g3]] (by rfl) rfl rfl (by simp only [List.map_toArray, List.map_cons, List.map_nil]; rfl) ?_
  refine (same11 m0 q0 Mw12.out Qw12.out (by have := HB1.out; omega) (by have := HB2.out; omega) (by have := HB3.out; omega)).mono ?_
  rintro e w13 ⟨rfl, hb⟩
  refine ⟨_, rfl, ?_⟩
  have K5w13 := Aside0.mk (blk_below K5w12.out hb)
  have K6w13 := Aside0.mk (blk_below K6w12.out hb)
  have Bw13 := Aside0.mk (below_step Bw12.out hb)
  have Mw13 := Aside0.mk (Rd.below Mw12.out hb)
  have Qw13 := Aside0.mk (Rd.below Qw12.out hb)
  have Ow13 := Aside0.mk (Rw.below Ow12.out hb)
  have K11w13 := Aside0.mk (blk_below K11w12.out hb)
  have Pw13 := Aside0.mk (Rw.below Pw12.out hb)
  have K12w13 := Aside0.mk (blk_below K12w12.out hb)
  have Ew13 := Aside0.mk (Rw.below Ew12.out hb)
  have K14w13 := Aside0.mk (blk_below K14w12.out hb)
  clear K5w12 K6w12 Bw12 Mw12 Qw12 Ow12 K11w12 Pw12 K12w12 Ew12 K14w12 hb
  refine hK.out _ _ ⟨(blk_cell K5w13.out 0).trans rfl, (blk_cell K5w13.out 1).trans rfl, (blk_cell K5w13.out 2).trans rfl, (blk_cell K5w13.out 3).trans rfl, (blk_cell K6w13.out 0).trans rfl, (blk_cell K6w13.out 1).trans rfl, (blk_cell K6w13.out 2).trans rfl, (blk_cell K6w13.out 3).trans rfl, (blk_cell K11w13.out 0).trans rfl, (blk_cell K11w13.out 1).trans rfl, (blk_cell K11w13.out 2).trans rfl, (blk_cell K11w13.out 3).trans rfl⟩ (fun hHeld => ?_)
  clear hK K
  refine pure_ (i := 6) (N := some 59) (v := ?_) (a' := ?_) #[true, true, true, true, true, true, true, false, false, false, false, false, false, false, false, false, false, false, false] rfl rfl (by kernel_rfl) (fun _ _ _ h => h) (Or.inl ⟨by rfl, ?_⟩) ?_ ?_
  rotate_left
  · intro w'
    go_simp
    with_reducible rfl
  rotate_left
  · simp only [Act.put, List.setIfInBounds_toArray, List.set_cons_zero, List.set_cons_succ]
    rfl
  refine pure_ (i := 7) (N := some 60) (v := ?_) (a' := ?_) #[true, true, true, true, true, true, true, true, false, false, false, false, false, false, false, false, false, false, false] rfl rfl (by kernel_rfl) (fun _ _ _ h => h) (Or.inl ⟨by rfl, ?_⟩) ?_ ?_
  rotate_left
  · intro w'
    go_simp
    with_reducible rfl
  rotate_left
  · simp only [Act.put, List.setIfInBounds_toArray, List.set_cons_zero, List.set_cons_succ]
    rfl
  refine take_ (i := 8) (N := some 61) (v := ?_) (a' := ?_) #[true, true, true, true, true, true, true, true, true, false, false, false, false, false, false, false, false, false, false] rfl rfl (by kernel_rfl) (fun _ _ _ h => h) (Or.inl ⟨by rfl, ?_⟩) hHeld ?_ ?_
  rotate_left
  · rintro w' ⟨s0, s1, s2, s3, s4, s5, s6, s7, s8, s9, s10, s11⟩
    go_simp
    with_reducible rfl
  rotate_left
  · simp only [Act.put, List.setIfInBounds_toArray, List.set_cons_zero, List.set_cons_succ]
    rfl
  refine take_ (i := 9) (N := some 62) (v := ?_) (a' := ?_) #[true, true, true, true, true, true, true, true, true, true, false, false, false, false, false, false, false, false, false] rfl rfl (by kernel_rfl) (fun _ _ _ h => h) (Or.inl ⟨by rfl, ?_⟩) hHeld ?_ ?_
  rotate_left
  · rintro w' ⟨s0, s1, s2, s3, s4, s5, s6, s7, s8, s9, s10, s11⟩
    go_simp
    with_reducible rfl
  rotate_left
  · simp only [Act.put, List.setIfInBounds_toArray, List.set_cons_zero, List.set_cons_succ]
    rfl
  refine one_ (i := 10) (N := some 63) #[true, true, true, true, true, true, true, true, true, true, true, false, false, false, false, false, false, false, false] rfl rfl (by kernel_rfl) (by decide) (fun K hK => ?_)
  refine goes_ Try.func10 (by kernel_rfl) rfl #[.agg #[.int .i64 m0, .slice A1 n1 c1, .slice A2 n2 c2, .slice A3 0 c3], .agg #[.int .i64 m0, .slice O1 n1 o1, .slice O2 n2 o2, .slice O3 0 o3]] (by rfl) rfl rfl (by simp only [List.map_toArray, List.map_cons, List.map_nil]; rfl) ?_
  refine (same10_refl m0 Mw13.out Ow13.out.rd (by have := HB1.out; omega) (by have := HB2.out; omega) (by have := HB3.out; omega)).mono ?_
  rintro e w14 ⟨rfl, hb⟩
  refine ⟨_, rfl, ?_⟩
  have K5w14 := Aside0.mk (blk_below K5w13.out hb)
  have K6w14 := Aside0.mk (blk_below K6w13.out hb)
  have Bw14 := Aside0.mk (below_step Bw13.out hb)
  have Mw14 := Aside0.mk (Rd.below Mw13.out hb)
  have Qw14 := Aside0.mk (Rd.below Qw13.out hb)
  have Ow14 := Aside0.mk (Rw.below Ow13.out hb)
  have K11w14 := Aside0.mk (blk_below K11w13.out hb)
  have Pw14 := Aside0.mk (Rw.below Pw13.out hb)
  have K12w14 := Aside0.mk (blk_below K12w13.out hb)
  have Ew14 := Aside0.mk (Rw.below Ew13.out hb)
  have K14w14 := Aside0.mk (blk_below K14w13.out hb)
  clear K5w13 K6w13 Bw13 Mw13 Qw13 Ow13 K11w13 Pw13 K12w13 Ew13 K14w13 hb
  refine hK.out _ _ ⟨(blk_cell K5w14.out 0).trans rfl, (blk_cell K5w14.out 1).trans rfl, (blk_cell K5w14.out 2).trans rfl, (blk_cell K5w14.out 3).trans rfl, (blk_cell K6w14.out 0).trans rfl, (blk_cell K6w14.out 1).trans rfl, (blk_cell K6w14.out 2).trans rfl, (blk_cell K6w14.out 3).trans rfl, (blk_cell K11w14.out 0).trans rfl, (blk_cell K11w14.out 1).trans rfl, (blk_cell K11w14.out 2).trans rfl, (blk_cell K11w14.out 3).trans rfl⟩ (fun hHeld => ?_)
  clear hK K
  refine pure_ (i := 11) (N := some 64) (v := ?_) (a' := ?_) #[true, true, true, true, true, true, true, true, true, true, true, true, false, false, false, false, false, false, false] rfl rfl (by kernel_rfl) (fun _ _ _ h => h) (Or.inl ⟨by rfl, ?_⟩) ?_ ?_
  rotate_left
  · intro w'
    go_simp
    with_reducible rfl
  rotate_left
  · simp only [Act.put, List.setIfInBounds_toArray, List.set_cons_zero, List.set_cons_succ]
    rfl
  refine pure_ (i := 12) (N := some 65) (v := ?_) (a' := ?_) #[true, true, true, true, true, true, true, true, true, true, true, true, true, false, false, false, false, false, false] rfl rfl (by kernel_rfl) (fun _ _ _ h => h) (Or.inl ⟨by rfl, ?_⟩) ?_ ?_
  rotate_left
  · intro w'
    go_simp
    with_reducible rfl
  rotate_left
  · simp only [Act.put, List.setIfInBounds_toArray, List.set_cons_zero, List.set_cons_succ]
    rfl
  refine pure_ (i := 13) (N := some 66) (v := ?_) (a' := ?_) #[true, true, true, true, true, true, true, true, true, true, true, true, true, true, false, false, false, false, false] rfl rfl (by kernel_rfl) (fun _ _ _ h => h) (Or.inl ⟨by rfl, ?_⟩) ?_ ?_
  rotate_left
  · intro w'
    go_simp
    with_reducible rfl
  rotate_left
  · simp only [Act.put, List.setIfInBounds_toArray, List.set_cons_zero, List.set_cons_succ]
    rfl
  refine pure_ (i := 14) (N := some 67) (v := ?_) (a' := ?_) #[true, true, true, true, true, true, true, true, true, true, true, true, true, true, true, false, false, false, false] rfl rfl (by kernel_rfl) (fun _ _ _ h => h) (Or.inl ⟨by rfl, ?_⟩) ?_ ?_
  rotate_left
  · intro w'
    go_simp
    with_reducible rfl
  rotate_left
  · simp only [Act.put, List.setIfInBounds_toArray, List.set_cons_zero, List.set_cons_succ]
    rfl
  refine pure_ (i := 15) (N := some 68) (v := ?_) (a' := ?_) #[true, true, true, true, true, true, true, true, true, true, true, true, true, true, true, true, false, false, false] rfl rfl (by kernel_rfl) (fun _ _ _ h => h) (Or.inl ⟨by rfl, ?_⟩) ?_ ?_
  rotate_left
  · intro w'
    go_simp
    with_reducible rfl
  rotate_left
  · simp only [Act.put, List.setIfInBounds_toArray, List.set_cons_zero, List.set_cons_succ]
    rfl
  refine pure_ (i := 16) (N := some 69) (v := ?_) (a' := ?_) #[true, true, true, true, true, true, true, true, true, true, true, true, true, true, true, true, true, false, false] rfl rfl (by kernel_rfl) (fun _ _ _ h => h) (Or.inl ⟨by rfl, ?_⟩) ?_ ?_
  rotate_left
  · intro w'
    go_simp
    with_reducible rfl
  rotate_left
  · simp only [Act.put, List.setIfInBounds_toArray, List.set_cons_zero, List.set_cons_succ]
    rfl
  refine pure_ (i := 17) (N := some 70) (v := ?_) (a' := ?_) #[true, true, true, true, true, true, true, true, true, true, true, true, true, true, true, true, true, true, false] rfl rfl (by kernel_rfl) (fun _ _ _ h => h) (Or.inl ⟨by rfl, ?_⟩) ?_ ?_
  rotate_left
  · intro w'
    go_simp
    with_reducible rfl
  rotate_left
  · simp only [Act.put, List.setIfInBounds_toArray, List.set_cons_zero, List.set_cons_succ]
    rfl
  refine pure_ (i := 18) (N := some 71) (v := ?_) (a' := ?_) #[true, true, true, true, true, true, true, true, true, true, true, true, true, true, true, true, true, true, true] rfl rfl (by kernel_rfl) (fun _ _ _ h => h) (Or.inl ⟨by rfl, ?_⟩) ?_ ?_
  rotate_left
  · intro w'
    go_simp
    with_reducible rfl
  rotate_left
  · simp only [Act.put, List.setIfInBounds_toArray, List.set_cons_zero, List.set_cons_succ]
    rfl
  refine done_ (by kernel_rfl) ?_
  have xelt := blk_lt K14w14.out
  have xe0 := (blk_cell K14w14.out 0).trans (show _ = some (Value.int .i64 0) from rfl)
  have xe1 := (blk_cell K14w14.out 1).trans (show _ = some (Value.slice E1 0 e1) from rfl)
  have xe2 := (blk_cell K14w14.out 2).trans (show _ = some (Value.slice E2 0 e2) from rfl)
  have xe3 := (blk_cell K14w14.out 3).trans (show _ = some (Value.slice E3 0 e3) from rfl)
  go_wp2_with fail
  clear xelt xe0 xe1 xe2 xe3
  refine (same11_refl 0 Ew14.out.rd (Rd.zero _) (by omega) (by omega) (by omega)).mono ?_
  rintro e w15 ⟨rfl, hb⟩
  have K5w15 := Aside0.mk (blk_below K5w14.out hb)
  have K6w15 := Aside0.mk (blk_below K6w14.out hb)
  have Bw15 := Aside0.mk (below_step Bw14.out hb)
  have Mw15 := Aside0.mk (Rd.below Mw14.out hb)
  have Qw15 := Aside0.mk (Rd.below Qw14.out hb)
  have Ow15 := Aside0.mk (Rw.below Ow14.out hb)
  have K11w15 := Aside0.mk (blk_below K11w14.out hb)
  have Pw15 := Aside0.mk (Rw.below Pw14.out hb)
  have K12w15 := Aside0.mk (blk_below K12w14.out hb)
  have Ew15 := Aside0.mk (Rw.below Ew14.out hb)
  have K14w15 := Aside0.mk (blk_below K14w14.out hb)
  clear K5w14 K6w14 Bw14 Mw14 Qw14 Ow14 K11w14 Pw14 K12w14 Ew14 K14w14 hb
  have HSB := span_bad HS.out
  have xplt := blk_lt K12w15.out
  have xp0 := (blk_cell K12w15.out 0).trans (show _ = some (Value.int .i64 0) from rfl)
  have xp1 := (blk_cell K12w15.out 1).trans (show _ = some (Value.slice P1 0 p1) from rfl)
  have xp2 := (blk_cell K12w15.out 2).trans (show _ = some (Value.slice P2 0 p2) from rfl)
  have xp3 := (blk_cell K12w15.out 3).trans (show _ = some (Value.slice P3 0 p3) from rfl)
  rcases HSB with hv1 | ⟨hv1, hv2⟩ | ⟨hv1, hv2, hv3⟩
  all_goals
    go_wp2_with fail
    clear xplt xp0 xp1 xp2 xp3
    refine (same11_refl 0 Pw15.out.rd (Rd.zero _) (by omega) (by omega) (by omega)).mono ?_
    rintro e w16 ⟨rfl, hb⟩
    have K5w16 := Aside0.mk (blk_below K5w15.out hb)
    have K6w16 := Aside0.mk (blk_below K6w15.out hb)
    have Bw16 := Aside0.mk (below_step Bw15.out hb)
    have Mw16 := Aside0.mk (Rd.below Mw15.out hb)
    have Qw16 := Aside0.mk (Rd.below Qw15.out hb)
    have Ow16 := Aside0.mk (Rw.below Ow15.out hb)
    have K11w16 := Aside0.mk (blk_below K11w15.out hb)
    have Pw16 := Aside0.mk (Rw.below Pw15.out hb)
    have K12w16 := Aside0.mk (blk_below K12w15.out hb)
    have Ew16 := Aside0.mk (Rw.below Ew15.out hb)
    have K14w16 := Aside0.mk (blk_below K14w15.out hb)
    clear K5w15 K6w15 Bw15 Mw15 Qw15 Ow15 K11w15 Pw15 K12w15 Ew15 K14w15 hb
    go_wp2
    go_ret
    exact ⟨rfl, Bw16.out⟩

set_option maxRecDepth 100000 in
set_option maxHeartbeats 4000000 in
theorem law_none_ok (m0 q0 f t n : Int) (l1 k1 : List ByteArray) (l2 k2 : List Int) (l3 k3 : List S38) (A1 : Option Addr) (n1 c1 : Nat) (A2 : Option Addr) (n2 c2 : Nat) (A3 : Option Addr) (c3 : Nat)
    (Q1 : Option Addr) (j1 g1 : Nat) (Q2 : Option Addr) (j2 g2 : Nat) (Q3 : Option Addr) (j3 g3 : Nat) (w : World) (hm : Rd w l1 l2 l3 A1 n1 c1 A2 n2 c2 A3 0 c3) (hq : Rd w k1 k2 k3 Q1 j1 g1 Q2 j2 g2 Q3 j3 g3)
    (hgm : pleacherlaw25_Great.f 400 m0 l1 l2 l3 = some false) (hgq : pleacherlaw25_Great.f 400 q0 k1 k2 k3 = some false) (b1 : n1 ≤ 60) (b2 : n2 ≤ 60) (b3 : 0 ≤ 60) (hs : spanB f t n = true) (hf : 0 < 32) :
    Calls Try.prog 3 #[.agg #[.int .i64 m0, .slice A1 n1 c1, .slice A2 n2 c2, .slice A3 0 c3], .agg #[.int .i64 q0, .slice Q1 j1 g1, .slice Q2 j2 g2, .slice Q3 j3 g3], .int .i64 f, .int .i64 t, .int .i64 n] w fun e w' => e = .returned (.bool true) ∧ Below w.heap.size w w' := by
  have HGm := Aside0.mk hgm
  have HGq := Aside0.mk hgq
  have HS := Aside0.mk hs
  have HB1 := Aside0.mk b1
  have HB2 := Aside0.mk b2
  have HB3 := Aside0.mk b3
  clear hgm hgq hs b1 b2 b3
  have HF := Aside0.mk hf
  clear hf
  have hu26 := Try.underlying26
  have hu38 := Try.underlying38
  have HM := Aside0.mk hm
  have HQ := Aside0.mk hq
  clear hm hq
  go_enter Try.func3, Try.ntmps3
  go_wp2_with fail
  obtain ⟨y1, y2, y3⟩ := alloc2 w (.cells #[.int .i64 m0, .slice A1 n1 c1, .slice A2 n2 c2, .slice A3 0 c3] 26 (0, 0)) (.cells #[.int .i64 q0, .slice Q1 j1 g1, .slice Q2 j2 g2, .slice Q3 j3 g3] 26 (0, 0))
  generalize (w.alloc (.cells #[.int .i64 m0, .slice A1 n1 c1, .slice A2 n2 c2, .slice A3 0 c3] 26)).alloc (.cells #[.int .i64 q0, .slice Q1 j1 g1, .slice Q2 j2 g2, .slice Q3 j3 g3] 26) = w0 at y1 y2 y3 ⊢
  have K5w0 := Aside0.mk (y1)
  have K6w0 := Aside0.mk (y2)
  have Bw0 := Aside0.mk (y3)
  have Mw0 := Aside0.mk (HM.out.below y3)
  have Qw0 := Aside0.mk (HQ.out.below y3)
  clear y1 y2 y3
  refine (alive_true w0).mono ?_
  rintro e w1 ⟨rfl, hb⟩
  have K5w1 := Aside0.mk (blk_below K5w0.out hb)
  have K6w1 := Aside0.mk (blk_below K6w0.out hb)
  have Bw1 := Aside0.mk (below_step Bw0.out hb)
  have Mw1 := Aside0.mk (Rd.below Mw0.out hb)
  have Qw1 := Aside0.mk (Rd.below Qw0.out hb)
  clear K5w0 K6w0 Bw0 Mw0 Qw0 hb
  have xlt := blk_lt K5w1.out
  have x0 := (blk_cell K5w1.out 0).trans (show _ = some (Value.int .i64 m0) from rfl)
  have x1 := (blk_cell K5w1.out 1).trans (show _ = some (Value.slice A1 n1 c1) from rfl)
  have x2 := (blk_cell K5w1.out 2).trans (show _ = some (Value.slice A2 n2 c2) from rfl)
  have x3 := (blk_cell K5w1.out 3).trans (show _ = some (Value.slice A3 0 c3) from rfl)
  go_wp2_with fail
  clear xlt x0 x1 x2 x3
  refine (great5 m0 Mw1.out false HGm.out).mono ?_
  rintro e w2 ⟨rfl, hb⟩
  have K5w2 := Aside0.mk (blk_below K5w1.out hb)
  have K6w2 := Aside0.mk (blk_below K6w1.out hb)
  have Bw2 := Aside0.mk (below_step Bw1.out hb)
  have Mw2 := Aside0.mk (Rd.below Mw1.out hb)
  have Qw2 := Aside0.mk (Rd.below Qw1.out hb)
  clear K5w1 K6w1 Bw1 Mw1 Qw1 hb
  have xlt := blk_lt K6w2.out
  have x0 := (blk_cell K6w2.out 0).trans (show _ = some (Value.int .i64 q0) from rfl)
  have x1 := (blk_cell K6w2.out 1).trans (show _ = some (Value.slice Q1 j1 g1) from rfl)
  have x2 := (blk_cell K6w2.out 2).trans (show _ = some (Value.slice Q2 j2 g2) from rfl)
  have x3 := (blk_cell K6w2.out 3).trans (show _ = some (Value.slice Q3 j3 g3) from rfl)
  go_wp2_with fail
  clear xlt x0 x1 x2 x3
  refine (great5 q0 Qw2.out false HGq.out).mono ?_
  rintro e w3 ⟨rfl, hb⟩
  have K5w3 := Aside0.mk (blk_below K5w2.out hb)
  have K6w3 := Aside0.mk (blk_below K6w2.out hb)
  have Bw3 := Aside0.mk (below_step Bw2.out hb)
  have Mw3 := Aside0.mk (Rd.below Mw2.out hb)
  have Qw3 := Aside0.mk (Rd.below Qw2.out hb)
  clear K5w2 K6w2 Bw2 Mw2 Qw2 hb
  have xlt := blk_lt K5w3.out
  have x0 := (blk_cell K5w3.out 0).trans (show _ = some (Value.int .i64 m0) from rfl)
  have x1 := (blk_cell K5w3.out 1).trans (show _ = some (Value.slice A1 n1 c1) from rfl)
  have x2 := (blk_cell K5w3.out 2).trans (show _ = some (Value.slice A2 n2 c2) from rfl)
  have x3 := (blk_cell K5w3.out 3).trans (show _ = some (Value.slice A3 0 c3) from rfl)
  go_wp2_with fail
  clear xlt x0 x1 x2 x3
  refine (copy6 m0 Mw3.out (by have := HB1.out; omega) (by have := HB2.out; omega) (by have := HB3.out; omega)).mono ?_
  rintro e w4 ⟨O1, o1, O2, o2, O3, o3, rfl, hr, hb⟩
  have hge : w.heap.size ≤ w3.heap.size := Bw3.out.size
  have K5w4 := Aside0.mk (blk_below K5w3.out hb)
  have K6w4 := Aside0.mk (blk_below K6w3.out hb)
  have Bw4 := Aside0.mk (below_step Bw3.out hb)
  have Mw4 := Aside0.mk (Rd.below Mw3.out hb)
  have Qw4 := Aside0.mk (Rd.below Qw3.out hb)
  clear K5w3 K6w3 Bw3 Mw3 Qw3 hb
  have Ow4 := Aside0.mk (hr.lower hge)
  clear hr hge
  have xlt := blk_lt K5w4.out
  have x0 := (blk_cell K5w4.out 0).trans (show _ = some (Value.int .i64 m0) from rfl)
  have x1 := (blk_cell K5w4.out 1).trans (show _ = some (Value.slice A1 n1 c1) from rfl)
  have x2 := (blk_cell K5w4.out 2).trans (show _ = some (Value.slice A2 n2 c2) from rfl)
  have x3 := (blk_cell K5w4.out 3).trans (show _ = some (Value.slice A3 0 c3) from rfl)
  go_wp2_with fail
  clear xlt x0 x1 x2 x3
  have hnew := blk_new w4 (.cells #[.int .i64 m0, .slice O1 n1 o1, .slice O2 n2 o2, .slice O3 0 o3] 26 (0, 0))
  have hb : Below w4.heap.size w4 (w4.alloc (.cells #[.int .i64 m0, .slice O1 n1 o1, .slice O2 n2 o2, .slice O3 0 o3] 26)) := below_alloc (Below.refl _ _) _
  have hge : w.heap.size ≤ w4.heap.size := Bw4.out.size
  generalize w4.alloc (.cells #[.int .i64 m0, .slice O1 n1 o1, .slice O2 n2 o2, .slice O3 0 o3] 26) = w5 at hnew hb ⊢
  have K5w5 := Aside0.mk (blk_below K5w4.out hb)
  have K6w5 := Aside0.mk (blk_below K6w4.out hb)
  have Bw5 := Aside0.mk (below_step Bw4.out hb)
  have Mw5 := Aside0.mk (Rd.below Mw4.out hb)
  have Qw5 := Aside0.mk (Rd.below Qw4.out hb)
  have Ow5 := Aside0.mk (Rw.below Ow4.out hb)
  clear K5w4 K6w4 Bw4 Mw4 Qw4 Ow4 hb
  generalize w4.heap.size = K11b at hnew hge  ⊢
  have K11w5 := Aside0.mk (hnew)
  clear hnew
  have K11ge := Aside0.mk hge
  clear hge
  refine (push7_ok m0 Mw5.out f t n HS.out HF.out (by have := HB1.out; omega) (by have := HB2.out; omega)).mono ?_
  rintro e w6 ⟨P1, p1, P2, p2, P3, p3, rfl, hr, hb⟩
  have NEO := Aside0.mk (show ∀ k, (Value.slice O3 0 o3).ownBlock = some k → k < w5.heap.size from Kd.R_lt Ow5.out.r3)
  have K5w6 := Aside0.mk (blk_below K5w5.out hb)
  have K6w6 := Aside0.mk (blk_below K6w5.out hb)
  have Bw6 := Aside0.mk (below_step Bw5.out hb)
  have Mw6 := Aside0.mk (Rd.below Mw5.out hb)
  have Qw6 := Aside0.mk (Rd.below Qw5.out hb)
  have Ow6 := Aside0.mk (Rw.below Ow5.out hb)
  have K11w6 := Aside0.mk (blk_below K11w5.out hb)
  clear K5w5 K6w5 Bw5 Mw5 Qw5 Ow5 K11w5 hb
  have Pw6 := Aside0.mk (hr)
  clear hr
  have xlt := blk_lt K5w6.out
  have x0 := (blk_cell K5w6.out 0).trans (show _ = some (Value.int .i64 m0) from rfl)
  have x1 := (blk_cell K5w6.out 1).trans (show _ = some (Value.slice A1 n1 c1) from rfl)
  have x2 := (blk_cell K5w6.out 2).trans (show _ = some (Value.slice A2 n2 c2) from rfl)
  have x3 := (blk_cell K5w6.out 3).trans (show _ = some (Value.slice A3 0 c3) from rfl)
  go_wp2_with fail
  clear xlt x0 x1 x2 x3
  have hl11 := blk_lt K11w6.out
  have hnew := blk_new w6 (.cells #[.int .i64 m0, .slice P1 n1 p1, .slice P2 n2 p2, .slice P3 1 p3] 26 (0, 0))
  have hb : Below w6.heap.size w6 (w6.alloc (.cells #[.int .i64 m0, .slice P1 n1 p1, .slice P2 n2 p2, .slice P3 1 p3] 26)) := below_alloc (Below.refl _ _) _
  have hge : w.heap.size ≤ w6.heap.size := Bw6.out.size
  generalize w6.alloc (.cells #[.int .i64 m0, .slice P1 n1 p1, .slice P2 n2 p2, .slice P3 1 p3] 26) = w7 at hnew hb ⊢
  have K5w7 := Aside0.mk (blk_below K5w6.out hb)
  have K6w7 := Aside0.mk (blk_below K6w6.out hb)
  have Bw7 := Aside0.mk (below_step Bw6.out hb)
  have Mw7 := Aside0.mk (Rd.below Mw6.out hb)
  have Qw7 := Aside0.mk (Rd.below Qw6.out hb)
  have Ow7 := Aside0.mk (Rw.below Ow6.out hb)
  have K11w7 := Aside0.mk (blk_below K11w6.out hb)
  have Pw7 := Aside0.mk (Rw.below Pw6.out hb)
  clear K5w6 K6w6 Bw6 Mw6 Qw6 Ow6 K11w6 Pw6 hb
  generalize w6.heap.size = K12b at hnew hge hl11 ⊢
  have K12w7 := Aside0.mk (hnew)
  clear hnew
  have K12ge := Aside0.mk hge
  clear hge
  have NEK := Aside0.mk (show K12b ≠ K11b from by omega)
  clear hl11
  refine (pop8_none m0 Mw7.out rfl).mono ?_
  rintro e w8 ⟨E1, e1, E2, e2, E3, e3, rfl, hr, hb⟩
  have hge : w.heap.size ≤ w7.heap.size := Bw7.out.size
  have K5w8 := Aside0.mk (blk_below K5w7.out hb)
  have K6w8 := Aside0.mk (blk_below K6w7.out hb)
  have Bw8 := Aside0.mk (below_step Bw7.out hb)
  have Mw8 := Aside0.mk (Rd.below Mw7.out hb)
  have Qw8 := Aside0.mk (Rd.below Qw7.out hb)
  have Ow8 := Aside0.mk (Rw.below Ow7.out hb)
  have K11w8 := Aside0.mk (blk_below K11w7.out hb)
  have Pw8 := Aside0.mk (Rw.below Pw7.out hb)
  have K12w8 := Aside0.mk (blk_below K12w7.out hb)
  clear K5w7 K6w7 Bw7 Mw7 Qw7 Ow7 K11w7 Pw7 K12w7 hb
  have Ew8 := Aside0.mk (hr.lower hge)
  clear hr hge
  have xlt := blk_lt K5w8.out
  have x0 := (blk_cell K5w8.out 0).trans (show _ = some (Value.int .i64 m0) from rfl)
  have x1 := (blk_cell K5w8.out 1).trans (show _ = some (Value.slice A1 n1 c1) from rfl)
  have x2 := (blk_cell K5w8.out 2).trans (show _ = some (Value.slice A2 n2 c2) from rfl)
  have x3 := (blk_cell K5w8.out 3).trans (show _ = some (Value.slice A3 0 c3) from rfl)
  go_wp2_with fail
  clear xlt x0 x1 x2 x3
  have hnew := blk_new w8 (.cells #[.int .i64 0, .slice E1 0 e1, .slice E2 0 e2, .slice E3 0 e3] 26 (0, 0))
  have hb : Below w8.heap.size w8 (w8.alloc (.cells #[.int .i64 0, .slice E1 0 e1, .slice E2 0 e2, .slice E3 0 e3] 26)) := below_alloc (Below.refl _ _) _
  have hge : w.heap.size ≤ w8.heap.size := Bw8.out.size
  generalize w8.alloc (.cells #[.int .i64 0, .slice E1 0 e1, .slice E2 0 e2, .slice E3 0 e3] 26) = w9 at hnew hb ⊢
  have K5w9 := Aside0.mk (blk_below K5w8.out hb)
  have K6w9 := Aside0.mk (blk_below K6w8.out hb)
  have Bw9 := Aside0.mk (below_step Bw8.out hb)
  have Mw9 := Aside0.mk (Rd.below Mw8.out hb)
  have Qw9 := Aside0.mk (Rd.below Qw8.out hb)
  have Ow9 := Aside0.mk (Rw.below Ow8.out hb)
  have K11w9 := Aside0.mk (blk_below K11w8.out hb)
  have Pw9 := Aside0.mk (Rw.below Pw8.out hb)
  have K12w9 := Aside0.mk (blk_below K12w8.out hb)
  have Ew9 := Aside0.mk (Rw.below Ew8.out hb)
  clear K5w8 K6w8 Bw8 Mw8 Qw8 Ow8 K11w8 Pw8 K12w8 Ew8 hb
  generalize w8.heap.size = K14b at hnew hge  ⊢
  have K14w9 := Aside0.mk (hnew)
  clear hnew
  have K14ge := Aside0.mk hge
  clear hge
  refine (top9 m0 Mw9.out 0 0 false (top_none m0 l1 l2 l3 Mw9.out.e3)).mono ?_
  rintro e w10 ⟨rfl, hb⟩
  have K5w10 := Aside0.mk (blk_below K5w9.out hb)
  have K6w10 := Aside0.mk (blk_below K6w9.out hb)
  have Bw10 := Aside0.mk (below_step Bw9.out hb)
  have Mw10 := Aside0.mk (Rd.below Mw9.out hb)
  have Qw10 := Aside0.mk (Rd.below Qw9.out hb)
  have Ow10 := Aside0.mk (Rw.below Ow9.out hb)
  have K11w10 := Aside0.mk (blk_below K11w9.out hb)
  have Pw10 := Aside0.mk (Rw.below Pw9.out hb)
  have K12w10 := Aside0.mk (blk_below K12w9.out hb)
  have Ew10 := Aside0.mk (Rw.below Ew9.out hb)
  have K14w10 := Aside0.mk (blk_below K14w9.out hb)
  clear K5w9 K6w9 Bw9 Mw9 Qw9 Ow9 K11w9 Pw9 K12w9 Ew9 K14w9 hb
  have xlt := blk_lt K5w10.out
  have x0 := (blk_cell K5w10.out 0).trans (show _ = some (Value.int .i64 m0) from rfl)
  have x1 := (blk_cell K5w10.out 1).trans (show _ = some (Value.slice A1 n1 c1) from rfl)
  have x2 := (blk_cell K5w10.out 2).trans (show _ = some (Value.slice A2 n2 c2) from rfl)
  have x3 := (blk_cell K5w10.out 3).trans (show _ = some (Value.slice A3 0 c3) from rfl)
  have xqlt := blk_lt K6w10.out
  have xq0 := (blk_cell K6w10.out 0).trans (show _ = some (Value.int .i64 q0) from rfl)
  have xq1 := (blk_cell K6w10.out 1).trans (show _ = some (Value.slice Q1 j1 g1) from rfl)
  have xq2 := (blk_cell K6w10.out 2).trans (show _ = some (Value.slice Q2 j2 g2) from rfl)
  have xq3 := (blk_cell K6w10.out 3).trans (show _ = some (Value.slice Q3 j3 g3) from rfl)
  have xolt := blk_lt K11w10.out
  have xo0 := (blk_cell K11w10.out 0).trans (show _ = some (Value.int .i64 m0) from rfl)
  have xo1 := (blk_cell K11w10.out 1).trans (show _ = some (Value.slice O1 n1 o1) from rfl)
  have xo2 := (blk_cell K11w10.out 2).trans (show _ = some (Value.slice O2 n2 o2) from rfl)
  have xo3 := (blk_cell K11w10.out 3).trans (show _ = some (Value.slice O3 0 o3) from rfl)
  go_wp2_with fail
  clear xlt x0 x1 x2 x3 xqlt xq0 xq1 xq2 xq3 xolt xo0 xo1 xo2 xo3
  refine start_ (n := 19) (S := fun w' => w'.cell? ⟨w.heap.size, 0, none⟩ = some (.int .i64 m0) ∧ w'.cell? ⟨w.heap.size, 1, none⟩ = some (.slice A1 n1 c1) ∧ w'.cell? ⟨w.heap.size, 2, none⟩ = some (.slice A2 n2 c2) ∧ w'.cell? ⟨w.heap.size, 3, none⟩ = some (.slice A3 0 c3) ∧ w'.cell? ⟨w.heap.size + 1, 0, none⟩ = some (.int .i64 q0) ∧ w'.cell? ⟨w.heap.size + 1, 1, none⟩ = some (.slice Q1 j1 g1) ∧ w'.cell? ⟨w.heap.size + 1, 2, none⟩ = some (.slice Q2 j2 g2) ∧ w'.cell? ⟨w.heap.size + 1, 3, none⟩ = some (.slice Q3 j3 g3) ∧ w'.cell? ⟨K11b, 0, none⟩ = some (.int .i64 m0) ∧ w'.cell? ⟨K11b, 1, none⟩ = some (.slice O1 n1 o1) ∧ w'.cell? ⟨K11b, 2, none⟩ = some (.slice O2 n2 o2) ∧ w'.cell? ⟨K11b, 3, none⟩ = some (.slice O3 0 o3)) (ds := []) #[false, false, false, false, false, false, false, false, false, false, false, false, false, false, false, false, false, false, false] (by kernel_rfl) rfl rfl ⟨(blk_cell K5w10.out 0).trans rfl, (blk_cell K5w10.out 1).trans rfl, (blk_cell K5w10.out 2).trans rfl, (blk_cell K5w10.out 3).trans rfl, (blk_cell K6w10.out 0).trans rfl, (blk_cell K6w10.out 1).trans rfl, (blk_cell K6w10.out 2).trans rfl, (blk_cell K6w10.out 3).trans rfl, (blk_cell K11w10.out 0).trans rfl, (blk_cell K11w10.out 1).trans rfl, (blk_cell K11w10.out 2).trans rfl, (blk_cell K11w10.out 3).trans rfl⟩ (fun hHeld => ?_)
  have hb : Below w10.heap.size w10 w10.drew := below_drew (Below.refl _ _)
  generalize w10.drew = w11 at hb hHeld ⊢
  have K5w11 := Aside0.mk (blk_below K5w10.out hb)
  have K6w11 := Aside0.mk (blk_below K6w10.out hb)
  have Bw11 := Aside0.mk (below_step Bw10.out hb)
  have Mw11 := Aside0.mk (Rd.below Mw10.out hb)
  have Qw11 := Aside0.mk (Rd.below Qw10.out hb)
  have Ow11 := Aside0.mk (Rw.below Ow10.out hb)
  have K11w11 := Aside0.mk (blk_below K11w10.out hb)
  have Pw11 := Aside0.mk (Rw.below Pw10.out hb)
  have K12w11 := Aside0.mk (blk_below K12w10.out hb)
  have Ew11 := Aside0.mk (Rw.below Ew10.out hb)
  have K14w11 := Aside0.mk (blk_below K14w10.out hb)
  clear K5w10 K6w10 Bw10 Mw10 Qw10 Ow10 K11w10 Pw10 K12w10 Ew10 K14w10 hb
  refine take_ (i := 0) (N := some 53) (v := ?_) (a' := ?_) #[true, false, false, false, false, false, false, false, false, false, false, false, false, false, false, false, false, false, false] rfl rfl (by kernel_rfl) (fun _ _ _ h => h) (Or.inl ⟨by rfl, ?_⟩) hHeld ?_ ?_
  rotate_left
  · rintro w' ⟨s0, s1, s2, s3, s4, s5, s6, s7, s8, s9, s10, s11⟩
    go_simp
    with_reducible rfl
  rotate_left
  · simp only [Act.put, List.setIfInBounds_toArray, List.set_cons_zero, List.set_cons_succ]
    rfl
  refine take_ (i := 1) (N := some 54) (v := ?_) (a' := ?_) #[true, true, false, false, false, false, false, false, false, false, false, false, false, false, false, false, false, false, false] rfl rfl (by kernel_rfl) (fun _ _ _ h => h) (Or.inl ⟨by rfl, ?_⟩) hHeld ?_ ?_
  rotate_left
  · rintro w' ⟨s0, s1, s2, s3, s4, s5, s6, s7, s8, s9, s10, s11⟩
    go_simp
    with_reducible rfl
  rotate_left
  · simp only [Act.put, List.setIfInBounds_toArray, List.set_cons_zero, List.set_cons_succ]
    rfl
  refine take_ (i := 3) (N := some 56) (v := ?_) (a' := ?_) #[true, true, false, true, false, false, false, false, false, false, false, false, false, false, false, false, false, false, false] rfl rfl (by kernel_rfl) (fun _ _ _ h => h) (Or.inl ⟨by rfl, ?_⟩) hHeld ?_ ?_
  rotate_left
  · rintro w' ⟨s0, s1, s2, s3, s4, s5, s6, s7, s8, s9, s10, s11⟩
    go_simp
    with_reducible rfl
  rotate_left
  · simp only [Act.put, List.setIfInBounds_toArray, List.set_cons_zero, List.set_cons_succ]
    rfl
  refine take_ (i := 4) (N := some 57) (v := ?_) (a' := ?_) #[true, true, false, true, true, false, false, false, false, false, false, false, false, false, false, false, false, false, false] rfl rfl (by kernel_rfl) (fun _ _ _ h => h) (Or.inl ⟨by rfl, ?_⟩) hHeld ?_ ?_
  rotate_left
  · rintro w' ⟨s0, s1, s2, s3, s4, s5, s6, s7, s8, s9, s10, s11⟩
    go_simp
    with_reducible rfl
  rotate_left
  · simp only [Act.put, List.setIfInBounds_toArray, List.set_cons_zero, List.set_cons_succ]
    rfl
  refine one_ (i := 2) (N := some 55) #[true, true, true, true, true, false, false, false, false, false, false, false, false, false, false, false, false, false, false] rfl rfl (by kernel_rfl) (by decide) (fun K hK => ?_)
  refine goes_ Try.func10 (by kernel_rfl) rfl #[.agg #[.int .i64 m0, .slice A1 n1 c1, .slice A2 n2 c2, .slice A3 0 c3], .agg #[.int .i64 q0, .slice Q1 j1 g1, .slice Q2 j2 g2, .slice Q3 j3 g3]] (by rfl) rfl rfl (by simp only [List.map_toArray, List.map_cons, List.map_nil]; rfl) ?_
  refine (same10 m0 q0 Mw11.out Qw11.out (by have := HB1.out; omega) (by have := HB2.out; omega) (by have := HB3.out; omega)).mono ?_
  rintro e w12 ⟨rfl, hb⟩
  refine ⟨_, rfl, ?_⟩
  have K5w12 := Aside0.mk (blk_below K5w11.out hb)
  have K6w12 := Aside0.mk (blk_below K6w11.out hb)
  have Bw12 := Aside0.mk (below_step Bw11.out hb)
  have Mw12 := Aside0.mk (Rd.below Mw11.out hb)
  have Qw12 := Aside0.mk (Rd.below Qw11.out hb)
  have Ow12 := Aside0.mk (Rw.below Ow11.out hb)
  have K11w12 := Aside0.mk (blk_below K11w11.out hb)
  have Pw12 := Aside0.mk (Rw.below Pw11.out hb)
  have K12w12 := Aside0.mk (blk_below K12w11.out hb)
  have Ew12 := Aside0.mk (Rw.below Ew11.out hb)
  have K14w12 := Aside0.mk (blk_below K14w11.out hb)
  clear K5w11 K6w11 Bw11 Mw11 Qw11 Ow11 K11w11 Pw11 K12w11 Ew11 K14w11 hb
  refine hK.out _ _ ⟨(blk_cell K5w12.out 0).trans rfl, (blk_cell K5w12.out 1).trans rfl, (blk_cell K5w12.out 2).trans rfl, (blk_cell K5w12.out 3).trans rfl, (blk_cell K6w12.out 0).trans rfl, (blk_cell K6w12.out 1).trans rfl, (blk_cell K6w12.out 2).trans rfl, (blk_cell K6w12.out 3).trans rfl, (blk_cell K11w12.out 0).trans rfl, (blk_cell K11w12.out 1).trans rfl, (blk_cell K11w12.out 2).trans rfl, (blk_cell K11w12.out 3).trans rfl⟩ (fun hHeld => ?_)
  clear hK K
  refine one_ (i := 5) (N := some 58) #[true, true, true, true, true, true, false, false, false, false, false, false, false, false, false, false, false, false, false] rfl rfl (by kernel_rfl) (by decide) (fun K hK => ?_)
  refine goes_ Try.func11 (by kernel_rfl) rfl #[.agg #[.int .i64 m0, .slice A1 n1 c1, .slice A2 n2 c2, .slice A3 0 c3], .agg #[.int .i64 q0, .slice Q1 j1 g1, .slice Q2 j2 g2, .slice Q3 j3 g3]] (by rfl) rfl rfl (by simp only [List.map_toArray, List.map_cons, List.map_nil]; rfl) ?_
  refine (same11 m0 q0 Mw12.out Qw12.out (by have := HB1.out; omega) (by have := HB2.out; omega) (by have := HB3.out; omega)).mono ?_
  rintro e w13 ⟨rfl, hb⟩
  refine ⟨_, rfl, ?_⟩
  have K5w13 := Aside0.mk (blk_below K5w12.out hb)
  have K6w13 := Aside0.mk (blk_below K6w12.out hb)
  have Bw13 := Aside0.mk (below_step Bw12.out hb)
  have Mw13 := Aside0.mk (Rd.below Mw12.out hb)
  have Qw13 := Aside0.mk (Rd.below Qw12.out hb)
  have Ow13 := Aside0.mk (Rw.below Ow12.out hb)
  have K11w13 := Aside0.mk (blk_below K11w12.out hb)
  have Pw13 := Aside0.mk (Rw.below Pw12.out hb)
  have K12w13 := Aside0.mk (blk_below K12w12.out hb)
  have Ew13 := Aside0.mk (Rw.below Ew12.out hb)
  have K14w13 := Aside0.mk (blk_below K14w12.out hb)
  clear K5w12 K6w12 Bw12 Mw12 Qw12 Ow12 K11w12 Pw12 K12w12 Ew12 K14w12 hb
  refine hK.out _ _ ⟨(blk_cell K5w13.out 0).trans rfl, (blk_cell K5w13.out 1).trans rfl, (blk_cell K5w13.out 2).trans rfl, (blk_cell K5w13.out 3).trans rfl, (blk_cell K6w13.out 0).trans rfl, (blk_cell K6w13.out 1).trans rfl, (blk_cell K6w13.out 2).trans rfl, (blk_cell K6w13.out 3).trans rfl, (blk_cell K11w13.out 0).trans rfl, (blk_cell K11w13.out 1).trans rfl, (blk_cell K11w13.out 2).trans rfl, (blk_cell K11w13.out 3).trans rfl⟩ (fun hHeld => ?_)
  clear hK K
  refine pure_ (i := 6) (N := some 59) (v := ?_) (a' := ?_) #[true, true, true, true, true, true, true, false, false, false, false, false, false, false, false, false, false, false, false] rfl rfl (by kernel_rfl) (fun _ _ _ h => h) (Or.inl ⟨by rfl, ?_⟩) ?_ ?_
  rotate_left
  · intro w'
    go_simp
    with_reducible rfl
  rotate_left
  · simp only [Act.put, List.setIfInBounds_toArray, List.set_cons_zero, List.set_cons_succ]
    rfl
  refine pure_ (i := 7) (N := some 60) (v := ?_) (a' := ?_) #[true, true, true, true, true, true, true, true, false, false, false, false, false, false, false, false, false, false, false] rfl rfl (by kernel_rfl) (fun _ _ _ h => h) (Or.inl ⟨by rfl, ?_⟩) ?_ ?_
  rotate_left
  · intro w'
    go_simp
    with_reducible rfl
  rotate_left
  · simp only [Act.put, List.setIfInBounds_toArray, List.set_cons_zero, List.set_cons_succ]
    rfl
  refine take_ (i := 8) (N := some 61) (v := ?_) (a' := ?_) #[true, true, true, true, true, true, true, true, true, false, false, false, false, false, false, false, false, false, false] rfl rfl (by kernel_rfl) (fun _ _ _ h => h) (Or.inl ⟨by rfl, ?_⟩) hHeld ?_ ?_
  rotate_left
  · rintro w' ⟨s0, s1, s2, s3, s4, s5, s6, s7, s8, s9, s10, s11⟩
    go_simp
    with_reducible rfl
  rotate_left
  · simp only [Act.put, List.setIfInBounds_toArray, List.set_cons_zero, List.set_cons_succ]
    rfl
  refine take_ (i := 9) (N := some 62) (v := ?_) (a' := ?_) #[true, true, true, true, true, true, true, true, true, true, false, false, false, false, false, false, false, false, false] rfl rfl (by kernel_rfl) (fun _ _ _ h => h) (Or.inl ⟨by rfl, ?_⟩) hHeld ?_ ?_
  rotate_left
  · rintro w' ⟨s0, s1, s2, s3, s4, s5, s6, s7, s8, s9, s10, s11⟩
    go_simp
    with_reducible rfl
  rotate_left
  · simp only [Act.put, List.setIfInBounds_toArray, List.set_cons_zero, List.set_cons_succ]
    rfl
  refine one_ (i := 10) (N := some 63) #[true, true, true, true, true, true, true, true, true, true, true, false, false, false, false, false, false, false, false] rfl rfl (by kernel_rfl) (by decide) (fun K hK => ?_)
  refine goes_ Try.func10 (by kernel_rfl) rfl #[.agg #[.int .i64 m0, .slice A1 n1 c1, .slice A2 n2 c2, .slice A3 0 c3], .agg #[.int .i64 m0, .slice O1 n1 o1, .slice O2 n2 o2, .slice O3 0 o3]] (by rfl) rfl rfl (by simp only [List.map_toArray, List.map_cons, List.map_nil]; rfl) ?_
  refine (same10_refl m0 Mw13.out Ow13.out.rd (by have := HB1.out; omega) (by have := HB2.out; omega) (by have := HB3.out; omega)).mono ?_
  rintro e w14 ⟨rfl, hb⟩
  refine ⟨_, rfl, ?_⟩
  have K5w14 := Aside0.mk (blk_below K5w13.out hb)
  have K6w14 := Aside0.mk (blk_below K6w13.out hb)
  have Bw14 := Aside0.mk (below_step Bw13.out hb)
  have Mw14 := Aside0.mk (Rd.below Mw13.out hb)
  have Qw14 := Aside0.mk (Rd.below Qw13.out hb)
  have Ow14 := Aside0.mk (Rw.below Ow13.out hb)
  have K11w14 := Aside0.mk (blk_below K11w13.out hb)
  have Pw14 := Aside0.mk (Rw.below Pw13.out hb)
  have K12w14 := Aside0.mk (blk_below K12w13.out hb)
  have Ew14 := Aside0.mk (Rw.below Ew13.out hb)
  have K14w14 := Aside0.mk (blk_below K14w13.out hb)
  clear K5w13 K6w13 Bw13 Mw13 Qw13 Ow13 K11w13 Pw13 K12w13 Ew13 K14w13 hb
  refine hK.out _ _ ⟨(blk_cell K5w14.out 0).trans rfl, (blk_cell K5w14.out 1).trans rfl, (blk_cell K5w14.out 2).trans rfl, (blk_cell K5w14.out 3).trans rfl, (blk_cell K6w14.out 0).trans rfl, (blk_cell K6w14.out 1).trans rfl, (blk_cell K6w14.out 2).trans rfl, (blk_cell K6w14.out 3).trans rfl, (blk_cell K11w14.out 0).trans rfl, (blk_cell K11w14.out 1).trans rfl, (blk_cell K11w14.out 2).trans rfl, (blk_cell K11w14.out 3).trans rfl⟩ (fun hHeld => ?_)
  clear hK K
  refine pure_ (i := 11) (N := some 64) (v := ?_) (a' := ?_) #[true, true, true, true, true, true, true, true, true, true, true, true, false, false, false, false, false, false, false] rfl rfl (by kernel_rfl) (fun _ _ _ h => h) (Or.inl ⟨by rfl, ?_⟩) ?_ ?_
  rotate_left
  · intro w'
    go_simp
    with_reducible rfl
  rotate_left
  · simp only [Act.put, List.setIfInBounds_toArray, List.set_cons_zero, List.set_cons_succ]
    rfl
  refine pure_ (i := 12) (N := some 65) (v := ?_) (a' := ?_) #[true, true, true, true, true, true, true, true, true, true, true, true, true, false, false, false, false, false, false] rfl rfl (by kernel_rfl) (fun _ _ _ h => h) (Or.inl ⟨by rfl, ?_⟩) ?_ ?_
  rotate_left
  · intro w'
    go_simp
    with_reducible rfl
  rotate_left
  · simp only [Act.put, List.setIfInBounds_toArray, List.set_cons_zero, List.set_cons_succ]
    rfl
  refine pure_ (i := 13) (N := some 66) (v := ?_) (a' := ?_) #[true, true, true, true, true, true, true, true, true, true, true, true, true, true, false, false, false, false, false] rfl rfl (by kernel_rfl) (fun _ _ _ h => h) (Or.inl ⟨by rfl, ?_⟩) ?_ ?_
  rotate_left
  · intro w'
    go_simp
    with_reducible rfl
  rotate_left
  · simp only [Act.put, List.setIfInBounds_toArray, List.set_cons_zero, List.set_cons_succ]
    rfl
  refine pure_ (i := 14) (N := some 67) (v := ?_) (a' := ?_) #[true, true, true, true, true, true, true, true, true, true, true, true, true, true, true, false, false, false, false] rfl rfl (by kernel_rfl) (fun _ _ _ h => h) (Or.inl ⟨by rfl, ?_⟩) ?_ ?_
  rotate_left
  · intro w'
    go_simp
    with_reducible rfl
  rotate_left
  · simp only [Act.put, List.setIfInBounds_toArray, List.set_cons_zero, List.set_cons_succ]
    rfl
  refine pure_ (i := 15) (N := some 68) (v := ?_) (a' := ?_) #[true, true, true, true, true, true, true, true, true, true, true, true, true, true, true, true, false, false, false] rfl rfl (by kernel_rfl) (fun _ _ _ h => h) (Or.inl ⟨by rfl, ?_⟩) ?_ ?_
  rotate_left
  · intro w'
    go_simp
    with_reducible rfl
  rotate_left
  · simp only [Act.put, List.setIfInBounds_toArray, List.set_cons_zero, List.set_cons_succ]
    rfl
  refine pure_ (i := 16) (N := some 69) (v := ?_) (a' := ?_) #[true, true, true, true, true, true, true, true, true, true, true, true, true, true, true, true, true, false, false] rfl rfl (by kernel_rfl) (fun _ _ _ h => h) (Or.inl ⟨by rfl, ?_⟩) ?_ ?_
  rotate_left
  · intro w'
    go_simp
    with_reducible rfl
  rotate_left
  · simp only [Act.put, List.setIfInBounds_toArray, List.set_cons_zero, List.set_cons_succ]
    rfl
  refine pure_ (i := 17) (N := some 70) (v := ?_) (a' := ?_) #[true, true, true, true, true, true, true, true, true, true, true, true, true, true, true, true, true, true, false] rfl rfl (by kernel_rfl) (fun _ _ _ h => h) (Or.inl ⟨by rfl, ?_⟩) ?_ ?_
  rotate_left
  · intro w'
    go_simp
    with_reducible rfl
  rotate_left
  · simp only [Act.put, List.setIfInBounds_toArray, List.set_cons_zero, List.set_cons_succ]
    rfl
  refine pure_ (i := 18) (N := some 71) (v := ?_) (a' := ?_) #[true, true, true, true, true, true, true, true, true, true, true, true, true, true, true, true, true, true, true] rfl rfl (by kernel_rfl) (fun _ _ _ h => h) (Or.inl ⟨by rfl, ?_⟩) ?_ ?_
  rotate_left
  · intro w'
    go_simp
    with_reducible rfl
  rotate_left
  · simp only [Act.put, List.setIfInBounds_toArray, List.set_cons_zero, List.set_cons_succ]
    rfl
  refine done_ (by kernel_rfl) ?_
  have xelt := blk_lt K14w14.out
  have xe0 := (blk_cell K14w14.out 0).trans (show _ = some (Value.int .i64 0) from rfl)
  have xe1 := (blk_cell K14w14.out 1).trans (show _ = some (Value.slice E1 0 e1) from rfl)
  have xe2 := (blk_cell K14w14.out 2).trans (show _ = some (Value.slice E2 0 e2) from rfl)
  have xe3 := (blk_cell K14w14.out 3).trans (show _ = some (Value.slice E3 0 e3) from rfl)
  go_wp2_with fail
  clear xelt xe0 xe1 xe2 xe3
  refine (same11_refl 0 Ew14.out.rd (Rd.zero _) (by omega) (by omega) (by omega)).mono ?_
  rintro e w15 ⟨rfl, hb⟩
  have K5w15 := Aside0.mk (blk_below K5w14.out hb)
  have K6w15 := Aside0.mk (blk_below K6w14.out hb)
  have Bw15 := Aside0.mk (below_step Bw14.out hb)
  have Mw15 := Aside0.mk (Rd.below Mw14.out hb)
  have Qw15 := Aside0.mk (Rd.below Qw14.out hb)
  have Ow15 := Aside0.mk (Rw.below Ow14.out hb)
  have K11w15 := Aside0.mk (blk_below K11w14.out hb)
  have Pw15 := Aside0.mk (Rw.below Pw14.out hb)
  have K12w15 := Aside0.mk (blk_below K12w14.out hb)
  have Ew15 := Aside0.mk (Rw.below Ew14.out hb)
  have K14w15 := Aside0.mk (blk_below K14w14.out hb)
  clear K5w14 K6w14 Bw14 Mw14 Qw14 Ow14 K11w14 Pw14 K12w14 Ew14 K14w14 hb
  obtain ⟨hv1, hv2, hv3⟩ := span_good HS.out
  have hf32 := HF.out
  have xolt := blk_lt K11w15.out
  have xo0 := (blk_cell K11w15.out 0).trans (show _ = some (Value.int .i64 m0) from rfl)
  have xo1 := (blk_cell K11w15.out 1).trans (show _ = some (Value.slice O1 n1 o1) from rfl)
  have xo2 := (blk_cell K11w15.out 2).trans (show _ = some (Value.slice O2 n2 o2) from rfl)
  have xo3 := (blk_cell K11w15.out 3).trans (show _ = some (Value.slice O3 0 o3) from rfl)
  go_wp2_with (at_builtin; refine Kd.R_append_rows k38 (Rr := k38.K (w15.alloc (.cells #[.int .i64 f, .int .i64 t] 38))) (w0 := w) w.heap.size rfl (.tmp 161) (.tmp 165) 24 38 _ 16 rfl Try.underlying24 info38 rfl (by decide) (by decide) (.slice O3 0 o3) l3 [S38.mk f t] (some ⟨w15.heap.size, 0, none⟩) 1 1 (fun _ => True) (fun _ => False) rfl rfl ?hO ?hR (fun _ _ h => h) (fun _ h => h.elim) (fun _ _ => trivial) ?hB ?hb ?hl ?_)
  case hO => exact Kd.R_alloc Ow15.out.r3 _
  case hR => exact box38 w15 (S38.mk f t)
  case hB => exact below_alloc Bw15.out _
  case hb => exact (below_alloc Bw15.out (.cells #[.int .i64 f, .int .i64 t] 38)).size
  case hl => have := Mw15.out.e3; simp; omega
  intro v1 w16 h1 _ hg _
  clear xolt xo0 xo1 xo2 xo3
  obtain ⟨D3, d3, hv⟩ := Kd.R_slice h1
  rw [show (l3 ++ [S38.mk f t]).length = 1 from by have h2 := Mw15.out.e3; rw [List.length_append, h2]; rfl] at hv
  subst hv
  have Bw16 := Aside0.mk (pw_below_grown (below_alloc Bw15.out (.cells #[.int .i64 f, .int .i64 t] 38)) _ (below_alloc Bw15.out (.cells #[.int .i64 f, .int .i64 t] 38)).size hg (Kd.R_base Ow15.out.r3))
  have K11w16 := Aside0.mk (blk_grown (blk_alloc K11w15.out (.cells #[.int .i64 f, .int .i64 t] 38)) hg (Kd.R_ne Ow15.out.r3 K11w15.out (by decide)))
  have K12w16 := Aside0.mk (blk_grown (blk_alloc K12w15.out (.cells #[.int .i64 f, .int .i64 t] 38)) hg (Kd.R_ne Ow15.out.r3 K12w15.out (by decide)))
  have Ow16 := Aside0.mk (Rw.mk (Kd.R_over (Kd.R_alloc Ow15.out.r1 (.cells #[.int .i64 f, .int .i64 t] 38)) (Kd.R_alloc Ow15.out.r3 (.cells #[.int .i64 f, .int .i64 t] 38)) (by decide) hg) (Kd.R_over (Kd.R_alloc Ow15.out.r2 (.cells #[.int .i64 f, .int .i64 t] 38)) (Kd.R_alloc Ow15.out.r3 (.cells #[.int .i64 f, .int .i64 t] 38)) (by decide) hg) h1)
  have Pw16 := Aside0.mk (Rw.mk (Kd.R_over (Kd.R_alloc Pw15.out.r1 (.cells #[.int .i64 f, .int .i64 t] 38)) (Kd.R_alloc Ow15.out.r3 (.cells #[.int .i64 f, .int .i64 t] 38)) (by decide) hg) (Kd.R_over (Kd.R_alloc Pw15.out.r2 (.cells #[.int .i64 f, .int .i64 t] 38)) (Kd.R_alloc Ow15.out.r3 (.cells #[.int .i64 f, .int .i64 t] 38)) (by decide) hg) (Kd.R_grown2 (Kd.R_alloc Pw15.out.r3 (.cells #[.int .i64 f, .int .i64 t] 38)) rfl hg (fun k hk he => by have h2 := Kd.R_base Pw15.out.r3 k he.symm; have h3 := NEO.out k hk; omega)))
  clear h1 hg K5w15 K6w15 Bw15 Mw15 Qw15 Ow15 K11w15 Pw15 K12w15 Ew15 K14w15
  have hn1 := NEK.out
  have hn2 := NEK.out.symm
  have xolt := blk_lt K11w16.out
  have xo0 := (blk_cell K11w16.out 0).trans (show _ = some (Value.int .i64 m0) from rfl)
  have xof0 := blk_frozen K11w16.out 0
  have xo1 := (blk_cell K11w16.out 1).trans (show _ = some (Value.slice O1 n1 o1) from rfl)
  have xof1 := blk_frozen K11w16.out 1
  have xo2 := (blk_cell K11w16.out 2).trans (show _ = some (Value.slice O2 n2 o2) from rfl)
  have xof2 := blk_frozen K11w16.out 2
  have xo3 := (blk_cell K11w16.out 3).trans (show _ = some (Value.slice O3 0 o3) from rfl)
  have xof3 := blk_frozen K11w16.out 3
  have xplt := blk_lt K12w16.out
  have xp0 := (blk_cell K12w16.out 0).trans (show _ = some (Value.int .i64 m0) from rfl)
  have xp1 := (blk_cell K12w16.out 1).trans (show _ = some (Value.slice P1 n1 p1) from rfl)
  have xp2 := (blk_cell K12w16.out 2).trans (show _ = some (Value.slice P2 n2 p2) from rfl)
  have xp3 := (blk_cell K12w16.out 3).trans (show _ = some (Value.slice P3 1 p3) from rfl)
  go_wp2_with fail
  clear xolt xo0 xof0 xo1 xof1 xo2 xof2 xo3 xof3 xplt xp0 xp1 xp2 xp3
  clear hn1 hn2
  have hk := (KeepBut.refl w16 K11b none).set_ 3 (.slice D3 1 d3)
  have Bw17 := Aside0.mk (Bw16.out.setCell (p := ⟨K11b, 3, none⟩) K11ge.out (.slice D3 1 d3))
  have Ow17 := Aside0.mk (Ow16.out.kept K11w16.out hk)
  have Pw17 := Aside0.mk (Pw16.out.kept K11w16.out hk)
  generalize w16.setCell ⟨K11b, 3, none⟩ (.slice D3 1 d3) = w17 at Bw17 Ow17 Pw17 ⊢
  clear hk Bw16 Ow16 Pw16 K11w16 K12w16
  refine (same11_refl m0 Pw17.out.rd Ow17.out.rd (by have := HB1.out; omega) (by have := HB2.out; omega) (by omega)).mono ?_
  rintro e w18 ⟨rfl, hb⟩
  have Bw18 := Aside0.mk (below_step Bw17.out hb)
  have Ow18 := Aside0.mk (Rw.below Ow17.out hb)
  have Pw18 := Aside0.mk (Rw.below Pw17.out hb)
  clear Bw17 Ow17 Pw17 hb
  go_wp2
  go_ret
  exact ⟨rfl, Bw18.out⟩

end Go.Proofs.Ytkhilhgpkfecaaa.Mk
