/- The law LawPagePut: its walk and its proof, part 7 of 14. -/
import Derived.Test.YtnfdhgfpjamphaaYLawPagePut0
import Derived.Test.YtnfdhgfpjamphaaYLawPagePut5
import Derived.WalkMore
namespace Go.Proofs.Ytnfdhgfpjamphaa.X
section
open Go.RowKit Go.Proofs.YtnfdhgfpjamphaaW.PrintWords Go.Proofs.YtnfdhgfpjamphaaW.PrintLast Go.Proofs.YtnfdhgfpjamphaaW.PrintMore
attribute [local go_sem] max2_int min2_int max_two min_two max_three min_three max_four min_four   -- for this text's walks alone
set_option linter.unusedVariables false
set_option linter.unusedSimpArgs false
def page_Best.l0 : Nat → List (S26) → Int → List Int → Int → Int → Int → Int → List Int → Option (Int × Int × List Int × Int)
 | 0, _, _, _, _, _, _, _, _ => none
 | k + 1, x0, x1, x22, x23, x24, x109000, x109001, x109002 => if x24 < x23 then (if 0 ≤ x24 then (if x24 < (x22.length : Int) then ((page_Encode.f k x0 x1 (rd x22 x24)).bind fun bt113 => (if bt113.2.2.2 = 0 then (if (bt113.2.2.1.length : Int) < (x109002.length : Int) then (page_Best.l0 k x0 x1 x22 x23 (wrap64 (x24 + 1)) bt113.1 bt113.2.1 bt113.2.2.1) else (page_Best.l0 k x0 x1 x22 x23 (wrap64 (x24 + 1)) x109000 x109001 x109002)) else (page_Best.l0 k x0 x1 x22 x23 (wrap64 (x24 + 1)) x109000 x109001 x109002))) else (none)) else (none)) else (some (x109000, x109001, x109002, 0))
def page_Best.f (k : Nat) (l0 : List (S26)) (a1 : Int) : Option (Int × Int × List Int × Int) := (page_Encode.f k l0 a1 1).bind fun bt102 => (if bt102.2.2.2 = 0 then ((some (([2, 3, 4] : List Int) : List Int)).bind fun y109 => (page_Best.l0 k l0 a1 y109 (y109.length : Int) 0 bt102.1 bt102.2.1 bt102.2.2.1)) else (some (0, 0, ([] : List Int), bt102.2.2.2)))
theorem page_Best.mono_l : ∀ k, (∀ y0 y1 y2 y3 y4 y5 y6 y7, LeO (page_Best.l0 k y0 y1 y2 y3 y4 y5 y6 y7) (page_Best.l0 (k + 1) y0 y1 y2 y3 y4 y5 y6 y7))
 | 0 => fun _ _ _ _ _ _ _ _ r h => by simp [page_Best.l0] at h
 | k + 1 => by
  have ih0 := page_Best.mono_l k
  ·intro y0 y1 y2 y3 y4 y5 y6 y7
   unfold page_Best.l0
   repeat' first
   | (with_reducible exact ih0 _ _ _ _ _ _ _ _)
   | (with_reducible exact page_Encode.mono _ _ _ _)
   | (with_reducible exact LeO.refl _)
   | (with_reducible exact LeO.none _)
   | (with_reducible refine LeO.ite ?_ ?_)
   | (with_reducible refine LeO.bind ?_ (fun _ => ?_))
   | exact ih0 _ _ _ _ _ _ _ _
   | exact page_Encode.mono _ _ _ _
   | exact LeO.none _
   | refine LeO.ite ?_ ?_
   | refine LeO.bind ?_ (fun _ => ?_)
theorem page_Best.mono : ∀ a0 a1 k, LeO (page_Best.f k a0 a1) (page_Best.f (k + 1) a0 a1) := by
 intro a0 a1 k
 have ih0 := page_Best.mono_l k
 unfold page_Best.f
 repeat' first
   | (with_reducible exact ih0 _ _ _ _ _ _ _ _)
   | (with_reducible exact page_Encode.mono _ _ _ _)
   | (with_reducible exact LeO.refl _)
   | (with_reducible exact LeO.none _)
   | (with_reducible refine LeO.ite ?_ ?_)
   | (with_reducible refine LeO.bind ?_ (fun _ => ?_))
   | exact ih0 _ _ _ _ _ _ _ _
   | exact page_Encode.mono _ _ _ _
   | exact LeO.none _
   | refine LeO.ite ?_ ?_
   | refine LeO.bind ?_ (fun _ => ?_)
set_option maxHeartbeats 8000000 in
set_option maxRecDepth 100000 in
theorem page_Best.calls (k : Nat) (A0 : Option Addr) (c0 : Nat) (l0 : List (S26)) (a1 : Int) (r1 : Int) (r2 : Int) (r3 : List Int) (r4 : Int) (w : World) (hr0 : Kd.C k26 w A0 l0.length l0) (hc0 : l0.length ≤ c0) (h : page_Best.f k l0 a1 = some (r1, r2, r3, r4)) :
  Calls Try.prog 18 #[.slice A0 l0.length c0, .int .i64 a1] w fun e w' => ∃ v2_ : Value, e = .returned (.tuple #[.agg #[.int .i64 r1, .int .i64 r2, v2_], .int .i64 r4]) ∧ Kd.R (Kd.int .u8) 5 w' w.heap.size (fun _ => True) v2_ r3 ∧ Below w.heap.size w w' := by
 have hu34 := Try.underlying34
 have HR0 := Aside0.mk hr0
 have HC0 := Aside0.mk hc0
 clear hr0 hc0
 have HB := Aside0.mk (Below.refl w.heap.size w)
 have H : ((page_Encode.f k l0 a1 1).bind fun bt102 => (if bt102.2.2.2 = 0 then ((some (([2, 3, 4] : List Int) : List Int)).bind fun y109 => (page_Best.l0 k l0 a1 y109 (y109.length : Int) 0 bt102.1 bt102.2.1 bt102.2.2.1)) else (some (0, 0, ([] : List Int), bt102.2.2.2)))) = some (r1, r2, r3, r4) := h
 clear h
 replace H := Option.bind_eq_some_iff.mp H
 obtain ⟨⟨t102, t103, t104, t107⟩, A30, H⟩ := H
 (try dsimp only at H)
 have A3 := Aside0.mk A30
 clear A30
 by_cases c4 : t107 = 0
 rotate_left
 ·rw [if_neg c4] at H
  have c4b0 : (t107 == 0) = false := beq_eq_false_iff_ne.mpr c4
  have c4b1 : (t107 != 0) = true := bne_iff_ne.mpr c4
  simp only [Option.some.injEq, Prod.mk.injEq] at H
  obtain ⟨rfl, rfl, rfl, rfl⟩ := H
  go_enter Try.func18, Try.ntmps18
  go_wp2_with (first | ((with_reducible refine gate_dst (N := 4) rfl ?_); (try (refine gate_guard (by rfl) ?_; dsimp only)); refine box_event ?hg (N := 4) ?hd (cs := #[.int .i64 0, .int .i64 0, .slice none 0 0]) (t := 34) ?hr ?_; (case hd => rfl); (case hg => rfl); (case hr => first | (go_simp; done) | (go_simp; rfl)); intro gb101 hg w48 hbox hb; have n0_ := Aside0.mk (below_step (xW HB.out) hb); have n1_ := Aside0.mk (hbox); have n3_ := Aside0.mk ((by rw [hg]; exact (below_size (xW HB.out)) : w.heap.size ≤ gb101)); clear HB; revert n0_ n1_ n3_; intro HB BK101 GE101; clear hb hbox hg) | ((with_reducible refine gate_callee (f := 9) rfl ?_); refine goesL_ (some 15) rfl rfl Try.func9 (by kernel_rfl) rfl #[.slice A0 l0.length c0, .int .i64 a1, .int .i64 1] rfl (by (try simp only [List.map_toArray, List.map_cons, List.map_nil]) <;> rfl) ?_; (with_reducible refine (page_Encode.calls k _ _ l0 a1 1 t102 t103 t104 t107 _ ?side1 ?side2 A3.out).mono ?_); (case side1 => exact xC (Kd.C_below HR0.out HB.out)); (case side2 => exact HC0.out); rintro e w49 ⟨v105, rfl, ho0, hb⟩; refine ⟨_, rfl, ?_⟩; have n0_ := Aside0.mk (Kd.R_lower ho0 (below_size (xS HB.out (ge GE101.out g0)))); have n1_ := Aside0.mk (blk_below (xB BK101.out) hb); have n2_ := Aside0.mk (below_step (xS HB.out (ge GE101.out g0)) hb); clear BK101 HB; revert n0_ n1_ n2_; intro HO106 BK101 HB; (try clear hb); (try clear ho0)) | ((with_reducible refine gate_dst (N := 6) rfl ?_); (try (refine gate_guard (by rfl) ?_; dsimp only)); refine box_event ?hg (N := 6) ?hd (cs := #[.int .i64 0, .int .i64 0, .slice none 0 0]) (t := 34) ?hr ?_; (case hd => rfl); (case hg => rfl); (case hr => first | (go_simp; done) | (go_simp; rfl)); intro gb108 hg w50 hbox hb; have n0_ := Aside0.mk (Kd.R_below (xR HO106.out) hb); have n1_ := Aside0.mk (blk_below (xB BK101.out) hb); have n2_ := Aside0.mk (below_step (xS HB.out (ge GE101.out g0)) hb); have n3_ := Aside0.mk (hbox); have n5_ := Aside0.mk ((by rw [hg]; exact (below_size (xS HB.out (ge GE101.out g0))) : w.heap.size ≤ gb108)); have n6_ := Aside0.mk ((by rw [hg]; exact Nat.ne_of_lt (blk_lt (xB BK101.out)) : gb101 ≠ gb108)); have n7_ := Aside0.mk ((by rw [hg]; exact Nat.ne_of_gt (blk_lt (xB BK101.out)) : gb108 ≠ gb101)); clear HO106 BK101 HB; revert n0_ n1_ n2_ n3_ n5_ n6_ n7_; intro HO106 BK101 HB BK108 GE108 NB101_108 NB108_101; clear hb hbox hg; have hnb51 := NB108_101.out; have hnc51 := NB101_108.out; have hcz52_0 : w50.cell? ⟨gb108, 0, none⟩ = some (.int .i64 0) := (blk_cell BK108.out 0).trans rfl; have hcz52_1 : w50.cell? ⟨gb108, 1, none⟩ = some (.int .i64 0) := (blk_cell BK108.out 1).trans rfl; have hcz52_2 : w50.cell? ⟨gb108, 2, none⟩ = some (.slice none 0 0) := (blk_cell BK108.out 2).trans rfl; have hfz52_0 := blk_frozen BK108.out 0; have hfz52_1 := blk_frozen BK108.out 1; have hfz52_2 := blk_frozen BK108.out 2; obtain ⟨Ao53, co53, eo53⟩ := Kd.R_slice HO106.out; subst eo53; have hcz54_0 : w50.cell? ⟨gb101, 0, none⟩ = some (.int .i64 0) := (blk_cell BK101.out 0).trans rfl; have hcz54_1 : w50.cell? ⟨gb101, 1, none⟩ = some (.int .i64 0) := (blk_cell BK101.out 1).trans rfl; have hcz54_2 : w50.cell? ⟨gb101, 2, none⟩ = some (.slice none 0 0) := (blk_cell BK101.out 2).trans rfl; have hfz54_0 := blk_frozen BK101.out 0; have hfz54_1 := blk_frozen BK101.out 1; have hfz54_2 := blk_frozen BK101.out 2))
  refine bodyPost_ret (results_ct rfl _ _ gb101 34 #[.int .i64 0, .int .i64 0, .slice none 0 0] (0, 0) _ rfl (xP BK101.out (ge NB101_108.out g0) rfl) Try.underlying34 rfl (by kernel_rfl)) rfl ?_
  exact ⟨_, by first | rfl | simp [*], by first | exact Kd.R_nil _ _ _ _ _ | exact Kd.N_nil _ _ _ _ _ | exact Kd.V_nil _ _ _ _ _ | exact Kd.Q_nil _ _ _ _ _ | exact Kd.S_nil _ _ _ _ _, by repeat (first | (with_reducible first | exact HB.out | apply below_alloc | apply pw_below_drewN | apply below_drew1 | refine below_set ?_ GE101.out | refine below_set ?_ GE108.out) | exact HB.out)⟩
 rw [if_pos c4] at H
 have c4b0 : (t107 == 0) = true := beq_iff_eq.mpr c4
 have c4b1 : (t107 != 0) = false := bne_eq_false_iff_eq.mpr c4
 clear c4
 obtain ⟨y109, hy109⟩ : ∃ y_ : List Int, y_ = (([2, 3, 4] : List Int)) := ⟨_, rfl⟩
 replace H : (page_Best.l0 k l0 a1 y109 (y109.length : Int) 0 t102 t103 t104) = some (r1, r2, r3, r4) := by first | (rw [hy109]; with_reducible exact H) | (have H2_ := (Option.bind_some _ _).symm.trans H; rw [hy109]; with_reducible exact H2_) | (have H2_ := (Option.bind_some _ _).symm.trans H; with_reducible exact H2_) | with_reducible exact H | (rw [hy109]; exact H) | exact H
 have Ny109 := Aside0.mk hy109
 clear hy109
 have H' := Aside0.mk H
 clear H
 go_enter Try.func18, Try.ntmps18
 go_wp2_with (first | ((with_reducible refine gate_dst (N := 4) rfl ?_); (try (refine gate_guard (by rfl) ?_; dsimp only)); refine box_event ?hg (N := 4) ?hd (cs := #[.int .i64 0, .int .i64 0, .slice none 0 0]) (t := 34) ?hr ?_; (case hd => rfl); (case hg => rfl); (case hr => first | (go_simp; done) | (go_simp; rfl)); intro gb101 hg w5 hbox hb; have n0_ := Aside0.mk (below_step (xW HB.out) hb); have n1_ := Aside0.mk (hbox); have n3_ := Aside0.mk ((by rw [hg]; exact (below_size (xW HB.out)) : w.heap.size ≤ gb101)); clear HB; revert n0_ n1_ n3_; intro HB BK101 GE101; clear hb hbox hg) | ((with_reducible refine gate_callee (f := 9) rfl ?_); refine goesL_ (some 15) rfl rfl Try.func9 (by kernel_rfl) rfl #[.slice A0 l0.length c0, .int .i64 a1, .int .i64 1] rfl (by (try simp only [List.map_toArray, List.map_cons, List.map_nil]) <;> rfl) ?_; (with_reducible refine (page_Encode.calls k _ _ l0 a1 1 t102 t103 t104 t107 _ ?side1 ?side2 A3.out).mono ?_); (case side1 => exact xC (Kd.C_below HR0.out HB.out)); (case side2 => exact HC0.out); rintro e w6 ⟨v105, rfl, ho0, hb⟩; refine ⟨_, rfl, ?_⟩; have n0_ := Aside0.mk (Kd.R_lower ho0 (below_size (xS HB.out (ge GE101.out g0)))); have n1_ := Aside0.mk (blk_below (xB BK101.out) hb); have n2_ := Aside0.mk (below_step (xS HB.out (ge GE101.out g0)) hb); clear BK101 HB; revert n0_ n1_ n2_; intro HO106 BK101 HB; (try clear hb); (try clear ho0)) | ((with_reducible refine gate_dst (N := 6) rfl ?_); (try (refine gate_guard (by rfl) ?_; dsimp only)); refine box_event ?hg (N := 6) ?hd (cs := #[.int .i64 0, .int .i64 0, .slice none 0 0]) (t := 34) ?hr ?_; (case hd => rfl); (case hg => rfl); (case hr => first | (go_simp; done) | (go_simp; rfl)); intro gb108 hg w7 hbox hb; have n0_ := Aside0.mk (Kd.R_below (xR HO106.out) hb); have n1_ := Aside0.mk (blk_below (xB BK101.out) hb); have n2_ := Aside0.mk (below_step (xS HB.out (ge GE101.out g0)) hb); have n3_ := Aside0.mk (hbox); have n5_ := Aside0.mk ((by rw [hg]; exact (below_size (xS HB.out (ge GE101.out g0))) : w.heap.size ≤ gb108)); have n6_ := Aside0.mk ((by rw [hg]; exact Nat.ne_of_lt (blk_lt (xB BK101.out)) : gb101 ≠ gb108)); have n7_ := Aside0.mk ((by rw [hg]; exact Nat.ne_of_gt (blk_lt (xB BK101.out)) : gb108 ≠ gb101)); clear HO106 BK101 HB; revert n0_ n1_ n2_ n3_ n5_ n6_ n7_; intro HO106 BK101 HB BK108 GE108 NB101_108 NB108_101; clear hb hbox hg; have hnb8 := NB108_101.out; have hnc8 := NB101_108.out; have hcz9_0 : w7.cell? ⟨gb108, 0, none⟩ = some (.int .i64 0) := (blk_cell BK108.out 0).trans rfl; have hcz9_1 : w7.cell? ⟨gb108, 1, none⟩ = some (.int .i64 0) := (blk_cell BK108.out 1).trans rfl; have hcz9_2 : w7.cell? ⟨gb108, 2, none⟩ = some (.slice none 0 0) := (blk_cell BK108.out 2).trans rfl; have hfz9_0 := blk_frozen BK108.out 0; have hfz9_1 := blk_frozen BK108.out 1; have hfz9_2 := blk_frozen BK108.out 2; obtain ⟨Ao10, co10, eo10⟩ := Kd.R_slice HO106.out; subst eo10) | ((with_reducible refine gate_dst (N := 22) rfl ?_); (try (refine gate_guard (by rfl) ?_; dsimp only)); refine Kd.R_lit (Kd.int .i64) _ 3 ?hg (N := 22) ?hd (xs := ([2, 3, 4] : List Int)) (inner := [.int .i64 2, .int .i64 3, .int .i64 4]) (ok := fun _ => True) (okp := fun _ => True) ?hr ?hp (fun _ hk => hk) trivial (Below.refl _ _) (Nat.le_refl _) (by simp) ?_; (case hd => rfl); (case hg => rfl); (case hr => first | (go_simp; done) | (go_simp; rfl)); (case hp => exact (Reps.one (show Kd.M (Kd.int .i64) _ _ _ 2 [.int .i64 2] from rfl) (Reps.one (show Kd.M (Kd.int .i64) _ _ _ 3 [.int .i64 3] from rfl) (Reps.one (show Kd.M (Kd.int .i64) _ _ _ 4 [.int .i64 4] from rfl) (Reps.none _ _))))); intro v110 w11 ho12 hb hg_ hnew_; clear hg_ hnew_; (first | rw [← Ny109.out] at ho12 | (simp only [Int.reduceToNat] at ho12; rw [← Ny109.out] at ho12)); have n0_ := Aside0.mk (Kd.R_below (xT HO106.out BK108.out (by decide)) hb); have n1_ := Aside0.mk (Kd.R_lower ho12 (below_size (xS HB.out (ge GE101.out (ge GE108.out g0))))); have n2_ := Aside0.mk (blk_below (xF BK101.out (ge NB101_108.out g0)) hb); have n3_ := Aside0.mk (blk_below (g := gb108) (o := .cells #[.int .i64 t102, .int .i64 t103, .slice Ao10 t104.length co10] 34 (0, 0)) (xP BK108.out g0 rfl) hb); have n4_ := Aside0.mk (below_step (xS HB.out (ge GE101.out (ge GE108.out g0))) hb); clear HO106 BK101 BK108 HB; revert n0_ n1_ n2_ n3_ n4_; intro HO106 HO111 BK101 BK108 HB; clear hb ho12; obtain ⟨Ao13, co13, eo13⟩ := Kd.R_slice HO111.out; subst eo13))
 go_loopg [24] k (fun kq v24 w' => ∃ (x24_1 : Int) (x109000_1 : Int) (x109001_1 : Int) (x109002_1 : List Int) (u109002 : Value), v24 = .int .i64 x24_1 ∧ Aside0 (page_Best.l0 kq l0 a1 y109 (y109.length : Int) x24_1 x109000_1 x109001_1 x109002_1 = some (r1, r2, r3, r4)) ∧ Aside0 (kq ≤ k) ∧ Aside0 (Kd.R (Kd.int .i64) 3 w' w.heap.size (fun _ => True) (.slice Ao13 y109.length co13) y109) ∧ Aside0 (Kd.R (Kd.int .u8) 5 w' w.heap.size (fun _ => True) u109002 x109002_1) ∧ Aside0 (w'.heap[gb101]? = some (.cells #[.int .i64 0, .int .i64 0, (.slice none 0 0)] 34 (0, 0))) ∧ Aside0 (w'.heap[gb108]? = some (.cells #[.int .i64 x109000_1, .int .i64 x109001_1, u109002] 34 (0, 0))) ∧ Aside0 (Below w.heap.size w w'))
 case atStart => exact ⟨(0), (t102), (t103), (t104), (.slice Ao10 t104.length co10), (by first | rfl | (simp; done) | (simp [*]; done)), H', ⟨Nat.le_refl _⟩, ⟨by (with_reducible repeat (first | apply Kd.R_alloc | apply Kd.R_drewN | apply Kd.R_drew)); exact HO111.out⟩, ⟨by (with_reducible repeat (first | apply Kd.R_alloc | apply Kd.R_drewN | apply Kd.R_drew)); exact HO106.out⟩, ⟨by (with_reducible repeat (first | refine blk_drewN ?_ _ | refine blk_drew ?_ | refine blk_alloc ?_ _)); exact BK101.out⟩, ⟨by (with_reducible repeat (first | refine blk_drewN ?_ _ | refine blk_drew ?_ | refine blk_alloc ?_ _)); exact BK108.out⟩, ⟨by repeat (first | (with_reducible first | exact HB.out | apply below_alloc | apply pw_below_drewN | apply below_drew1 | refine below_set ?_ GE101.out | refine below_set ?_ GE108.out) | exact HB.out)⟩⟩
 case round =>
  clear H'
  try clear c1
  try clear p2
  try clear c4
  try clear c4b0
  try clear c4b1
  try clear c8
  try clear c9
  try clear hcz9_0
  try clear hcz9_1
  try clear hcz9_2
  try clear hfz9_0
  try clear hfz9_1
  try clear hfz9_2
  obtain ⟨x24_1, x109000_1, x109001_1, x109002_1, u109002, rfl, HA, HK1, HO_22, HO_109002, BK101, BK108, HB⟩ := hrel
  cases gk with
  | zero => exact absurd HA.out (by simp [page_Best.l0])
  | succ k1 =>
   have H := HA.out
   clear HA
   simp only [page_Best.l0] at H
   by_cases c14 : x24_1 < (y109.length : Int)
   ·rw [if_pos c14] at H
    have c14b0 : decide (x24_1 < (y109.length : Int)) = true := decide_eq_true c14
    clear c14
    by_cases c15 : 0 ≤ x24_1
    rotate_left
    ·rw [if_neg c15] at H
     exact absurd H (by simp)
    rw [if_pos c15] at H
    have c15b0 : decide (0 ≤ x24_1) = true := decide_eq_true c15
    clear c15
    by_cases c16 : x24_1 < (y109.length : Int)
    rotate_left
    ·rw [if_neg c16] at H
     exact absurd H (by simp)
    rw [if_pos c16] at H
    have c16b0 : decide (x24_1 < (y109.length : Int)) = true := decide_eq_true c16
    clear c16
    replace H := Option.bind_eq_some_iff.mp H
    obtain ⟨⟨t113, t114, t115, t118⟩, A170, H⟩ := H
    (try dsimp only at H)
    have A17 := Aside0.mk A170
    clear A170
    by_cases c18 : t118 = 0
    ·rw [if_pos c18] at H
     have c18b0 : (t118 == 0) = true := beq_iff_eq.mpr c18
     have c18b1 : (t118 != 0) = false := bne_eq_false_iff_eq.mpr c18
     clear c18
     by_cases c19 : (t115.length : Int) < (x109002_1.length : Int)
     ·rw [if_pos c19] at H
      have c19b0 : decide ((t115.length : Int) < (x109002_1.length : Int)) = true := decide_eq_true c19
      have c19b1 : decide (t115.length < x109002_1.length) = true := decide_eq_true (Int.ofNat_lt.mp c19)
      clear c19
      have H' := Aside0.mk H
      clear H
      have p112 : 0 ≤ (x24_1 : Int) := of_decide_eq_true (by first | (with_reducible assumption) | assumption)
      have q112 : x24_1 < (y109.length : Int) := of_decide_eq_true (by first | (with_reducible assumption) | assumption)
      obtain ⟨ad112, e112, hx112_0⟩ := Kd.at_int (Kd.R_reads' HO_22.out).2.2 x24_1 p112 q112
      cases e112
      replace p112 := eq_true p112
      replace q112 := eq_true q112
      go_wp2_with (first | ((with_reducible refine gate_callee (f := 9) rfl ?_); refine goesL_ (some 32) rfl rfl Try.func9 (by kernel_rfl) rfl #[.slice A0 l0.length c0, .int .i64 a1, .int .i64 (rd y109 x24_1)] rfl (by (try simp only [List.map_toArray, List.map_cons, List.map_nil]) <;> rfl) ?_; (with_reducible refine (page_Encode.calls k1 _ _ l0 a1 (rd y109 x24_1) t113 t114 t115 t118 _ ?side1 ?side2 A17.out).mono ?_); (case side1 => exact xC (Kd.C_below HR0.out HB.out)); (case side2 => exact HC0.out); rintro e w20 ⟨v116, rfl, ho0, hb⟩; refine ⟨_, rfl, ?_⟩; have n0_ := Aside0.mk (Kd.R_below (xR HO_22.out) hb); have n1_ := Aside0.mk (Kd.R_elder' (xR HO_109002.out) (Kd.R_base ho0) hb); have n2_ := Aside0.mk (Kd.R_lower (Kd.R_new' ho0 (Kd.R_lt (xR HO_109002.out))) (below_size (xS HB.out (ge GE101.out (ge GE108.out g0))))); have n3_ := Aside0.mk (blk_below (xB BK101.out) hb); have n4_ := Aside0.mk (blk_below (xB BK108.out) hb); have n5_ := Aside0.mk (below_step (xS HB.out (ge GE101.out (ge GE108.out g0))) hb); clear HO_22 HO_109002 BK101 BK108 HB; revert n0_ n1_ n2_ n3_ n4_ n5_; intro HO_22 HO_109002 HO117 BK101 BK108 HB; (try clear hb); (try clear ho0)) | ((with_reducible refine gate_dst (N := 10) rfl ?_); (try (refine gate_guard (by rfl) ?_; dsimp only)); refine box_event ?hg (N := 10) ?hd (cs := #[.int .i64 0, .int .i64 0, .slice none 0 0]) (t := 34) ?hr ?_; (case hd => rfl); (case hg => rfl); (case hr => first | (go_simp; done) | (go_simp; rfl)); intro gb119 hg w21 hbox hb; have n0_ := Aside0.mk (Kd.R_below (xR HO_22.out) hb); have n1_ := Aside0.mk (Kd.R_below (xR HO_109002.out) hb); have n2_ := Aside0.mk (Kd.R_below (xR HO117.out) hb); have n3_ := Aside0.mk (blk_below (xB BK101.out) hb); have n4_ := Aside0.mk (blk_below (xB BK108.out) hb); have n5_ := Aside0.mk (below_step (xS HB.out (ge GE101.out (ge GE108.out g0))) hb); have n6_ := Aside0.mk (hbox); have n8_ := Aside0.mk ((by rw [hg]; exact (below_size (xS HB.out (ge GE101.out (ge GE108.out g0)))) : w.heap.size ≤ gb119)); have n9_ := Aside0.mk ((by rw [hg]; exact Nat.ne_of_lt (blk_lt (xB BK101.out)) : gb101 ≠ gb119)); have n10_ := Aside0.mk ((by rw [hg]; exact Nat.ne_of_gt (blk_lt (xB BK101.out)) : gb119 ≠ gb101)); have n11_ := Aside0.mk ((by rw [hg]; exact Nat.ne_of_lt (blk_lt (xB BK108.out)) : gb108 ≠ gb119)); have n12_ := Aside0.mk ((by rw [hg]; exact Nat.ne_of_gt (blk_lt (xB BK108.out)) : gb119 ≠ gb108)); clear HO_22 HO_109002 HO117 BK101 BK108 HB; revert n0_ n1_ n2_ n3_ n4_ n5_ n6_ n8_ n9_ n10_ n11_ n12_; intro HO_22 HO_109002 HO117 BK101 BK108 HB BK119 GE119 NB101_119 NB119_101 NB108_119 NB119_108; clear hb hbox hg; have hnb22 := NB119_101.out; have hnc22 := NB101_119.out; have hnb23 := NB119_108.out; have hnc23 := NB108_119.out; have hcz24_0 : w21.cell? ⟨gb119, 0, none⟩ = some (.int .i64 0) := (blk_cell BK119.out 0).trans rfl; have hcz24_1 : w21.cell? ⟨gb119, 1, none⟩ = some (.int .i64 0) := (blk_cell BK119.out 1).trans rfl; have hcz24_2 : w21.cell? ⟨gb119, 2, none⟩ = some (.slice none 0 0) := (blk_cell BK119.out 2).trans rfl; have hfz24_0 := blk_frozen BK119.out 0; have hfz24_1 := blk_frozen BK119.out 1; have hfz24_2 := blk_frozen BK119.out 2; obtain ⟨Ao25, co25, eo25⟩ := Kd.R_slice HO117.out; subst eo25; have hnb26 := NB108_101.out; have hnc26 := NB101_108.out; have hcz27_0 : w21.cell? ⟨gb108, 0, none⟩ = some (.int .i64 x109000_1) := (blk_cell BK108.out 0).trans rfl; have hcz27_1 : w21.cell? ⟨gb108, 1, none⟩ = some (.int .i64 x109001_1) := (blk_cell BK108.out 1).trans rfl; have hcz27_2 : w21.cell? ⟨gb108, 2, none⟩ = some (u109002) := (blk_cell BK108.out 2).trans rfl; have hfz27_0 := blk_frozen BK108.out 0; have hfz27_1 := blk_frozen BK108.out 1; have hfz27_2 := blk_frozen BK108.out 2; obtain ⟨Ao28, co28, eo28⟩ := Kd.R_slice HO_109002.out; subst eo28))
      go_roundg k1
      case measure => have := HK1.out; omega
      case rel => exact ⟨(wrap64 (x24_1 + 1)), (t113), (t114), (t115), (.slice Ao25 t115.length co25), (by first | rfl | (simp; done) | (simp [*]; done)), H', ⟨by have := HK1.out; omega⟩, ⟨by (with_reducible repeat (first | apply Kd.R_alloc | apply Kd.R_drewN | apply Kd.R_drew)); exact Kd.R_mono (Kd.R_far (p := ⟨gb108, 2, none⟩) (Kd.R_far (p := ⟨gb108, 1, none⟩) (Kd.R_far (p := ⟨gb108, 0, none⟩) (Kd.R_far (p := ⟨gb119, 2, none⟩) (Kd.R_far (p := ⟨gb119, 1, none⟩) (Kd.R_far (p := ⟨gb119, 0, none⟩) (Kd.R_types (Kd.R_types HO_22.out BK119.out (by decide)) BK108.out (by decide)) (fun _ hk => hk.1.2) (.int .i64 t113)) (fun _ hk => hk.1.2) (.int .i64 t114)) (fun _ hk => hk.1.2) (.slice Ao25 t115.length co25)) (fun _ hk => hk.2) (.int .i64 t113)) (fun _ hk => hk.2) (.int .i64 t114)) (fun _ hk => hk.2) (.slice Ao25 t115.length co25)) (fun _ hk => trivial)⟩, ⟨by (with_reducible repeat (first | apply Kd.R_alloc | apply Kd.R_drewN | apply Kd.R_drew)); exact Kd.R_mono (Kd.R_far (p := ⟨gb108, 2, none⟩) (Kd.R_far (p := ⟨gb108, 1, none⟩) (Kd.R_far (p := ⟨gb108, 0, none⟩) (Kd.R_far (p := ⟨gb119, 2, none⟩) (Kd.R_far (p := ⟨gb119, 1, none⟩) (Kd.R_far (p := ⟨gb119, 0, none⟩) (Kd.R_types (Kd.R_types HO117.out BK119.out (by decide)) BK108.out (by decide)) (fun _ hk => hk.1.2) (.int .i64 t113)) (fun _ hk => hk.1.2) (.int .i64 t114)) (fun _ hk => hk.1.2) (.slice Ao25 t115.length co25)) (fun _ hk => hk.2) (.int .i64 t113)) (fun _ hk => hk.2) (.int .i64 t114)) (fun _ hk => hk.2) (.slice Ao25 t115.length co25)) (fun _ hk => trivial)⟩, ⟨by (with_reducible repeat (first | refine blk_drewN ?_ _ | refine blk_drew ?_ | refine blk_alloc ?_ _)); refine blk_far ?_ NB101_108.out _; (with_reducible repeat (first | refine blk_drewN ?_ _ | refine blk_drew ?_ | refine blk_alloc ?_ _)); refine blk_far ?_ NB101_108.out _; (with_reducible repeat (first | refine blk_drewN ?_ _ | refine blk_drew ?_ | refine blk_alloc ?_ _)); refine blk_far ?_ NB101_108.out _; (with_reducible repeat (first | refine blk_drewN ?_ _ | refine blk_drew ?_ | refine blk_alloc ?_ _)); refine blk_far ?_ NB101_119.out _; (with_reducible repeat (first | refine blk_drewN ?_ _ | refine blk_drew ?_ | refine blk_alloc ?_ _)); refine blk_far ?_ NB101_119.out _; (with_reducible repeat (first | refine blk_drewN ?_ _ | refine blk_drew ?_ | refine blk_alloc ?_ _)); refine blk_far ?_ NB101_119.out _; (with_reducible repeat (first | refine blk_drewN ?_ _ | refine blk_drew ?_ | refine blk_alloc ?_ _)); exact BK101.out⟩, ⟨by (with_reducible repeat (first | refine blk_drewN ?_ _ | refine blk_drew ?_ | refine blk_alloc ?_ _)); refine blk_put (cs := #[.int .i64 t113, .int .i64 t114, .slice Ao28 x109002_1.length co28]) ?_ 2 _ rfl; (with_reducible repeat (first | refine blk_drewN ?_ _ | refine blk_drew ?_ | refine blk_alloc ?_ _)); refine blk_put (cs := #[.int .i64 t113, .int .i64 x109001_1, .slice Ao28 x109002_1.length co28]) ?_ 1 _ rfl; (with_reducible repeat (first | refine blk_drewN ?_ _ | refine blk_drew ?_ | refine blk_alloc ?_ _)); refine blk_put (cs := #[.int .i64 x109000_1, .int .i64 x109001_1, .slice Ao28 x109002_1.length co28]) ?_ 0 _ rfl; (with_reducible repeat (first | refine blk_drewN ?_ _ | refine blk_drew ?_ | refine blk_alloc ?_ _)); refine blk_far ?_ NB108_119.out _; (with_reducible repeat (first | refine blk_drewN ?_ _ | refine blk_drew ?_ | refine blk_alloc ?_ _)); refine blk_far ?_ NB108_119.out _; (with_reducible repeat (first | refine blk_drewN ?_ _ | refine blk_drew ?_ | refine blk_alloc ?_ _)); refine blk_far ?_ NB108_119.out _; (with_reducible repeat (first | refine blk_drewN ?_ _ | refine blk_drew ?_ | refine blk_alloc ?_ _)); exact BK108.out⟩, ⟨by repeat (first | (with_reducible first | exact HB.out | apply below_alloc | apply pw_below_drewN | apply below_drew1 | refine below_set ?_ GE101.out | refine below_set ?_ GE108.out | refine below_set ?_ GE119.out) | exact HB.out)⟩⟩
     ·rw [if_neg c19] at H
      have c19b0 : decide ((t115.length : Int) < (x109002_1.length : Int)) = false := decide_eq_false c19
      have c19b1 : decide (t115.length < x109002_1.length) = false := decide_eq_false (fun h => c19 (Int.ofNat_lt.mpr h))
      clear c19
      have H' := Aside0.mk H
      clear H
      have p112 : 0 ≤ (x24_1 : Int) := of_decide_eq_true (by first | (with_reducible assumption) | assumption)
      have q112 : x24_1 < (y109.length : Int) := of_decide_eq_true (by first | (with_reducible assumption) | assumption)
      obtain ⟨ad112, e112, hx112_0⟩ := Kd.at_int (Kd.R_reads' HO_22.out).2.2 x24_1 p112 q112
      cases e112
      replace p112 := eq_true p112
      replace q112 := eq_true q112
      go_wp2_with (first | ((with_reducible refine gate_callee (f := 9) rfl ?_); refine goesL_ (some 32) rfl rfl Try.func9 (by kernel_rfl) rfl #[.slice A0 l0.length c0, .int .i64 a1, .int .i64 (rd y109 x24_1)] rfl (by (try simp only [List.map_toArray, List.map_cons, List.map_nil]) <;> rfl) ?_; (with_reducible refine (page_Encode.calls k1 _ _ l0 a1 (rd y109 x24_1) t113 t114 t115 t118 _ ?side1 ?side2 A17.out).mono ?_); (case side1 => exact xC (Kd.C_below HR0.out HB.out)); (case side2 => exact HC0.out); rintro e w29 ⟨v116, rfl, ho0, hb⟩; refine ⟨_, rfl, ?_⟩; have n0_ := Aside0.mk (Kd.R_below (xR HO_22.out) hb); have n1_ := Aside0.mk (Kd.R_elder' (xR HO_109002.out) (Kd.R_base ho0) hb); have n2_ := Aside0.mk (Kd.R_lower (Kd.R_new' ho0 (Kd.R_lt (xR HO_109002.out))) (below_size (xS HB.out (ge GE101.out (ge GE108.out g0))))); have n3_ := Aside0.mk (blk_below (xB BK101.out) hb); have n4_ := Aside0.mk (blk_below (xB BK108.out) hb); have n5_ := Aside0.mk (below_step (xS HB.out (ge GE101.out (ge GE108.out g0))) hb); clear HO_22 HO_109002 BK101 BK108 HB; revert n0_ n1_ n2_ n3_ n4_ n5_; intro HO_22 HO_109002 HO117 BK101 BK108 HB; (try clear hb); (try clear ho0)) | ((with_reducible refine gate_dst (N := 10) rfl ?_); (try (refine gate_guard (by rfl) ?_; dsimp only)); refine box_event ?hg (N := 10) ?hd (cs := #[.int .i64 0, .int .i64 0, .slice none 0 0]) (t := 34) ?hr ?_; (case hd => rfl); (case hg => rfl); (case hr => first | (go_simp; done) | (go_simp; rfl)); intro gb119 hg w30 hbox hb; have n0_ := Aside0.mk (Kd.R_below (xR HO_22.out) hb); have n1_ := Aside0.mk (Kd.R_below (xR HO_109002.out) hb); have n2_ := Aside0.mk (Kd.R_below (xR HO117.out) hb); have n3_ := Aside0.mk (blk_below (xB BK101.out) hb); have n4_ := Aside0.mk (blk_below (xB BK108.out) hb); have n5_ := Aside0.mk (below_step (xS HB.out (ge GE101.out (ge GE108.out g0))) hb); have n6_ := Aside0.mk (hbox); have n8_ := Aside0.mk ((by rw [hg]; exact (below_size (xS HB.out (ge GE101.out (ge GE108.out g0)))) : w.heap.size ≤ gb119)); have n9_ := Aside0.mk ((by rw [hg]; exact Nat.ne_of_lt (blk_lt (xB BK101.out)) : gb101 ≠ gb119)); have n10_ := Aside0.mk ((by rw [hg]; exact Nat.ne_of_gt (blk_lt (xB BK101.out)) : gb119 ≠ gb101)); have n11_ := Aside0.mk ((by rw [hg]; exact Nat.ne_of_lt (blk_lt (xB BK108.out)) : gb108 ≠ gb119)); have n12_ := Aside0.mk ((by rw [hg]; exact Nat.ne_of_gt (blk_lt (xB BK108.out)) : gb119 ≠ gb108)); clear HO_22 HO_109002 HO117 BK101 BK108 HB; revert n0_ n1_ n2_ n3_ n4_ n5_ n6_ n8_ n9_ n10_ n11_ n12_; intro HO_22 HO_109002 HO117 BK101 BK108 HB BK119 GE119 NB101_119 NB119_101 NB108_119 NB119_108; clear hb hbox hg; have hnb31 := NB119_101.out; have hnc31 := NB101_119.out; have hnb32 := NB119_108.out; have hnc32 := NB108_119.out; have hcz33_0 : w30.cell? ⟨gb119, 0, none⟩ = some (.int .i64 0) := (blk_cell BK119.out 0).trans rfl; have hcz33_1 : w30.cell? ⟨gb119, 1, none⟩ = some (.int .i64 0) := (blk_cell BK119.out 1).trans rfl; have hcz33_2 : w30.cell? ⟨gb119, 2, none⟩ = some (.slice none 0 0) := (blk_cell BK119.out 2).trans rfl; have hfz33_0 := blk_frozen BK119.out 0; have hfz33_1 := blk_frozen BK119.out 1; have hfz33_2 := blk_frozen BK119.out 2; obtain ⟨Ao34, co34, eo34⟩ := Kd.R_slice HO117.out; subst eo34; have hnb35 := NB108_101.out; have hnc35 := NB101_108.out; have hcz36_0 : w30.cell? ⟨gb108, 0, none⟩ = some (.int .i64 x109000_1) := (blk_cell BK108.out 0).trans rfl; have hcz36_1 : w30.cell? ⟨gb108, 1, none⟩ = some (.int .i64 x109001_1) := (blk_cell BK108.out 1).trans rfl; have hcz36_2 : w30.cell? ⟨gb108, 2, none⟩ = some (u109002) := (blk_cell BK108.out 2).trans rfl; have hfz36_0 := blk_frozen BK108.out 0; have hfz36_1 := blk_frozen BK108.out 1; have hfz36_2 := blk_frozen BK108.out 2; obtain ⟨Ao37, co37, eo37⟩ := Kd.R_slice HO_109002.out; subst eo37))
      go_roundg k1
      case measure => have := HK1.out; omega
      case rel => exact ⟨(wrap64 (x24_1 + 1)), (x109000_1), (x109001_1), (x109002_1), (.slice Ao37 x109002_1.length co37), (by first | rfl | (simp; done) | (simp [*]; done)), H', ⟨by have := HK1.out; omega⟩, ⟨by (with_reducible repeat (first | apply Kd.R_alloc | apply Kd.R_drewN | apply Kd.R_drew)); exact Kd.R_mono (Kd.R_far (p := ⟨gb119, 2, none⟩) (Kd.R_far (p := ⟨gb119, 1, none⟩) (Kd.R_far (p := ⟨gb119, 0, none⟩) (Kd.R_types HO_22.out BK119.out (by decide)) (fun _ hk => hk.2) (.int .i64 t113)) (fun _ hk => hk.2) (.int .i64 t114)) (fun _ hk => hk.2) (.slice Ao34 t115.length co34)) (fun _ hk => trivial)⟩, ⟨by (with_reducible repeat (first | apply Kd.R_alloc | apply Kd.R_drewN | apply Kd.R_drew)); exact Kd.R_mono (Kd.R_far (p := ⟨gb119, 2, none⟩) (Kd.R_far (p := ⟨gb119, 1, none⟩) (Kd.R_far (p := ⟨gb119, 0, none⟩) (Kd.R_types HO_109002.out BK119.out (by decide)) (fun _ hk => hk.2) (.int .i64 t113)) (fun _ hk => hk.2) (.int .i64 t114)) (fun _ hk => hk.2) (.slice Ao34 t115.length co34)) (fun _ hk => trivial)⟩, ⟨by (with_reducible repeat (first | refine blk_drewN ?_ _ | refine blk_drew ?_ | refine blk_alloc ?_ _)); refine blk_far ?_ NB101_119.out _; (with_reducible repeat (first | refine blk_drewN ?_ _ | refine blk_drew ?_ | refine blk_alloc ?_ _)); refine blk_far ?_ NB101_119.out _; (with_reducible repeat (first | refine blk_drewN ?_ _ | refine blk_drew ?_ | refine blk_alloc ?_ _)); refine blk_far ?_ NB101_119.out _; (with_reducible repeat (first | refine blk_drewN ?_ _ | refine blk_drew ?_ | refine blk_alloc ?_ _)); exact BK101.out⟩, ⟨by (with_reducible repeat (first | refine blk_drewN ?_ _ | refine blk_drew ?_ | refine blk_alloc ?_ _)); refine blk_far ?_ NB108_119.out _; (with_reducible repeat (first | refine blk_drewN ?_ _ | refine blk_drew ?_ | refine blk_alloc ?_ _)); refine blk_far ?_ NB108_119.out _; (with_reducible repeat (first | refine blk_drewN ?_ _ | refine blk_drew ?_ | refine blk_alloc ?_ _)); refine blk_far ?_ NB108_119.out _; (with_reducible repeat (first | refine blk_drewN ?_ _ | refine blk_drew ?_ | refine blk_alloc ?_ _)); exact BK108.out⟩, ⟨by repeat (first | (with_reducible first | exact HB.out | apply below_alloc | apply pw_below_drewN | apply below_drew1 | refine below_set ?_ GE101.out | refine below_set ?_ GE108.out | refine below_set ?_ GE119.out) | exact HB.out)⟩⟩
    ·rw [if_neg c18] at H
     have c18b0 : (t118 == 0) = false := beq_eq_false_iff_ne.mpr c18
     have c18b1 : (t118 != 0) = true := bne_iff_ne.mpr c18
     have H' := Aside0.mk H
     clear H
     have p112 : 0 ≤ (x24_1 : Int) := of_decide_eq_true (by first | (with_reducible assumption) | assumption)
     have q112 : x24_1 < (y109.length : Int) := of_decide_eq_true (by first | (with_reducible assumption) | assumption)
     obtain ⟨ad112, e112, hx112_0⟩ := Kd.at_int (Kd.R_reads' HO_22.out).2.2 x24_1 p112 q112
     cases e112
     replace p112 := eq_true p112
     replace q112 := eq_true q112
     go_wp2_with (first | ((with_reducible refine gate_callee (f := 9) rfl ?_); refine goesL_ (some 32) rfl rfl Try.func9 (by kernel_rfl) rfl #[.slice A0 l0.length c0, .int .i64 a1, .int .i64 (rd y109 x24_1)] rfl (by (try simp only [List.map_toArray, List.map_cons, List.map_nil]) <;> rfl) ?_; (with_reducible refine (page_Encode.calls k1 _ _ l0 a1 (rd y109 x24_1) t113 t114 t115 t118 _ ?side1 ?side2 A17.out).mono ?_); (case side1 => exact xC (Kd.C_below HR0.out HB.out)); (case side2 => exact HC0.out); rintro e w38 ⟨v116, rfl, ho0, hb⟩; refine ⟨_, rfl, ?_⟩; have n0_ := Aside0.mk (Kd.R_below (xR HO_22.out) hb); have n1_ := Aside0.mk (Kd.R_elder' (xR HO_109002.out) (Kd.R_base ho0) hb); have n2_ := Aside0.mk (Kd.R_lower (Kd.R_new' ho0 (Kd.R_lt (xR HO_109002.out))) (below_size (xS HB.out (ge GE101.out (ge GE108.out g0))))); have n3_ := Aside0.mk (blk_below (xB BK101.out) hb); have n4_ := Aside0.mk (blk_below (xB BK108.out) hb); have n5_ := Aside0.mk (below_step (xS HB.out (ge GE101.out (ge GE108.out g0))) hb); clear HO_22 HO_109002 BK101 BK108 HB; revert n0_ n1_ n2_ n3_ n4_ n5_; intro HO_22 HO_109002 HO117 BK101 BK108 HB; (try clear hb); (try clear ho0)) | ((with_reducible refine gate_dst (N := 10) rfl ?_); (try (refine gate_guard (by rfl) ?_; dsimp only)); refine box_event ?hg (N := 10) ?hd (cs := #[.int .i64 0, .int .i64 0, .slice none 0 0]) (t := 34) ?hr ?_; (case hd => rfl); (case hg => rfl); (case hr => first | (go_simp; done) | (go_simp; rfl)); intro gb119 hg w39 hbox hb; have n0_ := Aside0.mk (Kd.R_below (xR HO_22.out) hb); have n1_ := Aside0.mk (Kd.R_below (xR HO_109002.out) hb); have n2_ := Aside0.mk (Kd.R_below (xR HO117.out) hb); have n3_ := Aside0.mk (blk_below (xB BK101.out) hb); have n4_ := Aside0.mk (blk_below (xB BK108.out) hb); have n5_ := Aside0.mk (below_step (xS HB.out (ge GE101.out (ge GE108.out g0))) hb); have n6_ := Aside0.mk (hbox); have n8_ := Aside0.mk ((by rw [hg]; exact (below_size (xS HB.out (ge GE101.out (ge GE108.out g0)))) : w.heap.size ≤ gb119)); have n9_ := Aside0.mk ((by rw [hg]; exact Nat.ne_of_lt (blk_lt (xB BK101.out)) : gb101 ≠ gb119)); have n10_ := Aside0.mk ((by rw [hg]; exact Nat.ne_of_gt (blk_lt (xB BK101.out)) : gb119 ≠ gb101)); have n11_ := Aside0.mk ((by rw [hg]; exact Nat.ne_of_lt (blk_lt (xB BK108.out)) : gb108 ≠ gb119)); have n12_ := Aside0.mk ((by rw [hg]; exact Nat.ne_of_gt (blk_lt (xB BK108.out)) : gb119 ≠ gb108)); clear HO_22 HO_109002 HO117 BK101 BK108 HB; revert n0_ n1_ n2_ n3_ n4_ n5_ n6_ n8_ n9_ n10_ n11_ n12_; intro HO_22 HO_109002 HO117 BK101 BK108 HB BK119 GE119 NB101_119 NB119_101 NB108_119 NB119_108; clear hb hbox hg; have hnb40 := NB119_101.out; have hnc40 := NB101_119.out; have hnb41 := NB119_108.out; have hnc41 := NB108_119.out; have hcz42_0 : w39.cell? ⟨gb119, 0, none⟩ = some (.int .i64 0) := (blk_cell BK119.out 0).trans rfl; have hcz42_1 : w39.cell? ⟨gb119, 1, none⟩ = some (.int .i64 0) := (blk_cell BK119.out 1).trans rfl; have hcz42_2 : w39.cell? ⟨gb119, 2, none⟩ = some (.slice none 0 0) := (blk_cell BK119.out 2).trans rfl; have hfz42_0 := blk_frozen BK119.out 0; have hfz42_1 := blk_frozen BK119.out 1; have hfz42_2 := blk_frozen BK119.out 2; obtain ⟨Ao43, co43, eo43⟩ := Kd.R_slice HO117.out; subst eo43))
     go_roundg k1
     case measure => have := HK1.out; omega
     case rel => exact ⟨(wrap64 (x24_1 + 1)), (x109000_1), (x109001_1), (x109002_1), (u109002), (by first | rfl | (simp; done) | (simp [*]; done)), H', ⟨by have := HK1.out; omega⟩, ⟨by (with_reducible repeat (first | apply Kd.R_alloc | apply Kd.R_drewN | apply Kd.R_drew)); exact Kd.R_mono (Kd.R_far (p := ⟨gb119, 2, none⟩) (Kd.R_far (p := ⟨gb119, 1, none⟩) (Kd.R_far (p := ⟨gb119, 0, none⟩) (Kd.R_types HO_22.out BK119.out (by decide)) (fun _ hk => hk.2) (.int .i64 t113)) (fun _ hk => hk.2) (.int .i64 t114)) (fun _ hk => hk.2) (.slice Ao43 t115.length co43)) (fun _ hk => trivial)⟩, ⟨by (with_reducible repeat (first | apply Kd.R_alloc | apply Kd.R_drewN | apply Kd.R_drew)); exact Kd.R_mono (Kd.R_far (p := ⟨gb119, 2, none⟩) (Kd.R_far (p := ⟨gb119, 1, none⟩) (Kd.R_far (p := ⟨gb119, 0, none⟩) (Kd.R_types HO_109002.out BK119.out (by decide)) (fun _ hk => hk.2) (.int .i64 t113)) (fun _ hk => hk.2) (.int .i64 t114)) (fun _ hk => hk.2) (.slice Ao43 t115.length co43)) (fun _ hk => trivial)⟩, ⟨by (with_reducible repeat (first | refine blk_drewN ?_ _ | refine blk_drew ?_ | refine blk_alloc ?_ _)); refine blk_far ?_ NB101_119.out _; (with_reducible repeat (first | refine blk_drewN ?_ _ | refine blk_drew ?_ | refine blk_alloc ?_ _)); refine blk_far ?_ NB101_119.out _; (with_reducible repeat (first | refine blk_drewN ?_ _ | refine blk_drew ?_ | refine blk_alloc ?_ _)); refine blk_far ?_ NB101_119.out _; (with_reducible repeat (first | refine blk_drewN ?_ _ | refine blk_drew ?_ | refine blk_alloc ?_ _)); exact BK101.out⟩, ⟨by (with_reducible repeat (first | refine blk_drewN ?_ _ | refine blk_drew ?_ | refine blk_alloc ?_ _)); refine blk_far ?_ NB108_119.out _; (with_reducible repeat (first | refine blk_drewN ?_ _ | refine blk_drew ?_ | refine blk_alloc ?_ _)); refine blk_far ?_ NB108_119.out _; (with_reducible repeat (first | refine blk_drewN ?_ _ | refine blk_drew ?_ | refine blk_alloc ?_ _)); refine blk_far ?_ NB108_119.out _; (with_reducible repeat (first | refine blk_drewN ?_ _ | refine blk_drew ?_ | refine blk_alloc ?_ _)); exact BK108.out⟩, ⟨by repeat (first | (with_reducible first | exact HB.out | apply below_alloc | apply pw_below_drewN | apply below_drew1 | refine below_set ?_ GE101.out | refine below_set ?_ GE108.out | refine below_set ?_ GE119.out) | exact HB.out)⟩⟩
   ·rw [if_neg c14] at H
    have c14b0 : decide (x24_1 < (y109.length : Int)) = false := decide_eq_false c14
    clear c14
    simp only [Option.some.injEq, Prod.mk.injEq] at H
    obtain ⟨rfl, rfl, rfl, rfl⟩ := H
    have hnb44 := NB108_101.out
    have hnc44 := NB101_108.out
    have hcz45_0 : wr.cell? ⟨gb108, 0, none⟩ = some (.int .i64 x109000_1) := (blk_cell BK108.out 0).trans rfl
    have hcz45_1 : wr.cell? ⟨gb108, 1, none⟩ = some (.int .i64 x109001_1) := (blk_cell BK108.out 1).trans rfl
    have hcz45_2 : wr.cell? ⟨gb108, 2, none⟩ = some (u109002) := (blk_cell BK108.out 2).trans rfl
    have hfz45_0 := blk_frozen BK108.out 0
    have hfz45_1 := blk_frozen BK108.out 1
    have hfz45_2 := blk_frozen BK108.out 2
    have hcz46_0 : wr.cell? ⟨gb101, 0, none⟩ = some (.int .i64 0) := (blk_cell BK101.out 0).trans rfl
    have hcz46_1 : wr.cell? ⟨gb101, 1, none⟩ = some (.int .i64 0) := (blk_cell BK101.out 1).trans rfl
    have hcz46_2 : wr.cell? ⟨gb101, 2, none⟩ = some (.slice none 0 0) := (blk_cell BK101.out 2).trans rfl
    have hfz46_0 := blk_frozen BK101.out 0
    have hfz46_1 := blk_frozen BK101.out 1
    have hfz46_2 := blk_frozen BK101.out 2
    obtain ⟨Ao47, co47, eo47⟩ := Kd.R_slice HO_109002.out
    subst eo47
    go_wp2
    refine bodyPost_ret (results_ct rfl _ _ gb101 34 #[.int .i64 x109000_1, .int .i64 x109001_1, .slice Ao47 x109002_1.length co47] (0, 0) _ rfl (xP BK101.out g0 rfl) Try.underlying34 rfl (by kernel_rfl)) rfl ?_
    exact ⟨_, by first | rfl | simp [*], by (with_reducible repeat (first | apply Kd.R_alloc | apply Kd.R_drewN | apply Kd.R_drew)); exact Kd.R_mono (Kd.R_far (p := ⟨gb101, 2, none⟩) (Kd.R_far (p := ⟨gb101, 1, none⟩) (Kd.R_far (p := ⟨gb101, 0, none⟩) (Kd.R_types HO_109002.out BK101.out (by decide)) (fun _ hk => hk.2) (.int .i64 x109000_1)) (fun _ hk => hk.2) (.int .i64 x109001_1)) (fun _ hk => hk.2) (.slice Ao47 x109002_1.length co47)) (fun _ hk => trivial), by repeat (first | (with_reducible first | exact HB.out | apply below_alloc | apply pw_below_drewN | apply below_drew1 | refine below_set ?_ GE101.out | refine below_set ?_ GE108.out) | exact HB.out)⟩
def bytes_Equal.f (l0 : List Int) (l1 : List Int) : Option (Bool) := some ((strOfNums l0).toList == (strOfNums l1).toList)
set_option maxHeartbeats 8000000 in
set_option maxRecDepth 100000 in
theorem bytes_Equal.calls (A0 : Option Addr) (c0 : Nat) (l0 : List Int) (A1 : Option Addr) (c1 : Nat) (l1 : List Int) (r : Bool) (w : World) (hr0 : Kd.C (Kd.int .u8) w A0 l0.length l0) (hc0 : l0.length ≤ c0) (hr1 : Kd.C (Kd.int .u8) w A1 l1.length l1) (hc1 : l1.length ≤ c1) (h : bytes_Equal.f l0 l1 = some r) :
  Calls Try.prog 38 #[.slice A0 l0.length c0, .slice A1 l1.length c1] w fun e w' => e = .returned (.bool r) ∧ Drawn0 w w' := by
 have HR0 := Aside0.mk hr0
 have HC0 := Aside0.mk hc0
 clear hr0 hc0
 have HR1 := Aside0.mk hr1
 have HC1 := Aside0.mk hc1
 clear hr1 hc1
 have H : (some ((strOfNums l0).toList == (strOfNums l1).toList)) = some r := h
 clear h
 obtain rfl := Option.some.inj H
 have hcv3 := Kd.C_string (P := Try.prog) (A := A0) (c := c0) Try.underlying32 Try.underlying5 Try.underlying9 HR0.out
 have hcv4 := Kd.C_string (P := Try.prog) (A := A1) (c := c1) Try.underlying32 Try.underlying5 Try.underlying9 HR1.out
 go_enter Try.func38, Try.ntmps38
 go_wp2
 go_ret
 exact ⟨by first | rfl | (simp; done) | (simp [*]; done), by repeat (first | exact Drawn0.refl _ | apply Drawn0.step)⟩
def wire_ReadU.l0 : Nat → Int → Int → Int → List Int → Int → Int → Option (Int × Int × Int)
 | 0, _, _, _, _, _, _ => none
 | k + 1, x1, x7, x8, x22, x23, x24 => if x24 < x23 then (if 0 ≤ x24 then (if x24 < (x22.length : Int) then (if 0 ≤ (wrap64 (7 * x24)) then (if (rd x22 x24) ≥ 128 then (if x24 = 9 then (if (rd x22 x24) > 1 then (some (0, 0, 5)) else (if (rd x22 x24) = 0 then (if x24 > 0 then (some (0, 0, 5)) else (some (Go.bits .or .u64 x7 (shl .u64 (IntKind.u64.wrap (Go.bits .and .u8 (rd x22 x24) 127)) (wrap64 (7 * x24))), wrap64 ((wrap64 (x1 + x24)) + 1), 0))) else (some (Go.bits .or .u64 x7 (shl .u64 (IntKind.u64.wrap (Go.bits .and .u8 (rd x22 x24) 127)) (wrap64 (7 * x24))), wrap64 ((wrap64 (x1 + x24)) + 1), 0)))) else (wire_ReadU.l0 k x1 (Go.bits .or .u64 x7 (shl .u64 (IntKind.u64.wrap (Go.bits .and .u8 (rd x22 x24) 127)) (wrap64 (7 * x24)))) x8 x22 x23 (wrap64 (x24 + 1)))) else (if x24 = 9 then (if (rd x22 x24) > 1 then (some (0, 0, 5)) else (if (rd x22 x24) = 0 then (if x24 > 0 then (some (0, 0, 5)) else (some (Go.bits .or .u64 x7 (shl .u64 (IntKind.u64.wrap (Go.bits .and .u8 (rd x22 x24) 127)) (wrap64 (7 * x24))), wrap64 ((wrap64 (x1 + x24)) + 1), 0))) else (some (Go.bits .or .u64 x7 (shl .u64 (IntKind.u64.wrap (Go.bits .and .u8 (rd x22 x24) 127)) (wrap64 (7 * x24))), wrap64 ((wrap64 (x1 + x24)) + 1), 0)))) else (if (rd x22 x24) = 0 then (if x24 > 0 then (some (0, 0, 5)) else (some (Go.bits .or .u64 x7 (shl .u64 (IntKind.u64.wrap (Go.bits .and .u8 (rd x22 x24) 127)) (wrap64 (7 * x24))), wrap64 ((wrap64 (x1 + x24)) + 1), 0))) else (some (Go.bits .or .u64 x7 (shl .u64 (IntKind.u64.wrap (Go.bits .and .u8 (rd x22 x24) 127)) (wrap64 (7 * x24))), wrap64 ((wrap64 (x1 + x24)) + 1), 0))))) else (none)) else (none)) else (none)) else (some (0, 0, x8))
def wire_ReadU.f (k : Nat) (l0 : List Int) (a1 : Int) : Option (Int × Int × Int) := if a1 < 0 then (some (0, 0, 1)) else (if a1 > (l0.length : Int) then (some (0, 0, 1)) else (if 0 ≤ a1 then (if a1 ≤ (l0.length : Int) then (wire_ReadU.l0 k a1 0 6 (l0.drop (a1 : Int).toNat) ((l0.drop (a1 : Int).toNat).length : Int) 0) else (none)) else (none)))
theorem wire_ReadU.mono_l : ∀ k, (∀ y0 y1 y2 y3 y4 y5, LeO (wire_ReadU.l0 k y0 y1 y2 y3 y4 y5) (wire_ReadU.l0 (k + 1) y0 y1 y2 y3 y4 y5))
 | 0 => fun _ _ _ _ _ _ r h => by simp [wire_ReadU.l0] at h
 | k + 1 => by
  have ih0 := wire_ReadU.mono_l k
  ·intro y0 y1 y2 y3 y4 y5
   unfold wire_ReadU.l0
   repeat' first
   | (with_reducible exact ih0 _ _ _ _ _ _)
   | (with_reducible exact LeO.refl _)
   | (with_reducible exact LeO.none _)
   | (with_reducible refine LeO.ite ?_ ?_)
   | (with_reducible refine LeO.bind ?_ (fun _ => ?_))
   | exact ih0 _ _ _ _ _ _
   | exact LeO.none _
   | refine LeO.ite ?_ ?_
   | refine LeO.bind ?_ (fun _ => ?_)
theorem wire_ReadU.mono : ∀ a0 a1 k, LeO (wire_ReadU.f k a0 a1) (wire_ReadU.f (k + 1) a0 a1) := by
 intro a0 a1 k
 have ih0 := wire_ReadU.mono_l k
 unfold wire_ReadU.f
 repeat' first
   | (with_reducible exact ih0 _ _ _ _ _ _)
   | (with_reducible exact LeO.refl _)
   | (with_reducible exact LeO.none _)
   | (with_reducible refine LeO.ite ?_ ?_)
   | (with_reducible refine LeO.bind ?_ (fun _ => ?_))
   | exact ih0 _ _ _ _ _ _
   | exact LeO.none _
   | refine LeO.ite ?_ ?_
   | refine LeO.bind ?_ (fun _ => ?_)
set_option maxHeartbeats 8000000 in
set_option maxRecDepth 100000 in
theorem wire_ReadU.calls (k : Nat) (A0 : Option Addr) (c0 : Nat) (l0 : List Int) (a1 : Int) (r1 : Int) (r2 : Int) (r3 : Int) (w : World) (hr0 : Kd.C (Kd.int .u8) w A0 l0.length l0) (hc0 : l0.length ≤ c0) (h : wire_ReadU.f k l0 a1 = some (r1, r2, r3)) :
  Calls Try.prog 30 #[.slice A0 l0.length c0, .int .i64 a1] w fun e w' => e = .returned (.tuple #[.int .u64 r1, .int .i64 r2, .int .i64 r3]) ∧ Drawn0 w w' := by
 have HR0 := Aside0.mk hr0
 have HC0 := Aside0.mk hc0
 clear hr0 hc0
 have H : (if a1 < 0 then (some (0, 0, 1)) else (if a1 > (l0.length : Int) then (some (0, 0, 1)) else (if 0 ≤ a1 then (if a1 ≤ (l0.length : Int) then (wire_ReadU.l0 k a1 0 6 (l0.drop (a1 : Int).toNat) ((l0.drop (a1 : Int).toNat).length : Int) 0) else (none)) else (none)))) = some (r1, r2, r3) := h
 clear h
 by_cases c3 : a1 < 0
 ·rw [if_pos c3] at H
  have c3b0 : decide (a1 < 0) = true := decide_eq_true c3
  clear c3
  simp only [Option.some.injEq, Prod.mk.injEq] at H
  obtain ⟨rfl, rfl, rfl⟩ := H
  go_enter Try.func30, Try.ntmps30
  go_wp2
  apply wp_scope_straight
  go_wp2
  (try rw [Exit.noGoto_ret])
  go_ret3
  exact ⟨by first | rfl | (simp; done) | (simp [*]; done), by repeat (first | exact Drawn0.refl _ | apply Drawn0.step)⟩
 ·rw [if_neg c3] at H
  have c3b0 : decide (a1 < 0) = false := decide_eq_false c3
  clear c3
  by_cases c4 : a1 > (l0.length : Int)
  ·rw [if_pos c4] at H
   have c4b0 : decide ((l0.length : Int) < a1) = true := decide_eq_true c4
   clear c4
   simp only [Option.some.injEq, Prod.mk.injEq] at H
   obtain ⟨rfl, rfl, rfl⟩ := H
   go_enter Try.func30, Try.ntmps30
   go_wp2
   apply wp_scope_straight
   go_wp2
   (try rw [Exit.noGoto_ret])
   go_ret3
   exact ⟨by first | rfl | (simp; done) | (simp [*]; done), by repeat (first | exact Drawn0.refl _ | apply Drawn0.step)⟩
  ·rw [if_neg c4] at H
   have c4b0 : decide ((l0.length : Int) < a1) = false := decide_eq_false c4
   clear c4
   by_cases c5 : 0 ≤ a1
   rotate_left
   ·rw [if_neg c5] at H
    exact absurd H (by simp)
   rw [if_pos c5] at H
   have c5b0 := eq_true c5
   have c5b1 : decide (0 ≤ a1) = true := decide_eq_true c5
   clear c5
   by_cases c6 : a1 ≤ (l0.length : Int)
   rotate_left
   ·rw [if_neg c6] at H
    exact absurd H (by simp)
   rw [if_pos c6] at H
   have c6b0 := eq_true c6
   have c6b1 : decide (a1 ≤ (l0.length : Int)) = true := decide_eq_true c6
   clear c6
   have H' := Aside0.mk H
   clear H
   obtain ⟨i07, hi07, _, hsz7, _⟩ := info_parts info5
   obtain ⟨A7, hcut7, hA7, hC7⟩ := print_drop_of (P := Try.prog) (Value.int .u8) 0 32 5 .i64 Try.underlying32 hi07 hsz7 A0 c0 l0 a1 (of_decide_eq_true (by first | (with_reducible assumption) | assumption)) (of_decide_eq_true (by first | (with_reducible assumption) | assumption)) HC0.out
   have HR101 := Aside0.mk (Kd.C_of_reads (h1 := fun _ => rfl) (hA7 _ (Kd.reads_of_C HR0.out)))
   have HC101 := Aside0.mk hC7
   clear hA7 hC7 hi07 hsz7
   generalize l0.drop (a1 : Int).toNat = Xc at *
   go_enter Try.func30, Try.ntmps30
   go_wp2
   apply wp_scope_straight
   go_wp2
   (try (apply wp_label; go_wp2))
   go_loopg [7, 8, 24] k (fun kq v7 v8 v24 w' => ∃ (x7_1 : Int) (x8_1 : Int) (x24_1 : Int), v7 = .int .u64 x7_1 ∧ v8 = .int .i64 x8_1 ∧ v24 = .int .i64 x24_1 ∧ Aside0 (wire_ReadU.l0 kq a1 x7_1 x8_1 Xc (Xc.length : Int) x24_1 = some (r1, r2, r3)) ∧ Aside0 (kq ≤ k) ∧ Drawn0 w w')
   case atStart => exact ⟨(0), (6), (0), (by first | rfl | (simp; done) | (simp [*]; done)), (by first | rfl | (simp; done) | (simp [*]; done)), (by first | rfl | (simp; done) | (simp [*]; done)), H', ⟨Nat.le_refl _⟩, by repeat (first | exact Drawn0.refl _ | apply Drawn0.step)⟩
   case round =>
    clear H'
    try clear p2
    try clear c3
    try clear c3b0
    try clear c4
    try clear c4b0
    try clear c5
    try clear c5b0
    try clear c5b1
    try clear c6
    try clear c6b0
    try clear c6b1
    obtain ⟨x7_1, x8_1, x24_1, rfl, rfl, rfl, HA, HK1, ⟨m1, rfl⟩⟩ := hrel
    cases gk with
    | zero => exact absurd HA.out (by simp [wire_ReadU.l0])
    | succ k1 =>
     have H := HA.out
     clear HA
     simp only [wire_ReadU.l0] at H
     by_cases c8 : x24_1 < (Xc.length : Int)
     rotate_left
     ·rw [if_neg c8] at H
      have c8b0 : decide (x24_1 < (Xc.length : Int)) = false := decide_eq_false c8
      clear c8
      simp only [Option.some.injEq, Prod.mk.injEq] at H
      obtain ⟨rfl, rfl, rfl⟩ := H
      go_wp2
      (try rw [Exit.noGoto_ret])
      go_ret3
      exact ⟨by first | rfl | (simp; done) | (simp [*]; done), by repeat (first | exact Drawn0.refl _ | apply Drawn0.step)⟩
     rw [if_pos c8] at H
     have c8b0 : decide (x24_1 < (Xc.length : Int)) = true := decide_eq_true c8
     clear c8
     by_cases c9 : 0 ≤ x24_1
     rotate_left
     ·rw [if_neg c9] at H
      exact absurd H (by simp)
     rw [if_pos c9] at H
     have c9b0 : decide (0 ≤ x24_1) = true := decide_eq_true c9
     clear c9
     by_cases c10 : x24_1 < (Xc.length : Int)
     rotate_left
     ·rw [if_neg c10] at H
      exact absurd H (by simp)
     rw [if_pos c10] at H
     have c10b0 : decide (x24_1 < (Xc.length : Int)) = true := decide_eq_true c10
     clear c10
     obtain ⟨ji11, hji11⟩ : ∃ j_ : Int, (wrap64 (7 * x24_1)) = j_ := ⟨_, rfl⟩
     replace H : (if 0 ≤ (ji11) then (if (rd Xc x24_1) ≥ 128 then (if x24_1 = 9 then (if (rd Xc x24_1) > 1 then (some (0, 0, 5)) else (if (rd Xc x24_1) = 0 then (if x24_1 > 0 then (some (0, 0, 5)) else (some (Go.bits .or .u64 x7_1 (shl .u64 (IntKind.u64.wrap (Go.bits .and .u8 (rd Xc x24_1) 127)) (ji11)), wrap64 ((wrap64 (a1 + x24_1)) + 1), 0))) else (some (Go.bits .or .u64 x7_1 (shl .u64 (IntKind.u64.wrap (Go.bits .and .u8 (rd Xc x24_1) 127)) (ji11)), wrap64 ((wrap64 (a1 + x24_1)) + 1), 0)))) else (wire_ReadU.l0 k1 a1 (Go.bits .or .u64 x7_1 (shl .u64 (IntKind.u64.wrap (Go.bits .and .u8 (rd Xc x24_1) 127)) (ji11))) x8_1 Xc (Xc.length : Int) (wrap64 (x24_1 + 1)))) else (if x24_1 = 9 then (if (rd Xc x24_1) > 1 then (some (0, 0, 5)) else (if (rd Xc x24_1) = 0 then (if x24_1 > 0 then (some (0, 0, 5)) else (some (Go.bits .or .u64 x7_1 (shl .u64 (IntKind.u64.wrap (Go.bits .and .u8 (rd Xc x24_1) 127)) (ji11)), wrap64 ((wrap64 (a1 + x24_1)) + 1), 0))) else (some (Go.bits .or .u64 x7_1 (shl .u64 (IntKind.u64.wrap (Go.bits .and .u8 (rd Xc x24_1) 127)) (ji11)), wrap64 ((wrap64 (a1 + x24_1)) + 1), 0)))) else (if (rd Xc x24_1) = 0 then (if x24_1 > 0 then (some (0, 0, 5)) else (some (Go.bits .or .u64 x7_1 (shl .u64 (IntKind.u64.wrap (Go.bits .and .u8 (rd Xc x24_1) 127)) (ji11)), wrap64 ((wrap64 (a1 + x24_1)) + 1), 0))) else (some (Go.bits .or .u64 x7_1 (shl .u64 (IntKind.u64.wrap (Go.bits .and .u8 (rd Xc x24_1) 127)) (ji11)), wrap64 ((wrap64 (a1 + x24_1)) + 1), 0))))) else (none)) = some (r1, r2, r3) := by first | (rw [hji11] at H; exact H) | (simp only [hji11] at H ⊢; exact H)
     have hji11w : (IntKind.i64.wrap (7 * x24_1)) = ji11 := (i64_w _).trans hji11
     by_cases c12 : 0 ≤ (ji11)
     rotate_left
     ·rw [if_neg c12] at H
      exact absurd H (by simp)
     rw [if_pos c12] at H
     have c12b0 := eq_true c12
     have c12b1 : decide (0 ≤ (ji11)) = true := decide_eq_true c12
     clear c12
     obtain ⟨ji13, hji13⟩ : ∃ j_ : Int, (shl .u64 (IntKind.u64.wrap (Go.bits .and .u8 (rd Xc x24_1) 127)) (ji11)) = j_ := ⟨_, rfl⟩
     replace H : (if (rd Xc x24_1) ≥ 128 then (if x24_1 = 9 then (if (rd Xc x24_1) > 1 then (some (0, 0, 5)) else (if (rd Xc x24_1) = 0 then (if x24_1 > 0 then (some (0, 0, 5)) else (some (Go.bits .or .u64 x7_1 (ji13), wrap64 ((wrap64 (a1 + x24_1)) + 1), 0))) else (some (Go.bits .or .u64 x7_1 (ji13), wrap64 ((wrap64 (a1 + x24_1)) + 1), 0)))) else (wire_ReadU.l0 k1 a1 (Go.bits .or .u64 x7_1 (ji13)) x8_1 Xc (Xc.length : Int) (wrap64 (x24_1 + 1)))) else (if x24_1 = 9 then (if (rd Xc x24_1) > 1 then (some (0, 0, 5)) else (if (rd Xc x24_1) = 0 then (if x24_1 > 0 then (some (0, 0, 5)) else (some (Go.bits .or .u64 x7_1 (ji13), wrap64 ((wrap64 (a1 + x24_1)) + 1), 0))) else (some (Go.bits .or .u64 x7_1 (ji13), wrap64 ((wrap64 (a1 + x24_1)) + 1), 0)))) else (if (rd Xc x24_1) = 0 then (if x24_1 > 0 then (some (0, 0, 5)) else (some (Go.bits .or .u64 x7_1 (ji13), wrap64 ((wrap64 (a1 + x24_1)) + 1), 0))) else (some (Go.bits .or .u64 x7_1 (ji13), wrap64 ((wrap64 (a1 + x24_1)) + 1), 0))))) = some (r1, r2, r3) := by first | (rw [hji13] at H; exact H) | (simp only [hji13] at H ⊢; exact H)
     have hji13_ : (IntKind.u64.wrap ((IntKind.u64.wrap (Go.bits .and .u8 (rd Xc x24_1) 127)) * 2 ^ min (ji11).toNat 64)) = ji13 := hji13
     have hji13z : (ji11) ≤ 64 → (IntKind.u64.wrap ((IntKind.u64.wrap (Go.bits .and .u8 (rd Xc x24_1) 127)) * 2 ^ (ji11).toNat)) = ji13 := shl_small hji13
     by_cases c14 : (rd Xc x24_1) ≥ 128
     ·rw [if_pos c14] at H
      have c14b0 : decide (128 ≤ (rd Xc x24_1)) = true := decide_eq_true c14
      clear c14
      by_cases c15 : x24_1 = 9
      ·rw [if_pos c15] at H
       have c15b0 : (x24_1 == 9) = true := beq_iff_eq.mpr c15
       have c15b1 : (x24_1 != 9) = false := bne_eq_false_iff_eq.mpr c15
       clear c15
       by_cases c16 : (rd Xc x24_1) > 1
       ·rw [if_pos c16] at H
        have c16b0 : decide (1 < (rd Xc x24_1)) = true := decide_eq_true c16
        clear c16
        simp only [Option.some.injEq, Prod.mk.injEq] at H
        obtain ⟨rfl, rfl, rfl⟩ := H
        have p102 : 0 ≤ (x24_1 : Int) := of_decide_eq_true (by first | (with_reducible assumption) | assumption)
        have q102 : x24_1 < (Xc.length : Int) := of_decide_eq_true (by first | (with_reducible assumption) | assumption)
        obtain ⟨ad102, e102, hx102_0⟩ := Kd.at_int HR101.out x24_1 p102 q102
        cases e102
        replace p102 := eq_true p102
        replace q102 := eq_true q102
        go_wp2
        (try rw [Exit.noGoto_ret])
        go_ret3
        exact ⟨by first | rfl | (simp; done) | (simp only [← hji11, ← hji13] <;> (first | rfl | simp)) | (simp [*]; done), by repeat (first | exact Drawn0.refl _ | apply Drawn0.step)⟩
       ·rw [if_neg c16] at H
        have c16b0 : decide (1 < (rd Xc x24_1)) = false := decide_eq_false c16
        clear c16
        by_cases c17 : (rd Xc x24_1) = 0
        ·rw [if_pos c17] at H
         have c17b0 : ((rd Xc x24_1) == 0) = true := beq_iff_eq.mpr c17
         have c17b1 : ((rd Xc x24_1) != 0) = false := bne_eq_false_iff_eq.mpr c17
         clear c17
         by_cases c18 : x24_1 > 0
         ·rw [if_pos c18] at H
          have c18b0 : decide (0 < x24_1) = true := decide_eq_true c18
          clear c18
          simp only [Option.some.injEq, Prod.mk.injEq] at H
          obtain ⟨rfl, rfl, rfl⟩ := H
          have p102 : 0 ≤ (x24_1 : Int) := of_decide_eq_true (by first | (with_reducible assumption) | assumption)
          have q102 : x24_1 < (Xc.length : Int) := of_decide_eq_true (by first | (with_reducible assumption) | assumption)
          obtain ⟨ad102, e102, hx102_0⟩ := Kd.at_int HR101.out x24_1 p102 q102
          cases e102
          replace p102 := eq_true p102
          replace q102 := eq_true q102
          go_wp2
          (try rw [Exit.noGoto_ret])
          go_ret3
          exact ⟨by first | rfl | (simp; done) | (simp only [← hji11, ← hji13] <;> (first | rfl | simp)) | (simp [*]; done), by repeat (first | exact Drawn0.refl _ | apply Drawn0.step)⟩
         ·rw [if_neg c18] at H
          have c18b0 : decide (0 < x24_1) = false := decide_eq_false c18
          clear c18
          simp only [Option.some.injEq, Prod.mk.injEq] at H
          obtain ⟨rfl, rfl, rfl⟩ := H
          have p102 : 0 ≤ (x24_1 : Int) := of_decide_eq_true (by first | (with_reducible assumption) | assumption)
          have q102 : x24_1 < (Xc.length : Int) := of_decide_eq_true (by first | (with_reducible assumption) | assumption)
          obtain ⟨ad102, e102, hx102_0⟩ := Kd.at_int HR101.out x24_1 p102 q102
          cases e102
          replace p102 := eq_true p102
          replace q102 := eq_true q102
          go_wp2
          (try rw [Exit.noGoto_ret])
          go_ret3
          exact ⟨by first | rfl | (simp; done) | (simp only [← hji11, ← hji13] <;> (first | rfl | simp)) | (simp [*]; done), by repeat (first | exact Drawn0.refl _ | apply Drawn0.step)⟩
        ·rw [if_neg c17] at H
         have c17b0 : ((rd Xc x24_1) == 0) = false := beq_eq_false_iff_ne.mpr c17
         have c17b1 : ((rd Xc x24_1) != 0) = true := bne_iff_ne.mpr c17
         simp only [Option.some.injEq, Prod.mk.injEq] at H
         obtain ⟨rfl, rfl, rfl⟩ := H
         have p102 : 0 ≤ (x24_1 : Int) := of_decide_eq_true (by first | (with_reducible assumption) | assumption)
         have q102 : x24_1 < (Xc.length : Int) := of_decide_eq_true (by first | (with_reducible assumption) | assumption)
         obtain ⟨ad102, e102, hx102_0⟩ := Kd.at_int HR101.out x24_1 p102 q102
         cases e102
         replace p102 := eq_true p102
         replace q102 := eq_true q102
         go_wp2
         (try rw [Exit.noGoto_ret])
         go_ret3
         exact ⟨by first | rfl | (simp; done) | (simp only [← hji11, ← hji13] <;> (first | rfl | simp)) | (simp [*]; done), by repeat (first | exact Drawn0.refl _ | apply Drawn0.step)⟩
      ·rw [if_neg c15] at H
       have c15b0 : (x24_1 == 9) = false := beq_eq_false_iff_ne.mpr c15
       have c15b1 : (x24_1 != 9) = true := bne_iff_ne.mpr c15
       have H' := Aside0.mk H
       clear H
       have p102 : 0 ≤ (x24_1 : Int) := of_decide_eq_true (by first | (with_reducible assumption) | assumption)
       have q102 : x24_1 < (Xc.length : Int) := of_decide_eq_true (by first | (with_reducible assumption) | assumption)
       obtain ⟨ad102, e102, hx102_0⟩ := Kd.at_int HR101.out x24_1 p102 q102
       cases e102
       replace p102 := eq_true p102
       replace q102 := eq_true q102
       go_wp2
       go_roundg k1
       case measure => have := HK1.out; omega
       case rel => exact ⟨(Go.bits .or .u64 x7_1 (ji13)), (x8_1), (wrap64 (x24_1 + 1)), (by first | rfl | (simp; done) | (simp only [← hji13] <;> (first | rfl | simp)) | (simp [*]; done)), (by first | rfl | (simp; done) | (simp [*]; done)), (by first | rfl | (simp; done) | (simp [*]; done)), H', ⟨by have := HK1.out; omega⟩, by repeat (first | exact Drawn0.refl _ | apply Drawn0.step)⟩
     ·rw [if_neg c14] at H
      have c14b0 : decide (128 ≤ (rd Xc x24_1)) = false := decide_eq_false c14
      clear c14
      by_cases c19 : x24_1 = 9
      ·rw [if_pos c19] at H
       have c19b0 : (x24_1 == 9) = true := beq_iff_eq.mpr c19
       have c19b1 : (x24_1 != 9) = false := bne_eq_false_iff_eq.mpr c19
       clear c19
       by_cases c20 : (rd Xc x24_1) > 1
       ·rw [if_pos c20] at H
        have c20b0 : decide (1 < (rd Xc x24_1)) = true := decide_eq_true c20
        clear c20
        simp only [Option.some.injEq, Prod.mk.injEq] at H
        obtain ⟨rfl, rfl, rfl⟩ := H
        have p102 : 0 ≤ (x24_1 : Int) := of_decide_eq_true (by first | (with_reducible assumption) | assumption)
        have q102 : x24_1 < (Xc.length : Int) := of_decide_eq_true (by first | (with_reducible assumption) | assumption)
        obtain ⟨ad102, e102, hx102_0⟩ := Kd.at_int HR101.out x24_1 p102 q102
        cases e102
        replace p102 := eq_true p102
        replace q102 := eq_true q102
        go_wp2
        (try rw [Exit.noGoto_ret])
        go_ret3
        exact ⟨by first | rfl | (simp; done) | (simp only [← hji11, ← hji13] <;> (first | rfl | simp)) | (simp [*]; done), by repeat (first | exact Drawn0.refl _ | apply Drawn0.step)⟩
       ·rw [if_neg c20] at H
        have c20b0 : decide (1 < (rd Xc x24_1)) = false := decide_eq_false c20
        clear c20
        by_cases c21 : (rd Xc x24_1) = 0
        ·rw [if_pos c21] at H
         have c21b0 : ((rd Xc x24_1) == 0) = true := beq_iff_eq.mpr c21
         have c21b1 : ((rd Xc x24_1) != 0) = false := bne_eq_false_iff_eq.mpr c21
         clear c21
         by_cases c22 : x24_1 > 0
         ·rw [if_pos c22] at H
          have c22b0 : decide (0 < x24_1) = true := decide_eq_true c22
          clear c22
          simp only [Option.some.injEq, Prod.mk.injEq] at H
          obtain ⟨rfl, rfl, rfl⟩ := H
          have p102 : 0 ≤ (x24_1 : Int) := of_decide_eq_true (by first | (with_reducible assumption) | assumption)
          have q102 : x24_1 < (Xc.length : Int) := of_decide_eq_true (by first | (with_reducible assumption) | assumption)
          obtain ⟨ad102, e102, hx102_0⟩ := Kd.at_int HR101.out x24_1 p102 q102
          cases e102
          replace p102 := eq_true p102
          replace q102 := eq_true q102
          go_wp2
          (try rw [Exit.noGoto_ret])
          go_ret3
          exact ⟨by first | rfl | (simp; done) | (simp only [← hji11, ← hji13] <;> (first | rfl | simp)) | (simp [*]; done), by repeat (first | exact Drawn0.refl _ | apply Drawn0.step)⟩
         ·rw [if_neg c22] at H
          have c22b0 : decide (0 < x24_1) = false := decide_eq_false c22
          clear c22
          simp only [Option.some.injEq, Prod.mk.injEq] at H
          obtain ⟨rfl, rfl, rfl⟩ := H
          have p102 : 0 ≤ (x24_1 : Int) := of_decide_eq_true (by first | (with_reducible assumption) | assumption)
          have q102 : x24_1 < (Xc.length : Int) := of_decide_eq_true (by first | (with_reducible assumption) | assumption)
          obtain ⟨ad102, e102, hx102_0⟩ := Kd.at_int HR101.out x24_1 p102 q102
          cases e102
          replace p102 := eq_true p102
          replace q102 := eq_true q102
          go_wp2
          (try rw [Exit.noGoto_ret])
          go_ret3
          exact ⟨by first | rfl | (simp; done) | (simp only [← hji11, ← hji13] <;> (first | rfl | simp)) | (simp [*]; done), by repeat (first | exact Drawn0.refl _ | apply Drawn0.step)⟩
        ·rw [if_neg c21] at H
         have c21b0 : ((rd Xc x24_1) == 0) = false := beq_eq_false_iff_ne.mpr c21
         have c21b1 : ((rd Xc x24_1) != 0) = true := bne_iff_ne.mpr c21
         simp only [Option.some.injEq, Prod.mk.injEq] at H
         obtain ⟨rfl, rfl, rfl⟩ := H
         have p102 : 0 ≤ (x24_1 : Int) := of_decide_eq_true (by first | (with_reducible assumption) | assumption)
         have q102 : x24_1 < (Xc.length : Int) := of_decide_eq_true (by first | (with_reducible assumption) | assumption)
         obtain ⟨ad102, e102, hx102_0⟩ := Kd.at_int HR101.out x24_1 p102 q102
         cases e102
         replace p102 := eq_true p102
         replace q102 := eq_true q102
         go_wp2
         (try rw [Exit.noGoto_ret])
         go_ret3
         exact ⟨by first | rfl | (simp; done) | (simp only [← hji11, ← hji13] <;> (first | rfl | simp)) | (simp [*]; done), by repeat (first | exact Drawn0.refl _ | apply Drawn0.step)⟩
      ·rw [if_neg c19] at H
       have c19b0 : (x24_1 == 9) = false := beq_eq_false_iff_ne.mpr c19
       have c19b1 : (x24_1 != 9) = true := bne_iff_ne.mpr c19
       by_cases c23 : (rd Xc x24_1) = 0
       ·rw [if_pos c23] at H
        have c23b0 : ((rd Xc x24_1) == 0) = true := beq_iff_eq.mpr c23
        have c23b1 : ((rd Xc x24_1) != 0) = false := bne_eq_false_iff_eq.mpr c23
        clear c23
        by_cases c24 : x24_1 > 0
        ·rw [if_pos c24] at H
         have c24b0 : decide (0 < x24_1) = true := decide_eq_true c24
         clear c24
         simp only [Option.some.injEq, Prod.mk.injEq] at H
         obtain ⟨rfl, rfl, rfl⟩ := H
         have p102 : 0 ≤ (x24_1 : Int) := of_decide_eq_true (by first | (with_reducible assumption) | assumption)
         have q102 : x24_1 < (Xc.length : Int) := of_decide_eq_true (by first | (with_reducible assumption) | assumption)
         obtain ⟨ad102, e102, hx102_0⟩ := Kd.at_int HR101.out x24_1 p102 q102
         cases e102
         replace p102 := eq_true p102
         replace q102 := eq_true q102
         go_wp2
         (try rw [Exit.noGoto_ret])
         go_ret3
         exact ⟨by first | rfl | (simp; done) | (simp only [← hji11, ← hji13] <;> (first | rfl | simp)) | (simp [*]; done), by repeat (first | exact Drawn0.refl _ | apply Drawn0.step)⟩
        ·rw [if_neg c24] at H
         have c24b0 : decide (0 < x24_1) = false := decide_eq_false c24
         clear c24
         simp only [Option.some.injEq, Prod.mk.injEq] at H
         obtain ⟨rfl, rfl, rfl⟩ := H
         have p102 : 0 ≤ (x24_1 : Int) := of_decide_eq_true (by first | (with_reducible assumption) | assumption)
         have q102 : x24_1 < (Xc.length : Int) := of_decide_eq_true (by first | (with_reducible assumption) | assumption)
         obtain ⟨ad102, e102, hx102_0⟩ := Kd.at_int HR101.out x24_1 p102 q102
         cases e102
         replace p102 := eq_true p102
         replace q102 := eq_true q102
         go_wp2
         (try rw [Exit.noGoto_ret])
         go_ret3
         exact ⟨by first | rfl | (simp; done) | (simp only [← hji11, ← hji13] <;> (first | rfl | simp)) | (simp [*]; done), by repeat (first | exact Drawn0.refl _ | apply Drawn0.step)⟩
       ·rw [if_neg c23] at H
        have c23b0 : ((rd Xc x24_1) == 0) = false := beq_eq_false_iff_ne.mpr c23
        have c23b1 : ((rd Xc x24_1) != 0) = true := bne_iff_ne.mpr c23
        simp only [Option.some.injEq, Prod.mk.injEq] at H
        obtain ⟨rfl, rfl, rfl⟩ := H
        have p102 : 0 ≤ (x24_1 : Int) := of_decide_eq_true (by first | (with_reducible assumption) | assumption)
        have q102 : x24_1 < (Xc.length : Int) := of_decide_eq_true (by first | (with_reducible assumption) | assumption)
        obtain ⟨ad102, e102, hx102_0⟩ := Kd.at_int HR101.out x24_1 p102 q102
        cases e102
        replace p102 := eq_true p102
        replace q102 := eq_true q102
        go_wp2
        (try rw [Exit.noGoto_ret])
        go_ret3
        exact ⟨by first | rfl | (simp; done) | (simp only [← hji11, ← hji13] <;> (first | rfl | simp)) | (simp [*]; done), by repeat (first | exact Drawn0.refl _ | apply Drawn0.step)⟩
def wire_ReadS.f (k : Nat) (l0 : List Int) (a1 : Int) : Option (Int × Int × Int) := (wire_ReadU.f k l0 a1).bind fun bt101 => (some (Go.bits .xor .i64 (wrap64 (bt101.1 / 2)) (wrap64 (-(wrap64 (Go.bits .and .u64 bt101.1 1)))), bt101.2.1, bt101.2.2))
theorem wire_ReadS.mono : ∀ a0 a1 k, LeO (wire_ReadS.f k a0 a1) (wire_ReadS.f (k + 1) a0 a1) := by
 intro a0 a1 k
 unfold wire_ReadS.f
 repeat' first
   | (with_reducible exact wire_ReadU.mono _ _ _)
   | (with_reducible exact LeO.refl _)
   | (with_reducible exact LeO.none _)
   | (with_reducible refine LeO.ite ?_ ?_)
   | (with_reducible refine LeO.bind ?_ (fun _ => ?_))
   | exact wire_ReadU.mono _ _ _
   | exact LeO.none _
   | refine LeO.ite ?_ ?_
   | refine LeO.bind ?_ (fun _ => ?_)
set_option maxHeartbeats 8000000 in
set_option maxRecDepth 100000 in
theorem wire_ReadS.calls (k : Nat) (A0 : Option Addr) (c0 : Nat) (l0 : List Int) (a1 : Int) (r1 : Int) (r2 : Int) (r3 : Int) (w : World) (hr0 : Kd.C (Kd.int .u8) w A0 l0.length l0) (hc0 : l0.length ≤ c0) (h : wire_ReadS.f k l0 a1 = some (r1, r2, r3)) :
  Calls Try.prog 71 #[.slice A0 l0.length c0, .int .i64 a1] w fun e w' => e = .returned (.tuple #[.int .i64 r1, .int .i64 r2, .int .i64 r3]) ∧ Drawn0 w w' := by
 have HR0 := Aside0.mk hr0
 have HC0 := Aside0.mk hc0
 clear hr0 hc0
 have H : ((wire_ReadU.f k l0 a1).bind fun bt101 => (some (Go.bits .xor .i64 (wrap64 (bt101.1 / 2)) (wrap64 (-(wrap64 (Go.bits .and .u64 bt101.1 1)))), bt101.2.1, bt101.2.2))) = some (r1, r2, r3) := h
 clear h
 replace H := Option.bind_eq_some_iff.mp H
 obtain ⟨⟨t101, t102, t103⟩, A30, H⟩ := H
 (try dsimp only at H)
 have A3 := Aside0.mk A30
 clear A30
 simp only [Option.some.injEq, Prod.mk.injEq] at H
 obtain ⟨rfl, rfl, rfl⟩ := H
 go_enter Try.func71, Try.ntmps71
 go_wp2_with (first | ((with_reducible refine gate_callee (f := 30) rfl ?_); refine goesL_ (some 13) rfl rfl Try.func30 (by kernel_rfl) rfl #[.slice A0 l0.length c0, .int .i64 a1] rfl (by (try simp only [List.map_toArray, List.map_cons, List.map_nil]) <;> rfl) ?_; (with_reducible refine (wire_ReadU.calls k _ _ l0 a1 t101 t102 t103 _ ?side1 ?side2 A3.out).mono ?_); (case side1 => exact xC HR0.out); (case side2 => exact HC0.out); rintro e w' ⟨rfl, ⟨nd, rfl⟩⟩; refine ⟨_, rfl, ?_⟩))
 go_ret3
 exact ⟨by first | rfl | (simp; done) | (simp [*]; done), by repeat (first | exact Drawn0.refl _ | apply Drawn0.step)⟩
def wire_span.f (k : Nat) (l0 : List Int) (a1 : Int) : Option (Int × Int × Int) := (wire_ReadU.f k l0 a1).bind fun bt101 => (if bt101.2.2 = 0 then (if bt101.1 > 1048576 then (some (0, 0, 2)) else (if (wrap64 (bt101.1)) > (wrap64 ((l0.length : Int) - bt101.2.1)) then (some (0, 0, 6)) else (some (bt101.2.1, wrap64 (bt101.2.1 + (wrap64 (bt101.1))), 0)))) else (some (0, 0, bt101.2.2)))
theorem wire_span.mono : ∀ a0 a1 k, LeO (wire_span.f k a0 a1) (wire_span.f (k + 1) a0 a1) := by
 intro a0 a1 k
 unfold wire_span.f
 repeat' first
   | (with_reducible exact wire_ReadU.mono _ _ _)
   | (with_reducible exact LeO.refl _)
   | (with_reducible exact LeO.none _)
   | (with_reducible refine LeO.ite ?_ ?_)
   | (with_reducible refine LeO.bind ?_ (fun _ => ?_))
   | exact wire_ReadU.mono _ _ _
   | exact LeO.none _
   | refine LeO.ite ?_ ?_
   | refine LeO.bind ?_ (fun _ => ?_)
set_option maxHeartbeats 8000000 in
set_option maxRecDepth 100000 in
theorem wire_span.calls (k : Nat) (A0 : Option Addr) (c0 : Nat) (l0 : List Int) (a1 : Int) (r1 : Int) (r2 : Int) (r3 : Int) (w : World) (hr0 : Kd.C (Kd.int .u8) w A0 l0.length l0) (hc0 : l0.length ≤ c0) (h : wire_span.f k l0 a1 = some (r1, r2, r3)) :
  Calls Try.prog 41 #[.slice A0 l0.length c0, .int .i64 a1] w fun e w' => e = .returned (.tuple #[.int .i64 r1, .int .i64 r2, .int .i64 r3]) ∧ Drawn0 w w' := by
 have HR0 := Aside0.mk hr0
 have HC0 := Aside0.mk hc0
 clear hr0 hc0
 have H : ((wire_ReadU.f k l0 a1).bind fun bt101 => (if bt101.2.2 = 0 then (if bt101.1 > 1048576 then (some (0, 0, 2)) else (if (wrap64 (bt101.1)) > (wrap64 ((l0.length : Int) - bt101.2.1)) then (some (0, 0, 6)) else (some (bt101.2.1, wrap64 (bt101.2.1 + (wrap64 (bt101.1))), 0)))) else (some (0, 0, bt101.2.2)))) = some (r1, r2, r3) := h
 clear h
 replace H := Option.bind_eq_some_iff.mp H
 obtain ⟨⟨t101, t102, t103⟩, A30, H⟩ := H
 (try dsimp only at H)
 have A3 := Aside0.mk A30
 clear A30
 by_cases c4 : t103 = 0
 rotate_left
 ·rw [if_neg c4] at H
  have c4b0 : (t103 == 0) = false := beq_eq_false_iff_ne.mpr c4
  have c4b1 : (t103 != 0) = true := bne_iff_ne.mpr c4
  simp only [Option.some.injEq, Prod.mk.injEq] at H
  obtain ⟨rfl, rfl, rfl⟩ := H
  go_enter Try.func41, Try.ntmps41
  go_wp2_with (first | ((with_reducible refine gate_callee (f := 30) rfl ?_); refine goesL_ (some 13) rfl rfl Try.func30 (by kernel_rfl) rfl #[.slice A0 l0.length c0, .int .i64 a1] rfl (by (try simp only [List.map_toArray, List.map_cons, List.map_nil]) <;> rfl) ?_; (with_reducible refine (wire_ReadU.calls k _ _ l0 a1 t101 t102 t103 _ ?side1 ?side2 A3.out).mono ?_); (case side1 => exact xC HR0.out); (case side2 => exact HC0.out); rintro e w' ⟨rfl, ⟨nd, rfl⟩⟩; refine ⟨_, rfl, ?_⟩))
  go_ret3
  exact ⟨by first | rfl | (simp; done) | (simp [*]; done), by repeat (first | exact Drawn0.refl _ | apply Drawn0.step)⟩
 rw [if_pos c4] at H
 have c4b0 : (t103 == 0) = true := beq_iff_eq.mpr c4
 have c4b1 : (t103 != 0) = false := bne_eq_false_iff_eq.mpr c4
 clear c4
 by_cases c5 : t101 > 1048576
 ·rw [if_pos c5] at H
  have c5b0 : decide (1048576 < t101) = true := decide_eq_true c5
  clear c5
  simp only [Option.some.injEq, Prod.mk.injEq] at H
  obtain ⟨rfl, rfl, rfl⟩ := H
  go_enter Try.func41, Try.ntmps41
  go_wp2_with (first | ((with_reducible refine gate_callee (f := 30) rfl ?_); refine goesL_ (some 13) rfl rfl Try.func30 (by kernel_rfl) rfl #[.slice A0 l0.length c0, .int .i64 a1] rfl (by (try simp only [List.map_toArray, List.map_cons, List.map_nil]) <;> rfl) ?_; (with_reducible refine (wire_ReadU.calls k _ _ l0 a1 t101 t102 t103 _ ?side1 ?side2 A3.out).mono ?_); (case side1 => exact xC HR0.out); (case side2 => exact HC0.out); rintro e w' ⟨rfl, ⟨nd, rfl⟩⟩; refine ⟨_, rfl, ?_⟩))
  go_ret3
  exact ⟨by first | rfl | (simp; done) | (simp [*]; done), by repeat (first | exact Drawn0.refl _ | apply Drawn0.step)⟩
 ·rw [if_neg c5] at H
  have c5b0 : decide (1048576 < t101) = false := decide_eq_false c5
  clear c5
  by_cases c6 : (wrap64 (t101)) > (wrap64 ((l0.length : Int) - t102))
  rotate_left
  ·rw [if_neg c6] at H
   have c6b0 : decide ((wrap64 ((l0.length : Int) - t102)) < (wrap64 (t101))) = false := decide_eq_false c6
   clear c6
   simp only [Option.some.injEq, Prod.mk.injEq] at H
   obtain ⟨rfl, rfl, rfl⟩ := H
   go_enter Try.func41, Try.ntmps41
   go_wp2_with (first | ((with_reducible refine gate_callee (f := 30) rfl ?_); refine goesL_ (some 13) rfl rfl Try.func30 (by kernel_rfl) rfl #[.slice A0 l0.length c0, .int .i64 a1] rfl (by (try simp only [List.map_toArray, List.map_cons, List.map_nil]) <;> rfl) ?_; (with_reducible refine (wire_ReadU.calls k _ _ l0 a1 t101 t102 t103 _ ?side1 ?side2 A3.out).mono ?_); (case side1 => exact xC HR0.out); (case side2 => exact HC0.out); rintro e w' ⟨rfl, ⟨nd, rfl⟩⟩; refine ⟨_, rfl, ?_⟩))
   go_ret3
   exact ⟨by first | rfl | (simp; done) | (simp [*]; done), by repeat (first | exact Drawn0.refl _ | apply Drawn0.step)⟩
  rw [if_pos c6] at H
  have c6b0 : decide ((wrap64 ((l0.length : Int) - t102)) < (wrap64 (t101))) = true := decide_eq_true c6
  clear c6
  simp only [Option.some.injEq, Prod.mk.injEq] at H
  obtain ⟨rfl, rfl, rfl⟩ := H
  go_enter Try.func41, Try.ntmps41
  go_wp2_with (first | ((with_reducible refine gate_callee (f := 30) rfl ?_); refine goesL_ (some 13) rfl rfl Try.func30 (by kernel_rfl) rfl #[.slice A0 l0.length c0, .int .i64 a1] rfl (by (try simp only [List.map_toArray, List.map_cons, List.map_nil]) <;> rfl) ?_; (with_reducible refine (wire_ReadU.calls k _ _ l0 a1 t101 t102 t103 _ ?side1 ?side2 A3.out).mono ?_); (case side1 => exact xC HR0.out); (case side2 => exact HC0.out); rintro e w' ⟨rfl, ⟨nd, rfl⟩⟩; refine ⟨_, rfl, ?_⟩))
  go_ret3
  exact ⟨by first | rfl | (simp; done) | (simp [*]; done), by repeat (first | exact Drawn0.refl _ | apply Drawn0.step)⟩
def wire_ReadText.f (k : Nat) (l0 : List Int) (a1 : Int) : Option (ByteArray × Int × Int) := (wire_span.f k l0 a1).bind fun bt101 => (if 0 ≤ bt101.1 then (if bt101.1 ≤ bt101.2.1 then (if bt101.2.1 ≤ (l0.length : Int) then (some (strOfNums ((l0.take (bt101.2.1 : Int).toNat).drop (bt101.1 : Int).toNat), bt101.2.1, bt101.2.2)) else (none)) else (none)) else (none))
theorem wire_ReadText.mono : ∀ a0 a1 k, LeO (wire_ReadText.f k a0 a1) (wire_ReadText.f (k + 1) a0 a1) := by
 intro a0 a1 k
 unfold wire_ReadText.f
 repeat' first
   | (with_reducible exact wire_span.mono _ _ _)
   | (with_reducible exact LeO.refl _)
   | (with_reducible exact LeO.none _)
   | (with_reducible refine LeO.ite ?_ ?_)
   | (with_reducible refine LeO.bind ?_ (fun _ => ?_))
   | exact wire_span.mono _ _ _
   | exact LeO.none _
   | refine LeO.ite ?_ ?_
   | refine LeO.bind ?_ (fun _ => ?_)
set_option maxHeartbeats 8000000 in
set_option maxRecDepth 100000 in
theorem wire_ReadText.calls (k : Nat) (A0 : Option Addr) (c0 : Nat) (l0 : List Int) (a1 : Int) (r1 : ByteArray) (r2 : Int) (r3 : Int) (w : World) (hr0 : Kd.C (Kd.int .u8) w A0 l0.length l0) (hc0 : l0.length ≤ c0) (h : wire_ReadText.f k l0 a1 = some (r1, r2, r3)) :
  Calls Try.prog 70 #[.slice A0 l0.length c0, .int .i64 a1] w fun e w' => e = .returned (.tuple #[.string r1, .int .i64 r2, .int .i64 r3]) ∧ Drawn0 w w' := by
 have HR0 := Aside0.mk hr0
 have HC0 := Aside0.mk hc0
 clear hr0 hc0
 have H : ((wire_span.f k l0 a1).bind fun bt101 => (if 0 ≤ bt101.1 then (if bt101.1 ≤ bt101.2.1 then (if bt101.2.1 ≤ (l0.length : Int) then (some (strOfNums ((l0.take (bt101.2.1 : Int).toNat).drop (bt101.1 : Int).toNat), bt101.2.1, bt101.2.2)) else (none)) else (none)) else (none))) = some (r1, r2, r3) := h
 clear h
 replace H := Option.bind_eq_some_iff.mp H
 obtain ⟨⟨t101, t102, t103⟩, A30, H⟩ := H
 (try dsimp only at H)
 have A3 := Aside0.mk A30
 clear A30
 by_cases c4 : 0 ≤ t101
 rotate_left
 ·rw [if_neg c4] at H
  exact absurd H (by simp)
 rw [if_pos c4] at H
 have c4b0 := eq_true c4
 have c4b1 : decide (0 ≤ t101) = true := decide_eq_true c4
 clear c4
 by_cases c5 : t101 ≤ t102
 rotate_left
 ·rw [if_neg c5] at H
  exact absurd H (by simp)
 rw [if_pos c5] at H
 have c5b0 := eq_true c5
 have c5b1 : decide (t101 ≤ t102) = true := decide_eq_true c5
 clear c5
 by_cases c6 : t102 ≤ (l0.length : Int)
 rotate_left
 ·rw [if_neg c6] at H
  exact absurd H (by simp)
 rw [if_pos c6] at H
 have c6b0 := eq_true c6
 have c6b1 : decide (t102 ≤ (l0.length : Int)) = true := decide_eq_true c6
 clear c6
 simp only [Option.some.injEq, Prod.mk.injEq] at H
 obtain ⟨rfl, rfl, rfl⟩ := H
 go_enter Try.func70, Try.ntmps70
 go_wp2_with (first | ((with_reducible refine gate_callee (f := 41) rfl ?_); refine goesL_ (some 13) rfl rfl Try.func41 (by kernel_rfl) rfl #[.slice A0 l0.length c0, .int .i64 a1] rfl (by (try simp only [List.map_toArray, List.map_cons, List.map_nil]) <;> rfl) ?_; (with_reducible refine (wire_span.calls k _ _ l0 a1 t101 t102 t103 _ ?side1 ?side2 A3.out).mono ?_); (case side1 => exact xC HR0.out); (case side2 => exact HC0.out); rintro e w' ⟨rfl, ⟨nd, rfl⟩⟩; refine ⟨_, rfl, ?_⟩; obtain ⟨i07, hi07, _, hsz7, _⟩ := info_parts info5; obtain ⟨A7, hcut7, hA7, hC7⟩ := print_mid_of (P := Try.prog) (Value.int .u8) 0 32 5 .i64 .i64 Try.underlying32 hi07 hsz7 A0 c0 l0 t101 t102 (of_decide_eq_true (by first | (with_reducible assumption) | assumption)) (by first | omega | exact of_decide_eq_true (by first | (with_reducible assumption) | assumption)) (of_decide_eq_true (by first | (with_reducible assumption) | assumption)) HC0.out; have HR104 := Aside0.mk (Kd.C_of_reads (h1 := fun _ => rfl) (hA7 _ (Kd.reads_of_C HR0.out))); have HC104 := Aside0.mk hC7; clear hA7 hC7 hi07 hsz7; have hcv8 := fun (n_ : Nat) => Kd.C_string (P := Try.prog) (A := A7) (c := (c0 - t101.toNat)) Try.underlying32 Try.underlying5 Try.underlying9 (Kd.C_drewN HR104.out n_); (simp only [show (List.drop t101.toNat (List.take t102.toNat l0)).length = t102.toNat - t101.toNat from by (have z1_ := of_decide_eq_true c6b1; simp only [List.length_drop, List.length_take]; omega)] at hcv8)))
 go_ret3
 exact ⟨by first | rfl | (simp; done) | (simp [*]; done), by repeat (first | exact Drawn0.refl _ | apply Drawn0.step)⟩
def page_read.f (k : Nat) (l0 : List Int) (a1 : Int) (a2 : Int) : Option (Bool × Int × ByteArray × Int × Bool) := if a2 = 4 then ((wire_ReadText.f k l0 a1).bind fun bt102 => (some (false, 0, bt102.1, bt102.2.1, (bt102.2.2 == 0)))) else ((wire_ReadS.f k l0 a1).bind fun bt105 => (some (false, bt105.1, (⟨#[]⟩ : ByteArray), bt105.2.1, (bt105.2.2 == 0))))
theorem page_read.mono : ∀ a0 a1 a2 k, LeO (page_read.f k a0 a1 a2) (page_read.f (k + 1) a0 a1 a2) := by
 intro a0 a1 a2 k
 unfold page_read.f
 repeat' first
   | (with_reducible exact wire_ReadS.mono _ _ _)
   | (with_reducible exact wire_ReadText.mono _ _ _)
   | (with_reducible exact LeO.refl _)
   | (with_reducible exact LeO.none _)
   | (with_reducible refine LeO.ite ?_ ?_)
   | (with_reducible refine LeO.bind ?_ (fun _ => ?_))
   | exact wire_ReadS.mono _ _ _
   | exact wire_ReadText.mono _ _ _
   | exact LeO.none _
   | refine LeO.ite ?_ ?_
   | refine LeO.bind ?_ (fun _ => ?_)
set_option maxHeartbeats 8000000 in
set_option maxRecDepth 100000 in
theorem page_read.calls (k : Nat) (A0 : Option Addr) (c0 : Nat) (l0 : List Int) (a1 : Int) (a2 : Int) (r1 : Bool) (r2 : Int) (r3 : ByteArray) (r4 : Int) (r5 : Bool) (w : World) (hr0 : Kd.C (Kd.int .u8) w A0 l0.length l0) (hc0 : l0.length ≤ c0) (h : page_read.f k l0 a1 a2 = some (r1, r2, r3, r4, r5)) :
  Calls Try.prog 68 #[.slice A0 l0.length c0, .int .i64 a1, .int .i64 a2] w fun e w' => e = .returned (.tuple #[.agg #[.bool r1, .int .i64 r2, .string r3], .int .i64 r4, .bool r5]) ∧ Below w.heap.size w w' := by
 have hu26 := Try.underlying26
 have HR0 := Aside0.mk hr0
 have HC0 := Aside0.mk hc0
 clear hr0 hc0
 have HB := Aside0.mk (Below.refl w.heap.size w)
 have H : (if a2 = 4 then ((wire_ReadText.f k l0 a1).bind fun bt102 => (some (false, 0, bt102.1, bt102.2.1, (bt102.2.2 == 0)))) else ((wire_ReadS.f k l0 a1).bind fun bt105 => (some (false, bt105.1, (⟨#[]⟩ : ByteArray), bt105.2.1, (bt105.2.2 == 0))))) = some (r1, r2, r3, r4, r5) := h
 clear h
 by_cases c4 : a2 = 4
 ·rw [if_pos c4] at H
  have c4b0 : (a2 == 4) = true := beq_iff_eq.mpr c4
  have c4b1 : (a2 != 4) = false := bne_eq_false_iff_eq.mpr c4
  clear c4
  replace H := Option.bind_eq_some_iff.mp H
  obtain ⟨⟨t102, t103, t104⟩, A50, H⟩ := H
  (try dsimp only at H)
  have A5 := Aside0.mk A50
  clear A50
  simp only [Option.some.injEq, Prod.mk.injEq] at H
  obtain ⟨rfl, rfl, rfl, rfl, rfl⟩ := H
  go_enter Try.func68, Try.ntmps68
  go_wp2_with (first | ((with_reducible refine gate_dst (N := 6) rfl ?_); refine box_event ?hg (N := 6) ?hd (cs := #[.bool false, .int .i64 0, .string (⟨#[]⟩ : ByteArray)]) (t := 26) ?hr ?_; (case hd => rfl); (case hg => rfl); (case hr => first | (go_simp; done) | (go_simp; rfl)); intro gb101 hg w6 hbox hb; have n0_ := Aside0.mk (below_step (xW HB.out) hb); have n1_ := Aside0.mk (hbox); have n3_ := Aside0.mk ((by rw [hg]; exact (below_size (xW HB.out)) : w.heap.size ≤ gb101)); clear HB; revert n0_ n1_ n3_; intro HB BK101 GE101; clear hb hbox hg) | ((with_reducible refine gate_callee (f := 70) rfl ?_); refine goesL_ (some 15) rfl rfl Try.func70 (by kernel_rfl) rfl #[.slice A0 l0.length c0, .int .i64 a1] rfl (by (try simp only [List.map_toArray, List.map_cons, List.map_nil]) <;> rfl) ?_; (with_reducible refine (wire_ReadText.calls k _ _ l0 a1 t102 t103 t104 _ ?side1 ?side2 A5.out).mono ?_); (case side1 => exact xC (Kd.C_below HR0.out HB.out)); (case side2 => exact HC0.out); rintro e w' ⟨rfl, ⟨nd, rfl⟩⟩; refine ⟨_, rfl, ?_⟩; (try (rw [drewN_self w6]; generalize hq_ : World.drewN w6 _ = w6; have n0_ : Aside0 (w6.heap[gb101]? = some (.cells #[.bool false, .int .i64 0, .string (⟨#[]⟩ : ByteArray)] 26 (0, 0))) := ⟨by rw [← hq_]; exact (xB BK101.out)⟩; have n1_ : Aside0 (Below w.heap.size w w6) := ⟨by rw [← hq_]; exact (xS HB.out (ge GE101.out g0))⟩; clear BK101 HB hq_; revert n0_ n1_; intro BK101 HB)); have hcz7_0 : w6.cell? ⟨gb101, 0, none⟩ = some (.bool false) := (blk_cell BK101.out 0).trans rfl; have hcz7_1 : w6.cell? ⟨gb101, 1, none⟩ = some (.int .i64 0) := (blk_cell BK101.out 1).trans rfl; have hcz7_2 : w6.cell? ⟨gb101, 2, none⟩ = some (.string (⟨#[]⟩ : ByteArray)) := (blk_cell BK101.out 2).trans rfl; have hfz7_0 := blk_frozen BK101.out 0; have hfz7_1 := blk_frozen BK101.out 1; have hfz7_2 := blk_frozen BK101.out 2))
  refine bodyPost_ret (results_ctt rfl _ _ gb101 26 #[.bool false, .int .i64 0, .string t102] (0, 0) _ rfl (xP BK101.out g0 rfl) Try.underlying26 rfl (by kernel_rfl)) rfl ?_
  exact ⟨by first | rfl | simp [*], by repeat (first | (with_reducible first | exact HB.out | apply below_alloc | apply pw_below_drewN | apply below_drew1 | refine below_set ?_ GE101.out) | exact HB.out)⟩
 ·rw [if_neg c4] at H
  have c4b0 : (a2 == 4) = false := beq_eq_false_iff_ne.mpr c4
  have c4b1 : (a2 != 4) = true := bne_iff_ne.mpr c4
  replace H := Option.bind_eq_some_iff.mp H
  obtain ⟨⟨t105, t106, t107⟩, A80, H⟩ := H
  (try dsimp only at H)
  have A8 := Aside0.mk A80
  clear A80
  simp only [Option.some.injEq, Prod.mk.injEq] at H
  obtain ⟨rfl, rfl, rfl, rfl, rfl⟩ := H
  go_enter Try.func68, Try.ntmps68
  go_wp2_with (first | ((with_reducible refine gate_dst (N := 6) rfl ?_); refine box_event ?hg (N := 6) ?hd (cs := #[.bool false, .int .i64 0, .string (⟨#[]⟩ : ByteArray)]) (t := 26) ?hr ?_; (case hd => rfl); (case hg => rfl); (case hr => first | (go_simp; done) | (go_simp; rfl)); intro gb101 hg w9 hbox hb; have n0_ := Aside0.mk (below_step (xW HB.out) hb); have n1_ := Aside0.mk (hbox); have n3_ := Aside0.mk ((by rw [hg]; exact (below_size (xW HB.out)) : w.heap.size ≤ gb101)); clear HB; revert n0_ n1_ n3_; intro HB BK101 GE101; clear hb hbox hg) | ((with_reducible refine gate_callee (f := 71) rfl ?_); refine goesL_ (some 23) rfl rfl Try.func71 (by kernel_rfl) rfl #[.slice A0 l0.length c0, .int .i64 a1] rfl (by (try simp only [List.map_toArray, List.map_cons, List.map_nil]) <;> rfl) ?_; (with_reducible refine (wire_ReadS.calls k _ _ l0 a1 t105 t106 t107 _ ?side1 ?side2 A8.out).mono ?_); (case side1 => exact xC (Kd.C_below HR0.out HB.out)); (case side2 => exact HC0.out); rintro e w' ⟨rfl, ⟨nd, rfl⟩⟩; refine ⟨_, rfl, ?_⟩; (try (rw [drewN_self w9]; generalize hq_ : World.drewN w9 _ = w9; have n0_ : Aside0 (w9.heap[gb101]? = some (.cells #[.bool false, .int .i64 0, .string (⟨#[]⟩ : ByteArray)] 26 (0, 0))) := ⟨by rw [← hq_]; exact (xB BK101.out)⟩; have n1_ : Aside0 (Below w.heap.size w w9) := ⟨by rw [← hq_]; exact (xS HB.out (ge GE101.out g0))⟩; clear BK101 HB hq_; revert n0_ n1_; intro BK101 HB)); have hcz10_0 : w9.cell? ⟨gb101, 0, none⟩ = some (.bool false) := (blk_cell BK101.out 0).trans rfl; have hcz10_1 : w9.cell? ⟨gb101, 1, none⟩ = some (.int .i64 0) := (blk_cell BK101.out 1).trans rfl; have hcz10_2 : w9.cell? ⟨gb101, 2, none⟩ = some (.string (⟨#[]⟩ : ByteArray)) := (blk_cell BK101.out 2).trans rfl; have hfz10_0 := blk_frozen BK101.out 0; have hfz10_1 := blk_frozen BK101.out 1; have hfz10_2 := blk_frozen BK101.out 2))
  refine bodyPost_ret (results_ctt rfl _ _ gb101 26 #[.bool false, .int .i64 t105, .string (⟨#[]⟩ : ByteArray)] (0, 0) _ rfl (xP BK101.out g0 rfl) Try.underlying26 rfl (by kernel_rfl)) rfl ?_
  exact ⟨by first | rfl | simp [*], by repeat (first | (with_reducible first | exact HB.out | apply below_alloc | apply pw_below_drewN | apply below_drew1 | refine below_set ?_ GE101.out) | exact HB.out)⟩
end
end Go.Proofs.Ytnfdhgfpjamphaa.X
