/- The law LawPagePut: its walk and its proof, part 13 of 14. -/
import Derived.Test.YtnfdhgfpjamphaaYLawPagePut0
import Derived.Test.YtnfdhgfpjamphaaYLawPagePut10
import Derived.Test.YtnfdhgfpjamphaaYLawPagePut11
import Derived.Test.YtnfdhgfpjamphaaYLawPagePut8
import Derived.Test.YtnfdhgfpjamphaaYLawPagePut9
namespace Go.Proofs.Ytnfdhgfpjamphaa.X
section
open Go.RowKit Go.Proofs.YtnfdhgfpjamphaaW.PrintWords Go.Proofs.YtnfdhgfpjamphaaW.PrintLast Go.Proofs.YtnfdhgfpjamphaaW.PrintMore
attribute [local go_sem] max2_int min2_int max_two min_two max_three min_three max_four min_four   -- for this text's walks alone
set_option linter.unusedVariables false
set_option linter.unusedSimpArgs false
def fenlandlaw10_PagePut.j0 : Nat → List Int → Bool → Bool → Int → Int → List Int → Option (Bool)
 | 0, _, _, _, _, _, _ => none
 | k + 1, x1, x7, x75, x102000, x102001, x102002 => if x75 = true then (none) else ((page_Put.f k x1 x102000 x102001 x102002).bind fun t497 => ((fenlandref01_Join.f t497 x1).bind fun t500 => ((page_Get.f k t500 (x1.length : Int)).bind fun bt503 => (if x102000 < 1 then (if bt503.2.2.2.1 = 0 then (if bt503.2.2.2.2 = 100 then (some x7) else (none)) else (none)) else (if x102000 > 4 then (if bt503.2.2.2.1 = 0 then (if bt503.2.2.2.2 = 100 then (some x7) else (none)) else (none)) else (if x102001 < 0 then (if bt503.2.2.2.1 = 0 then (if bt503.2.2.2.2 = 100 then (some x7) else (none)) else (none)) else (if x102001 > 1024 then (if bt503.2.2.2.1 = 0 then (if bt503.2.2.2.2 = 100 then (some x7) else (none)) else (none)) else ((fenlandref10_Same.f k bt503.1 bt503.2.1 bt503.2.2.1 x102000 x102001 x102002).bind fun t511 => (if t511 = true then (if bt503.2.2.2.1 = (t497.length : Int) then (if bt503.2.2.2.2 = 0 then (some x7) else (none)) else (none)) else (none))))))))))
def fenlandlaw10_PagePut.f (k : Nat) (a0_0 : Int) (a0_1 : Int) (l0_2 : List Int) (l1 : List Int) (a2 : Int) : Option (Bool) := (fenlandlaw10_sanity.f k).bind fun t102 => (if (l0_2.length : Int) > 20000 then (some t102) else ((page_Get.f k l1 a2).bind fun bt127 => ((fenlandref10_Get.f k l1 a2).bind fun bt135 => ((fenlandref10_Same.f k bt127.1 bt127.2.1 bt127.2.2.1 bt135.1 bt135.2.1 bt135.2.2.1).bind fun t143 => (if t143 = true then (if bt127.2.2.2.1 = bt135.2.2.2.1 then (if bt127.2.2.2.2 = bt135.2.2.2.2 then ((page_Put.f k l1 a0_0 a0_1 l0_2).bind fun t144 => ((fenlandref10_Put.f k l1 a0_0 a0_1 l0_2).bind fun t147 => ((fenlandref01_Same.f k t144 t147).bind fun t150 => (if t150 = true then (if bt127.2.2.2.2 = 0 then (if 0 ≤ a2 then (if a2 ≤ (l1.length : Int) then ((page_Put.f k (l1.take (a2 : Int).toNat) bt127.1 bt127.2.1 bt127.2.2.1).bind fun t422 => (if 0 ≤ bt127.2.2.2.1 then (if bt127.2.2.2.1 ≤ (l1.length : Int) then ((fenlandref01_Same.f k t422 (l1.take (bt127.2.2.2.1 : Int).toNat)).bind fun t426 => (fenlandlaw10_PagePut.j0 k l1 t102 (!t426) a0_0 a0_1 l0_2)) else (none)) else (none))) else (none)) else (none)) else (fenlandlaw10_PagePut.j0 k l1 t102 false a0_0 a0_1 l0_2)) else (none))))) else (none)) else (none)) else (none))))))
theorem fenlandlaw10_PagePut.mono_l : ∀ k, (∀ y0 y1 y2 y3 y4 y5, LeO (fenlandlaw10_PagePut.j0 k y0 y1 y2 y3 y4 y5) (fenlandlaw10_PagePut.j0 (k + 1) y0 y1 y2 y3 y4 y5))
 | 0 => fun _ _ _ _ _ _ r h => by simp [fenlandlaw10_PagePut.j0] at h
 | k + 1 => by
  have ih0 := fenlandlaw10_PagePut.mono_l k
  ·intro y0 y1 y2 y3 y4 y5
   unfold fenlandlaw10_PagePut.j0
   repeat' first
   | (with_reducible exact ih0 _ _ _ _ _ _)
   | (with_reducible exact fenlandlaw10_sanity.mono _)
   | (with_reducible exact fenlandref01_Same.mono _ _ _)
   | (with_reducible exact fenlandref10_Get.mono _ _ _)
   | (with_reducible exact fenlandref10_Put.mono _ _ _ _ _)
   | (with_reducible exact fenlandref10_Same.mono _ _ _ _ _ _ _)
   | (with_reducible exact page_Get.mono _ _ _)
   | (with_reducible exact page_Put.mono _ _ _ _ _)
   | (with_reducible exact LeO.refl _)
   | (with_reducible exact LeO.none _)
   | (with_reducible refine LeO.ite ?_ ?_)
   | (with_reducible refine LeO.bind ?_ (fun _ => ?_))
   | exact ih0 _ _ _ _ _ _
   | exact fenlandlaw10_sanity.mono _
   | exact fenlandref01_Same.mono _ _ _
   | exact fenlandref10_Get.mono _ _ _
   | exact fenlandref10_Put.mono _ _ _ _ _
   | exact fenlandref10_Same.mono _ _ _ _ _ _ _
   | exact page_Get.mono _ _ _
   | exact page_Put.mono _ _ _ _ _
   | exact LeO.none _
   | refine LeO.ite ?_ ?_
   | refine LeO.bind ?_ (fun _ => ?_)
theorem fenlandlaw10_PagePut.mono : ∀ a0 a1 a2 a3 a4 k, LeO (fenlandlaw10_PagePut.f k a0 a1 a2 a3 a4) (fenlandlaw10_PagePut.f (k + 1) a0 a1 a2 a3 a4) := by
 intro a0 a1 a2 a3 a4 k
 have ih0 := fenlandlaw10_PagePut.mono_l k
 unfold fenlandlaw10_PagePut.f
 repeat' first
   | (with_reducible exact ih0 _ _ _ _ _ _)
   | (with_reducible exact fenlandlaw10_sanity.mono _)
   | (with_reducible exact fenlandref01_Same.mono _ _ _)
   | (with_reducible exact fenlandref10_Get.mono _ _ _)
   | (with_reducible exact fenlandref10_Put.mono _ _ _ _ _)
   | (with_reducible exact fenlandref10_Same.mono _ _ _ _ _ _ _)
   | (with_reducible exact page_Get.mono _ _ _)
   | (with_reducible exact page_Put.mono _ _ _ _ _)
   | (with_reducible exact LeO.refl _)
   | (with_reducible exact LeO.none _)
   | (with_reducible refine LeO.ite ?_ ?_)
   | (with_reducible refine LeO.bind ?_ (fun _ => ?_))
   | exact ih0 _ _ _ _ _ _
   | exact fenlandlaw10_sanity.mono _
   | exact fenlandref01_Same.mono _ _ _
   | exact fenlandref10_Get.mono _ _ _
   | exact fenlandref10_Put.mono _ _ _ _ _
   | exact fenlandref10_Same.mono _ _ _ _ _ _ _
   | exact page_Get.mono _ _ _
   | exact page_Put.mono _ _ _ _ _
   | exact LeO.none _
   | refine LeO.ite ?_ ?_
   | refine LeO.bind ?_ (fun _ => ?_)
def fenlandlaw10_PagePut.T6 : Bool × List (List Nat × List Nat) := (true, [([], []), ([], []), ([0, 1], [0, 1]), ([2], [2]), ([3, 2], [3]), ([4], [4]), ([4], [4]), ([5, 6, 4], [4, 5, 6]), ([4, 7], [4, 7]), ([8, 4], [8]), ([9], [9]), ([9], [9]), ([10, 11, 9], [9, 10, 11]), ([9, 12], [9, 12]), ([13, 9], [13]), ([14], [14]), ([14], [14]), ([15, 16, 14, 14], [14, 15, 16]), ([14], [14]), ([14], [14]), ([18, 19, 17, 14], [14, 18, 19]), ([17, 20, 20, 14], [14, 17, 20]), ([21, 14], [14, 21]), ([14, 22], [14, 22])])
def fenlandlaw10_PagePut.B6 : List Nat := [0, 0, 3, 7, 15, 31, 31, 127, 255, 511, 1023, 1023, 4095, 8191, 16383, 32767, 32767, 131071, 32767, 32767, 1048575, 2097151, 4194303, 8388607]
theorem fenlandlaw10_PagePut.tab6 : rtab .any (opsOf Try.f4 6) = fenlandlaw10_PagePut.T6 := by kernel_rfl
theorem fenlandlaw10_PagePut.bits6 : waitsOk fenlandlaw10_PagePut.T6.2 fenlandlaw10_PagePut.B6 = true := by kernel_rfl
def fenlandlaw10_PagePut.T8 : Bool × List (List Nat × List Nat) := (true, [([], []), ([0], [0]), ([1], [1]), ([2], [2]), ([2], [2]), ([3, 4, 2], [2, 3, 4]), ([2], [2]), ([5, 6, 2, 2], [2, 5, 6]), ([2], [2]), ([2], [2]), ([8, 9, 2], [2, 8, 9]), ([7, 10, 7, 2], [2, 7, 10]), ([11, 2], [2, 11]), ([2, 12], [2, 12])])
def fenlandlaw10_PagePut.B8 : List Nat := [0, 1, 3, 7, 7, 31, 7, 127, 7, 7, 775, 2047, 4095, 8191]
theorem fenlandlaw10_PagePut.tab8 : rtab .any (opsOf Try.f4 8) = fenlandlaw10_PagePut.T8 := by kernel_rfl
theorem fenlandlaw10_PagePut.bits8 : waitsOk fenlandlaw10_PagePut.T8.2 fenlandlaw10_PagePut.B8 = true := by kernel_rfl
set_option maxHeartbeats 8000000 in
set_option maxRecDepth 100000 in
theorem fenlandlaw10_PagePut.calls (k : Nat) (a0_0 : Int) (a0_1 : Int) (A0_2 : Option Addr) (c0_2 : Nat) (l0_2 : List Int) (A1 : Option Addr) (c1 : Nat) (l1 : List Int) (a2 : Int) (r : Bool) (w : World) (hr0_2 : Kd.C (Kd.int .u8) w A0_2 l0_2.length l0_2) (hc0_2 : l0_2.length ≤ c0_2) (hr1 : Kd.C (Kd.int .u8) w A1 l1.length l1) (hc1 : l1.length ≤ c1) (h : fenlandlaw10_PagePut.f k a0_0 a0_1 l0_2 l1 a2 = some r) :
  Calls Try.prog 4 #[.agg #[.int .i64 a0_0, .int .i64 a0_1, .slice A0_2 l0_2.length c0_2], .slice A1 l1.length c1, .int .i64 a2] w fun e w' => e = .returned (.bool r) ∧ Below w.heap.size w w' := by
 have hu34 := Try.underlying34
 have HR0_2 := Aside0.mk hr0_2
 have HC0_2 := Aside0.mk hc0_2
 clear hr0_2 hc0_2
 have HR1 := Aside0.mk hr1
 have HC1 := Aside0.mk hc1
 clear hr1 hc1
 have HB := Aside0.mk (Below.refl w.heap.size w)
 have H : ((fenlandlaw10_sanity.f k).bind fun t102 => (if (l0_2.length : Int) > 20000 then (some t102) else ((page_Get.f k l1 a2).bind fun bt127 => ((fenlandref10_Get.f k l1 a2).bind fun bt135 => ((fenlandref10_Same.f k bt127.1 bt127.2.1 bt127.2.2.1 bt135.1 bt135.2.1 bt135.2.2.1).bind fun t143 => (if t143 = true then (if bt127.2.2.2.1 = bt135.2.2.2.1 then (if bt127.2.2.2.2 = bt135.2.2.2.2 then ((page_Put.f k l1 a0_0 a0_1 l0_2).bind fun t144 => ((fenlandref10_Put.f k l1 a0_0 a0_1 l0_2).bind fun t147 => ((fenlandref01_Same.f k t144 t147).bind fun t150 => (if t150 = true then (if bt127.2.2.2.2 = 0 then (if 0 ≤ a2 then (if a2 ≤ (l1.length : Int) then ((page_Put.f k (l1.take (a2 : Int).toNat) bt127.1 bt127.2.1 bt127.2.2.1).bind fun t422 => (if 0 ≤ bt127.2.2.2.1 then (if bt127.2.2.2.1 ≤ (l1.length : Int) then ((fenlandref01_Same.f k t422 (l1.take (bt127.2.2.2.1 : Int).toNat)).bind fun t426 => (fenlandlaw10_PagePut.j0 k l1 t102 (!t426) a0_0 a0_1 l0_2)) else (none)) else (none))) else (none)) else (none)) else (fenlandlaw10_PagePut.j0 k l1 t102 false a0_0 a0_1 l0_2)) else (none))))) else (none)) else (none)) else (none))))))) = some r := h
 clear h
 replace H := Option.bind_eq_some_iff.mp H
 obtain ⟨t102, A40, H⟩ := H
 (try dsimp only at H)
 have A4 := Aside0.mk A40
 clear A40
 by_cases c5 : (l0_2.length : Int) > 20000
 ·rw [if_pos c5] at H
  have c5b0 : decide (20000 < (l0_2.length : Int)) = true := decide_eq_true c5
  have c5b1 : decide (20000 < l0_2.length) = true := decide_eq_true (by omega)
  clear c5
  obtain rfl := Option.some.inj H
  go_enter Try.func4, Try.ntmps4
  go_wp2_with (first | ((with_reducible refine gate_dst (N := 3) rfl ?_); (try (refine gate_guard (by rfl) ?_; dsimp only)); refine box_event ?hg (N := 3) ?hd (cs := #[.int .i64 a0_0, .int .i64 a0_1, .slice A0_2 l0_2.length c0_2]) (t := 34) ?hr ?_; (case hd => rfl); (case hg => rfl); (case hr => first | (go_simp; done) | (go_simp; rfl)); intro gb101 hg w6 hbox hb; have n0_ := Aside0.mk (below_step (xW HB.out) hb); have n1_ := Aside0.mk (hbox); have n3_ := Aside0.mk ((by rw [hg]; exact (below_size (xW HB.out)) : w.heap.size ≤ gb101)); clear HB; revert n0_ n1_ n3_; intro HB BK101 GE101; clear hb hbox hg) | ((with_reducible refine gate_callee (f := 5) rfl ?_); refine goesL_ (some 18) rfl rfl Try.func5 (by kernel_rfl) rfl #[] rfl (by (try simp only [List.map_toArray, List.map_cons, List.map_nil]) <;> rfl) ?_; (with_reducible refine (fenlandlaw10_sanity.calls k  t102 _ A4.out).mono ?_); rintro e w7 ⟨rfl, hb⟩; refine ⟨_, rfl, ?_⟩; have n0_ := Aside0.mk (blk_below (xB BK101.out) hb); have n1_ := Aside0.mk (below_step (xS HB.out (ge GE101.out g0)) hb); clear BK101 HB; revert n0_ n1_; intro BK101 HB; (try clear hb); have hcz8_0 : w7.cell? ⟨gb101, 0, none⟩ = some (.int .i64 a0_0) := (blk_cell BK101.out 0).trans rfl; have hcz8_1 : w7.cell? ⟨gb101, 1, none⟩ = some (.int .i64 a0_1) := (blk_cell BK101.out 1).trans rfl; have hcz8_2 : w7.cell? ⟨gb101, 2, none⟩ = some (.slice A0_2 l0_2.length c0_2) := (blk_cell BK101.out 2).trans rfl; have hfz8_0 := blk_frozen BK101.out 0; have hfz8_1 := blk_frozen BK101.out 1; have hfz8_2 := blk_frozen BK101.out 2))
  go_ret
  exact ⟨by first | rfl | simp [*], by repeat (first | (with_reducible first | exact HB.out | apply below_alloc | apply pw_below_drewN | apply below_drew1 | refine below_set ?_ GE101.out) | exact HB.out)⟩
 ·rw [if_neg c5] at H
  have c5b0 : decide (20000 < (l0_2.length : Int)) = false := decide_eq_false c5
  have c5b1 : decide (20000 < l0_2.length) = false := decide_eq_false (by omega)
  clear c5
  replace H := Option.bind_eq_some_iff.mp H
  obtain ⟨⟨t127, t128, t129, t132, t133⟩, A90, H⟩ := H
  (try dsimp only at H)
  have A9 := Aside0.mk A90
  clear A90
  replace H := Option.bind_eq_some_iff.mp H
  obtain ⟨⟨t135, t136, t137, t140, t141⟩, A100, H⟩ := H
  (try dsimp only at H)
  have A10 := Aside0.mk A100
  clear A100
  replace H := Option.bind_eq_some_iff.mp H
  obtain ⟨t143, A110, H⟩ := H
  (try dsimp only at H)
  have A11 := Aside0.mk A110
  clear A110
  by_cases c12 : t143 = true
  rotate_left
  ·exact absurd H (by simp [c12])
  subst c12
  rw [if_pos rfl] at H
  by_cases c13 : t132 = t140
  rotate_left
  ·rw [if_neg c13] at H
   have c13b0 : (t132 == t140) = false := beq_eq_false_iff_ne.mpr c13
   have c13b1 : (t132 != t140) = true := bne_iff_ne.mpr c13
   exact absurd H (by simp)
  rw [if_pos c13] at H
  have c13b0 : (t132 == t140) = true := beq_iff_eq.mpr c13
  have c13b1 : (t132 != t140) = false := bne_eq_false_iff_eq.mpr c13
  clear c13
  by_cases c14 : t133 = t141
  rotate_left
  ·rw [if_neg c14] at H
   have c14b0 : (t133 == t141) = false := beq_eq_false_iff_ne.mpr c14
   have c14b1 : (t133 != t141) = true := bne_iff_ne.mpr c14
   exact absurd H (by simp)
  rw [if_pos c14] at H
  have c14b0 : (t133 == t141) = true := beq_iff_eq.mpr c14
  have c14b1 : (t133 != t141) = false := bne_eq_false_iff_eq.mpr c14
  clear c14
  replace H := Option.bind_eq_some_iff.mp H
  obtain ⟨t144, A150, H⟩ := H
  (try dsimp only at H)
  have A15 := Aside0.mk A150
  clear A150
  replace H := Option.bind_eq_some_iff.mp H
  obtain ⟨t147, A160, H⟩ := H
  (try dsimp only at H)
  have A16 := Aside0.mk A160
  clear A160
  replace H := Option.bind_eq_some_iff.mp H
  obtain ⟨t150, A170, H⟩ := H
  (try dsimp only at H)
  have A17 := Aside0.mk A170
  clear A170
  by_cases c18 : t150 = true
  rotate_left
  ·exact absurd H (by simp [c18])
  subst c18
  rw [if_pos rfl] at H
  have HC19 := Aside0.mk H
  clear H
  go_enter Try.func4, Try.ntmps4
  try go_wp2_with (first | ((with_reducible refine gate_dst (N := 3) rfl ?_); (try (refine gate_guard (by rfl) ?_; dsimp only)); refine box_event ?hg (N := 3) ?hd (cs := #[.int .i64 a0_0, .int .i64 a0_1, .slice A0_2 l0_2.length c0_2]) (t := 34) ?hr ?_; (case hd => rfl); (case hg => rfl); (case hr => first | (go_simp; done) | (go_simp; rfl)); intro gb101 hg w20 hbox hb; have n0_ := Aside0.mk (below_step (xW HB.out) hb); have n1_ := Aside0.mk (hbox); have n2_ := Aside0.mk ((by rw [hg]; exact (below_size (xW HB.out)) : w.heap.size ≤ gb101)); have n3_ := Aside0.mk ((by rw [hg]; exact (below_size (xW HB.out)) : w.heap.size ≤ gb101)); clear HB; revert n0_ n1_ n2_ n3_; intro HB BK101 GW101 GE101; clear hb hbox hg) | ((with_reducible refine gate_callee (f := 5) rfl ?_); refine goesL_ (some 18) rfl rfl Try.func5 (by kernel_rfl) rfl #[] rfl (by (try simp only [List.map_toArray, List.map_cons, List.map_nil]) <;> rfl) ?_; (with_reducible refine (fenlandlaw10_sanity.calls k  t102 _ A4.out).mono ?_); rintro e w21 ⟨rfl, hb⟩; refine ⟨_, rfl, ?_⟩; have n0_ := Aside0.mk (blk_below (xB BK101.out) hb); have n1_ := Aside0.mk (below_step (xS HB.out (ge GE101.out g0)) hb); clear BK101 HB; revert n0_ n1_; intro BK101 HB; (try clear hb); have hcz22_0 : w21.cell? ⟨gb101, 0, none⟩ = some (.int .i64 a0_0) := (blk_cell BK101.out 0).trans rfl; have hcz22_1 : w21.cell? ⟨gb101, 1, none⟩ = some (.int .i64 a0_1) := (blk_cell BK101.out 1).trans rfl; have hcz22_2 : w21.cell? ⟨gb101, 2, none⟩ = some (.slice A0_2 l0_2.length c0_2) := (blk_cell BK101.out 2).trans rfl; have hfz22_0 := blk_frozen BK101.out 0; have hfz22_1 := blk_frozen BK101.out 1; have hfz22_2 := blk_frozen BK101.out 2) | ((with_reducible refine gate_callee (f := 13) rfl ?_); refine goesL_ (some 27) rfl rfl Try.func13 (by kernel_rfl) rfl #[.slice A1 l1.length c1, .int .i64 a2] rfl (by (try simp only [List.map_toArray, List.map_cons, List.map_nil]) <;> rfl) ?_; (with_reducible refine (page_Get.calls k _ _ l1 a2 t127 t128 t129 t132 t133 _ ?side1 ?side2 A9.out).mono ?_); (case side1 => exact xC (Kd.C_below HR1.out HB.out)); (case side2 => exact HC1.out); rintro e w23 ⟨v130, rfl, ho0, hb⟩; refine ⟨_, rfl, ?_⟩; have n0_ := Aside0.mk (Kd.R_lower ho0 (below_size (xS HB.out (ge GE101.out g0)))); have n1_ := Aside0.mk (blk_below (xB BK101.out) hb); have n2_ := Aside0.mk (below_step (xS HB.out (ge GE101.out g0)) hb); clear BK101 HB; revert n0_ n1_ n2_; intro HO131 BK101 HB; (try clear hb); (try clear ho0)) | ((with_reducible refine gate_dst (N := 8) rfl ?_); (try (refine gate_guard (by rfl) ?_; dsimp only)); refine box_event ?hg (N := 8) ?hd (cs := #[.int .i64 0, .int .i64 0, .slice none 0 0]) (t := 34) ?hr ?_; (case hd => rfl); (case hg => rfl); (case hr => first | (go_simp; done) | (go_simp; rfl)); intro gb134 hg w24 hbox hb; have n0_ := Aside0.mk (Kd.R_below (xR HO131.out) hb); have n1_ := Aside0.mk (blk_below (xB BK101.out) hb); have n2_ := Aside0.mk (below_step (xS HB.out (ge GE101.out g0)) hb); have n3_ := Aside0.mk (hbox); have n4_ := Aside0.mk ((by rw [hg]; exact (below_size (xS HB.out (ge GE101.out g0))) : w.heap.size ≤ gb134)); have n5_ := Aside0.mk ((by rw [hg]; exact (below_size (xS HB.out (ge GE101.out g0))) : w.heap.size ≤ gb134)); have n6_ := Aside0.mk ((by rw [hg]; exact Nat.ne_of_lt (blk_lt (xB BK101.out)) : gb101 ≠ gb134)); have n7_ := Aside0.mk ((by rw [hg]; exact Nat.ne_of_gt (blk_lt (xB BK101.out)) : gb134 ≠ gb101)); clear HO131 BK101 HB; revert n0_ n1_ n2_ n3_ n4_ n5_ n6_ n7_; intro HO131 BK101 HB BK134 GW134 GE134 NB101_134 NB134_101; clear hb hbox hg; have hnb25 := NB134_101.out; have hnc25 := NB101_134.out; have hcz26_0 : w24.cell? ⟨gb134, 0, none⟩ = some (.int .i64 0) := (blk_cell BK134.out 0).trans rfl; have hcz26_1 : w24.cell? ⟨gb134, 1, none⟩ = some (.int .i64 0) := (blk_cell BK134.out 1).trans rfl; have hcz26_2 : w24.cell? ⟨gb134, 2, none⟩ = some (.slice none 0 0) := (blk_cell BK134.out 2).trans rfl; have hfz26_0 := blk_frozen BK134.out 0; have hfz26_1 := blk_frozen BK134.out 1; have hfz26_2 := blk_frozen BK134.out 2; obtain ⟨Ao27, co27, eo27⟩ := Kd.R_slice HO131.out; subst eo27) | ((with_reducible refine gate_callee (f := 14) rfl ?_); refine goesL_ (some 34) rfl rfl Try.func14 (by kernel_rfl) rfl #[.slice A1 l1.length c1, .int .i64 a2] rfl (by (try simp only [List.map_toArray, List.map_cons, List.map_nil]) <;> rfl) ?_; (with_reducible refine (fenlandref10_Get.calls k _ _ l1 a2 t135 t136 t137 t140 t141 _ ?side1 ?side2 A10.out).mono ?_); (case side1 => exact Kd.C_below HR1.out (xS HB.out (ge GE101.out (ge GE134.out g0)))); (case side2 => exact HC1.out); rintro e w28 ⟨v138, rfl, ho0, hb⟩; refine ⟨_, rfl, ?_⟩; have n0_ := Aside0.mk (Kd.R_elder' (xT HO131.out BK134.out (by decide)) (Kd.R_base ho0) hb); have n1_ := Aside0.mk (Kd.R_lower (Kd.R_new' ho0 (Kd.R_lt (xT HO131.out BK134.out (by decide)))) (below_size (xS HB.out (ge GE101.out (ge GE134.out g0))))); have n2_ := Aside0.mk (blk_below (xF BK101.out (ge NB101_134.out g0)) hb); have n3_ := Aside0.mk (blk_below (g := gb134) (o := .cells #[.int .i64 t127, .int .i64 t128, .slice Ao27 t129.length co27] 34 (0, 0)) (xP BK134.out g0 rfl) hb); have n4_ := Aside0.mk (below_step (xS HB.out (ge GE101.out (ge GE134.out g0))) hb); clear HO131 BK101 BK134 HB; revert n0_ n1_ n2_ n3_ n4_; intro HO131 HO139 BK101 BK134 HB; (try clear hb); (try clear ho0)) | ((with_reducible refine gate_dst (N := 11) rfl ?_); (try (refine gate_guard (by rfl) ?_; dsimp only)); refine box_event ?hg (N := 11) ?hd (cs := #[.int .i64 0, .int .i64 0, .slice none 0 0]) (t := 34) ?hr ?_; (case hd => rfl); (case hg => rfl); (case hr => first | (go_simp; done) | (go_simp; rfl)); intro gb142 hg w29 hbox hb; have n0_ := Aside0.mk (Kd.R_below (xR HO131.out) hb); have n1_ := Aside0.mk (Kd.R_below (xR HO139.out) hb); have n2_ := Aside0.mk (blk_below (xB BK101.out) hb); have n3_ := Aside0.mk (blk_below (xB BK134.out) hb); have n4_ := Aside0.mk (below_step (xS HB.out (ge GE101.out (ge GE134.out g0))) hb); have n5_ := Aside0.mk (hbox); have n6_ := Aside0.mk ((by rw [hg]; exact (below_size (xS HB.out (ge GE101.out (ge GE134.out g0)))) : w.heap.size ≤ gb142)); have n7_ := Aside0.mk ((by rw [hg]; exact (below_size (xS HB.out (ge GE101.out (ge GE134.out g0)))) : w.heap.size ≤ gb142)); have n8_ := Aside0.mk ((by rw [hg]; exact Nat.ne_of_lt (blk_lt (xB BK101.out)) : gb101 ≠ gb142)); have n9_ := Aside0.mk ((by rw [hg]; exact Nat.ne_of_gt (blk_lt (xB BK101.out)) : gb142 ≠ gb101)); have n10_ := Aside0.mk ((by rw [hg]; exact Nat.ne_of_lt (blk_lt (xB BK134.out)) : gb134 ≠ gb142)); have n11_ := Aside0.mk ((by rw [hg]; exact Nat.ne_of_gt (blk_lt (xB BK134.out)) : gb142 ≠ gb134)); clear HO131 HO139 BK101 BK134 HB; revert n0_ n1_ n2_ n3_ n4_ n5_ n6_ n7_ n8_ n9_ n10_ n11_; intro HO131 HO139 BK101 BK134 HB BK142 GW142 GE142 NB101_142 NB142_101 NB134_142 NB142_134; clear hb hbox hg; have hnb30 := NB142_101.out; have hnc30 := NB101_142.out; have hnb31 := NB142_134.out; have hnc31 := NB134_142.out; have hcz32_0 : w29.cell? ⟨gb142, 0, none⟩ = some (.int .i64 0) := (blk_cell BK142.out 0).trans rfl; have hcz32_1 : w29.cell? ⟨gb142, 1, none⟩ = some (.int .i64 0) := (blk_cell BK142.out 1).trans rfl; have hcz32_2 : w29.cell? ⟨gb142, 2, none⟩ = some (.slice none 0 0) := (blk_cell BK142.out 2).trans rfl; have hfz32_0 := blk_frozen BK142.out 0; have hfz32_1 := blk_frozen BK142.out 1; have hfz32_2 := blk_frozen BK142.out 2; obtain ⟨Ao33, co33, eo33⟩ := Kd.R_slice HO139.out; subst eo33))
  have n0_ : Aside0 (Kd.R (Kd.int .u8) 5 (((w29.setCell ⟨gb142, 0, none⟩ (.int .i64 t135)).setCell ⟨gb142, 1, none⟩ (.int .i64 t136)).setCell ⟨gb142, 2, none⟩ (.slice Ao33 t137.length co33)) w.heap.size (fun k_ => some k_ ≠ (.slice Ao33 t137.length co33 : Value).ownBlock) (.slice Ao27 t129.length co27) t129) := ⟨by (with_reducible repeat (first | apply Kd.R_alloc | apply Kd.R_drewN | apply Kd.R_drew)); exact Kd.R_mono (Kd.R_far (p := ⟨gb142, 2, none⟩) (Kd.R_far (p := ⟨gb142, 1, none⟩) (Kd.R_far (p := ⟨gb142, 0, none⟩) (Kd.R_types HO131.out BK142.out (by decide)) (fun _ hk => hk.2) (.int .i64 t135)) (fun _ hk => hk.2) (.int .i64 t136)) (fun _ hk => hk.2) (.slice Ao33 t137.length co33)) (fun _ hk => hk.1.2)⟩
  have n1_ : Aside0 (Kd.R (Kd.int .u8) 5 (((w29.setCell ⟨gb142, 0, none⟩ (.int .i64 t135)).setCell ⟨gb142, 1, none⟩ (.int .i64 t136)).setCell ⟨gb142, 2, none⟩ (.slice Ao33 t137.length co33)) w.heap.size (fun k_ => some k_ ≠ (.slice Ao27 t129.length co27 : Value).ownBlock) (.slice Ao33 t137.length co33) t137) := ⟨by (with_reducible repeat (first | apply Kd.R_alloc | apply Kd.R_drewN | apply Kd.R_drew)); exact Kd.R_mono (Kd.R_far (p := ⟨gb142, 2, none⟩) (Kd.R_far (p := ⟨gb142, 1, none⟩) (Kd.R_far (p := ⟨gb142, 0, none⟩) (Kd.R_types HO139.out BK142.out (by decide)) (fun _ hk => hk.2) (.int .i64 t135)) (fun _ hk => hk.2) (.int .i64 t136)) (fun _ hk => hk.2) (.slice Ao33 t137.length co33)) (fun _ hk => hk.1.2)⟩
  have n2_ : Aside0 ((((w29.setCell ⟨gb142, 0, none⟩ (.int .i64 t135)).setCell ⟨gb142, 1, none⟩ (.int .i64 t136)).setCell ⟨gb142, 2, none⟩ (.slice Ao33 t137.length co33)).heap[gb101]? = some (.cells #[.int .i64 a0_0, .int .i64 a0_1, .slice A0_2 l0_2.length c0_2] 34 (0, 0))) := ⟨by (with_reducible repeat (first | refine blk_drewN ?_ _ | refine blk_drew ?_ | refine blk_alloc ?_ _)); refine blk_far ?_ NB101_142.out _; (with_reducible repeat (first | refine blk_drewN ?_ _ | refine blk_drew ?_ | refine blk_alloc ?_ _)); refine blk_far ?_ NB101_142.out _; (with_reducible repeat (first | refine blk_drewN ?_ _ | refine blk_drew ?_ | refine blk_alloc ?_ _)); refine blk_far ?_ NB101_142.out _; (with_reducible repeat (first | refine blk_drewN ?_ _ | refine blk_drew ?_ | refine blk_alloc ?_ _)); exact BK101.out⟩
  have n3_ : Aside0 ((((w29.setCell ⟨gb142, 0, none⟩ (.int .i64 t135)).setCell ⟨gb142, 1, none⟩ (.int .i64 t136)).setCell ⟨gb142, 2, none⟩ (.slice Ao33 t137.length co33)).heap[gb134]? = some (.cells #[.int .i64 t127, .int .i64 t128, .slice Ao27 t129.length co27] 34 (0, 0))) := ⟨by (with_reducible repeat (first | refine blk_drewN ?_ _ | refine blk_drew ?_ | refine blk_alloc ?_ _)); refine blk_far ?_ NB134_142.out _; (with_reducible repeat (first | refine blk_drewN ?_ _ | refine blk_drew ?_ | refine blk_alloc ?_ _)); refine blk_far ?_ NB134_142.out _; (with_reducible repeat (first | refine blk_drewN ?_ _ | refine blk_drew ?_ | refine blk_alloc ?_ _)); refine blk_far ?_ NB134_142.out _; (with_reducible repeat (first | refine blk_drewN ?_ _ | refine blk_drew ?_ | refine blk_alloc ?_ _)); exact BK134.out⟩
  have n4_ : Aside0 ((((w29.setCell ⟨gb142, 0, none⟩ (.int .i64 t135)).setCell ⟨gb142, 1, none⟩ (.int .i64 t136)).setCell ⟨gb142, 2, none⟩ (.slice Ao33 t137.length co33)).heap[gb142]? = some (.cells #[.int .i64 t135, .int .i64 t136, .slice Ao33 t137.length co33] 34 (0, 0))) := ⟨by (with_reducible repeat (first | refine blk_drewN ?_ _ | refine blk_drew ?_ | refine blk_alloc ?_ _)); refine blk_put (cs := #[.int .i64 t135, .int .i64 t136, .slice none 0 0]) ?_ 2 _ rfl; (with_reducible repeat (first | refine blk_drewN ?_ _ | refine blk_drew ?_ | refine blk_alloc ?_ _)); refine blk_put (cs := #[.int .i64 t135, .int .i64 0, .slice none 0 0]) ?_ 1 _ rfl; (with_reducible repeat (first | refine blk_drewN ?_ _ | refine blk_drew ?_ | refine blk_alloc ?_ _)); refine blk_put (cs := #[.int .i64 0, .int .i64 0, .slice none 0 0]) ?_ 0 _ rfl; (with_reducible repeat (first | refine blk_drewN ?_ _ | refine blk_drew ?_ | refine blk_alloc ?_ _)); exact BK142.out⟩
  have n5_ : Aside0 (Below w.heap.size w (((w29.setCell ⟨gb142, 0, none⟩ (.int .i64 t135)).setCell ⟨gb142, 1, none⟩ (.int .i64 t136)).setCell ⟨gb142, 2, none⟩ (.slice Ao33 t137.length co33))) := ⟨by repeat (first | (with_reducible first | exact HB.out | apply below_alloc | apply pw_below_drewN | apply below_drew1 | refine below_set ?_ GE101.out | refine below_set ?_ GE134.out | refine below_set ?_ GE142.out) | exact HB.out)⟩
  (try clear HO131)
  (try clear HO139)
  (try clear BK101)
  (try clear BK134)
  (try clear BK142)
  (try clear HB)
  generalize (((w29.setCell ⟨gb142, 0, none⟩ (.int .i64 t135)).setCell ⟨gb142, 1, none⟩ (.int .i64 t136)).setCell ⟨gb142, 2, none⟩ (.slice Ao33 t137.length co33)) = w34 at n0_ n1_ n2_ n3_ n4_ n5_ ⊢
  have HO131 := n0_
  have HO139 := n1_
  have BK101 := n2_
  have BK134 := n3_
  have BK142 := n4_
  have HB := n5_
  clear n0_ n1_ n2_ n3_ n4_ n5_
  have n0_ := Aside0.mk (Kd.R_drew HO131.out)
  have n1_ := Aside0.mk (Kd.R_drew HO139.out)
  have n2_ := Aside0.mk (blk_drew BK101.out)
  have n3_ := Aside0.mk (blk_drew BK134.out)
  have n4_ := Aside0.mk (blk_drew BK142.out)
  have n5_ := Aside0.mk (below_drew1 HB.out)
  clear HO131
  clear HO139
  clear BK101
  clear BK134
  clear BK142
  clear HB
  have HO131 := n0_
  have HO139 := n1_
  have BK101 := n2_
  have BK134 := n3_
  have BK142 := n4_
  have HB := n5_
  clear n0_ n1_ n2_ n3_ n4_ n5_
  refine start_ (n := 24) (S := fun w' => w'.cell? ⟨gb134, 0, none⟩ = some (.int .i64 t127) ∧ w'.cell? ⟨gb134, 1, none⟩ = some (.int .i64 t128) ∧ w'.cell? ⟨gb134, 2, none⟩ = some (.slice Ao27 t129.length co27) ∧ w'.cell? ⟨gb142, 0, none⟩ = some (.int .i64 t135) ∧ w'.cell? ⟨gb142, 1, none⟩ = some (.int .i64 t136) ∧ w'.cell? ⟨gb142, 2, none⟩ = some (.slice Ao33 t137.length co33) ∧ w'.cell? ⟨gb101, 0, none⟩ = some (.int .i64 a0_0) ∧ w'.cell? ⟨gb101, 1, none⟩ = some (.int .i64 a0_1) ∧ w'.cell? ⟨gb101, 2, none⟩ = some (.slice A0_2 l0_2.length c0_2)) (ds := []) #[false, false, false, false, false, false, false, false, false, false, false, false, false, false, false, false, false, false, false, false, false, false, false, false] (by kernel_rfl) rfl rfl ⟨(blk_cell BK134.out 0).trans rfl, (blk_cell BK134.out 1).trans rfl, (blk_cell BK134.out 2).trans rfl, (blk_cell BK142.out 0).trans rfl, (blk_cell BK142.out 1).trans rfl, (blk_cell BK142.out 2).trans rfl, (blk_cell BK101.out 0).trans rfl, (blk_cell BK101.out 1).trans rfl, (blk_cell BK101.out 2).trans rfl⟩ (fun hHeld => ?_); refine with_tabW fenlandlaw10_PagePut.tab6 fenlandlaw10_PagePut.bits6 (fun HT_ HW_ => ?_)
  generalize w34.drew = w35 at HO131 HO139 BK101 BK134 BK142 HB hHeld ⊢
  refine take_ (i := 0) (N := some 38) (v := ?_) (a' := ?_) #[true, false, false, false, false, false, false, false, false, false, false, false, false, false, false, false, false, false, false, false, false, false, false, false] rfl rfl (take_ofW HT_.out HW_.out (by kernel_rfl)) (fun _ _ _ h => h) (Or.inl ⟨by rfl, ?_⟩) hHeld ?_ ?_
  rotate_left
  ·rintro w' ⟨s0, s1, s2, s3, s4, s5, s6, s7, s8⟩
   go_simp
   with_reducible rfl
  rotate_left
  ·simp only [Act.put, List.setIfInBounds_toArray, List.set_cons_zero, List.set_cons_succ, i64_w, i32_w]
   rfl
  refine take_ (i := 1) (N := some 39) (v := ?_) (a' := ?_) #[true, true, false, false, false, false, false, false, false, false, false, false, false, false, false, false, false, false, false, false, false, false, false, false] rfl rfl (take_ofW HT_.out HW_.out (by kernel_rfl)) (fun _ _ _ h => h) (Or.inl ⟨by rfl, ?_⟩) hHeld ?_ ?_
  rotate_left
  ·rintro w' ⟨s0, s1, s2, s3, s4, s5, s6, s7, s8⟩
   go_simp
   with_reducible rfl
  rotate_left
  ·simp only [Act.put, List.setIfInBounds_toArray, List.set_cons_zero, List.set_cons_succ, i64_w, i32_w]
   rfl
  refine one_ (i := 2) (N := some 40) #[true, true, true, false, false, false, false, false, false, false, false, false, false, false, false, false, false, false, false, false, false, false, false, false] rfl rfl (one_of HT_.out (by kernel_rfl)) (by decide) (fun K hK => ?_)
  refine goes_ Try.func15 (by kernel_rfl) rfl #[.agg #[.int .i64 t127, .int .i64 t128, .slice Ao27 t129.length co27], .agg #[.int .i64 t135, .int .i64 t136, .slice Ao33 t137.length co33]] (by rfl) rfl rfl (by (try simp only [List.map_toArray, List.map_cons, List.map_nil]) <;> rfl) ?_
  with_reducible refine (fenlandref10_Same.calls k t127 t128 _ _ t129 t135 t136 _ _ t137 true _ ?side1 ?side2 ?side3 ?side4 A11.out).mono ?_
  (case side1 => exact xC (Kd.R_reads' HO131.out).2.2)
  (case side2 => exact (Kd.R_reads' HO131.out).2.1)
  (case side3 => exact xC (Kd.R_reads' HO139.out).2.2)
  (case side4 => exact (Kd.R_reads' HO139.out).2.1)
  rintro e w36 ⟨rfl, hb⟩
  refine ⟨_, rfl, ?_⟩
  have n0_ := Aside0.mk (Kd.R_below (xR HO131.out) hb)
  have n1_ := Aside0.mk (Kd.R_below (xR HO139.out) hb)
  have n2_ := Aside0.mk (blk_below (xB BK101.out) hb)
  have n3_ := Aside0.mk (blk_below (xB BK134.out) hb)
  have n4_ := Aside0.mk (blk_below (xB BK142.out) hb)
  have n5_ := Aside0.mk (below_step (xS HB.out (ge GE101.out (ge GE134.out (ge GE142.out g0)))) hb)
  clear HO131
  clear HO139
  clear BK101
  clear BK134
  clear BK142
  clear HB
  have HO131 := n0_
  have HO139 := n1_
  have BK101 := n2_
  have BK134 := n3_
  have BK142 := n4_
  have HB := n5_
  clear n0_ n1_ n2_ n3_ n4_ n5_
  (try clear hb)
  (try clear hb2)
  (try clear hk)
  (try clear hi)
  refine hK.out _ _ ⟨(blk_cell BK134.out 0).trans rfl, (blk_cell BK134.out 1).trans rfl, (blk_cell BK134.out 2).trans rfl, (blk_cell BK142.out 0).trans rfl, (blk_cell BK142.out 1).trans rfl, (blk_cell BK142.out 2).trans rfl, (blk_cell BK101.out 0).trans rfl, (blk_cell BK101.out 1).trans rfl, (blk_cell BK101.out 2).trans rfl⟩ (fun hHeld => ?_)
  clear hK K
  refine norm_ (a' := ?_) ?_ ?_
  rotate_left
  ·show Act.put _ (some 40) _ = _
   simp only [Act.put, List.setIfInBounds_toArray, List.set_cons_zero, List.set_cons_succ, i64_w, i32_w]
   rfl
  refine pure_ (i := 3) (N := some 41) (v := ?_) (a' := ?_) #[true, true, true, true, false, false, false, false, false, false, false, false, false, false, false, false, false, false, false, false, false, false, false, false] rfl rfl (any_of HT_.out (by kernel_rfl)) (fun _ _ _ h => h) (Or.inl ⟨by rfl, ?_⟩) ?_ ?_
  rotate_left
  ·intro w'
   go_simp
   with_reducible rfl
  rotate_left
  ·simp only [Act.put, List.setIfInBounds_toArray, List.set_cons_zero, List.set_cons_succ, i64_w, i32_w]
   rfl
  refine pure_ (i := 4) (N := some 42) (v := ?_) (a' := ?_) #[true, true, true, true, true, false, false, false, false, false, false, false, false, false, false, false, false, false, false, false, false, false, false, false] rfl rfl (any_of HT_.out (by kernel_rfl)) (fun _ _ _ h => h) (Or.inl ⟨by rfl, ?_⟩) ?_ ?_
  rotate_left
  ·intro w'
   go_simp
   with_reducible rfl
  rotate_left
  ·simp only [Act.put, List.setIfInBounds_toArray, List.set_cons_zero, List.set_cons_succ, i64_w, i32_w]
   rfl
  refine pure_ (i := 5) (N := some 43) (v := ?_) (a' := ?_) #[true, true, true, true, true, true, false, false, false, false, false, false, false, false, false, false, false, false, false, false, false, false, false, false] rfl rfl (any_of HT_.out (by kernel_rfl)) (fun _ _ _ h => h) (Or.inl ⟨by rfl, ?_⟩) ?_ ?_
  rotate_left
  ·intro w'
   go_simp
   with_reducible rfl
  rotate_left
  ·simp only [Act.put, List.setIfInBounds_toArray, List.set_cons_zero, List.set_cons_succ, i64_w, i32_w]
   rfl
  refine pure_ (i := 6) (N := some 44) (v := ?_) (a' := ?_) #[true, true, true, true, true, true, true, false, false, false, false, false, false, false, false, false, false, false, false, false, false, false, false, false] rfl rfl (any_of HT_.out (by kernel_rfl)) (fun _ _ _ h => h) (Or.inl ⟨by rfl, ?_⟩) ?_ ?_
  rotate_left
  ·intro w'
   go_simp
   with_reducible rfl
  rotate_left
  ·simp only [Act.put, List.setIfInBounds_toArray, List.set_cons_zero, List.set_cons_succ, i64_w, i32_w]
   rfl
  refine pure_ (i := 7) (N := some 45) (v := ?_) (a' := ?_) #[true, true, true, true, true, true, true, true, false, false, false, false, false, false, false, false, false, false, false, false, false, false, false, false] rfl rfl (any_of HT_.out (by kernel_rfl)) (fun _ _ _ h => h) (Or.inl ⟨by rfl, ?_⟩) ?_ ?_
  rotate_left
  ·intro w'
   go_simp
   with_reducible rfl
  rotate_left
  ·simp only [Act.put, List.setIfInBounds_toArray, List.set_cons_zero, List.set_cons_succ, i64_w, i32_w]
   rfl
  refine pure_ (i := 8) (N := some 46) (v := ?_) (a' := ?_) #[true, true, true, true, true, true, true, true, true, false, false, false, false, false, false, false, false, false, false, false, false, false, false, false] rfl rfl (any_of HT_.out (by kernel_rfl)) (fun _ _ _ h => h) (Or.inl ⟨by rfl, ?_⟩) ?_ ?_
  rotate_left
  ·intro w'
   go_simp
   with_reducible rfl
  rotate_left
  ·simp only [Act.put, List.setIfInBounds_toArray, List.set_cons_zero, List.set_cons_succ, i64_w, i32_w]
   rfl
  refine pure_ (i := 9) (N := some 47) (v := ?_) (a' := ?_) #[true, true, true, true, true, true, true, true, true, true, false, false, false, false, false, false, false, false, false, false, false, false, false, false] rfl rfl (any_of HT_.out (by kernel_rfl)) (fun _ _ _ h => h) (Or.inl ⟨by rfl, ?_⟩) ?_ ?_
  rotate_left
  ·intro w'
   go_simp
   with_reducible rfl
  rotate_left
  ·simp only [Act.put, List.setIfInBounds_toArray, List.set_cons_zero, List.set_cons_succ, i64_w, i32_w]
   rfl
  refine pure_ (i := 10) (N := some 48) (v := ?_) (a' := ?_) #[true, true, true, true, true, true, true, true, true, true, true, false, false, false, false, false, false, false, false, false, false, false, false, false] rfl rfl (any_of HT_.out (by kernel_rfl)) (fun _ _ _ h => h) (Or.inl ⟨by rfl, ?_⟩) ?_ ?_
  rotate_left
  ·intro w'
   go_simp
   with_reducible rfl
  rotate_left
  ·simp only [Act.put, List.setIfInBounds_toArray, List.set_cons_zero, List.set_cons_succ, i64_w, i32_w]
   rfl
  refine pure_ (i := 11) (N := some 49) (v := ?_) (a' := ?_) #[true, true, true, true, true, true, true, true, true, true, true, true, false, false, false, false, false, false, false, false, false, false, false, false] rfl rfl (any_of HT_.out (by kernel_rfl)) (fun _ _ _ h => h) (Or.inl ⟨by rfl, ?_⟩) ?_ ?_
  rotate_left
  ·intro w'
   go_simp
   with_reducible rfl
  rotate_left
  ·simp only [Act.put, List.setIfInBounds_toArray, List.set_cons_zero, List.set_cons_succ, i64_w, i32_w]
   rfl
  refine pure_ (i := 12) (N := some 50) (v := ?_) (a' := ?_) #[true, true, true, true, true, true, true, true, true, true, true, true, true, false, false, false, false, false, false, false, false, false, false, false] rfl rfl (any_of HT_.out (by kernel_rfl)) (fun _ _ _ h => h) (Or.inl ⟨by rfl, ?_⟩) ?_ ?_
  rotate_left
  ·intro w'
   go_simp
   with_reducible rfl
  rotate_left
  ·simp only [Act.put, List.setIfInBounds_toArray, List.set_cons_zero, List.set_cons_succ, i64_w, i32_w]
   rfl
  refine pure_ (i := 13) (N := some 51) (v := ?_) (a' := ?_) #[true, true, true, true, true, true, true, true, true, true, true, true, true, true, false, false, false, false, false, false, false, false, false, false] rfl rfl (any_of HT_.out (by kernel_rfl)) (fun _ _ _ h => h) (Or.inl ⟨by rfl, ?_⟩) ?_ ?_
  rotate_left
  ·intro w'
   go_simp
   with_reducible rfl
  rotate_left
  ·simp only [Act.put, List.setIfInBounds_toArray, List.set_cons_zero, List.set_cons_succ, i64_w, i32_w]
   rfl
  refine pure_ (i := 14) (N := some 52) (v := ?_) (a' := ?_) #[true, true, true, true, true, true, true, true, true, true, true, true, true, true, true, false, false, false, false, false, false, false, false, false] rfl rfl (any_of HT_.out (by kernel_rfl)) (fun _ _ _ h => h) (Or.inl ⟨by rfl, ?_⟩) ?_ ?_
  rotate_left
  ·intro w'
   go_simp
   with_reducible rfl
  rotate_left
  ·simp only [Act.put, List.setIfInBounds_toArray, List.set_cons_zero, List.set_cons_succ, i64_w, i32_w]
   rfl
  refine pure_ (i := 15) (N := some 53) (v := ?_) (a' := ?_) #[true, true, true, true, true, true, true, true, true, true, true, true, true, true, true, true, false, false, false, false, false, false, false, false] rfl rfl (any_of HT_.out (by kernel_rfl)) (fun _ _ _ h => h) (Or.inl ⟨by rfl, ?_⟩) ?_ ?_
  rotate_left
  ·intro w'
   go_simp
   with_reducible rfl
  rotate_left
  ·simp only [Act.put, List.setIfInBounds_toArray, List.set_cons_zero, List.set_cons_succ, i64_w, i32_w]
   rfl
  refine pure_ (i := 18) (N := some 56) (v := ?_) (a' := ?_) #[true, true, true, true, true, true, true, true, true, true, true, true, true, true, true, true, false, false, true, false, false, false, false, false] rfl rfl (any_of HT_.out (by kernel_rfl)) (fun _ _ _ h => h) (Or.inl ⟨by rfl, ?_⟩) ?_ ?_
  rotate_left
  ·intro w'
   go_simp
   with_reducible rfl
  rotate_left
  ·simp only [Act.put, List.setIfInBounds_toArray, List.set_cons_zero, List.set_cons_succ, i64_w, i32_w]
   rfl
  refine take_ (i := 16) (N := some 54) (v := ?_) (a' := ?_) #[true, true, true, true, true, true, true, true, true, true, true, true, true, true, true, true, true, false, true, false, false, false, false, false] rfl rfl (take_ofW HT_.out HW_.out (by kernel_rfl)) (fun _ _ _ h => h) (Or.inl ⟨by rfl, ?_⟩) hHeld ?_ ?_
  rotate_left
  ·rintro w' ⟨s0, s1, s2, s3, s4, s5, s6, s7, s8⟩
   go_simp
   with_reducible rfl
  rotate_left
  ·simp only [Act.put, List.setIfInBounds_toArray, List.set_cons_zero, List.set_cons_succ, i64_w, i32_w]
   rfl
  refine take_ (i := 19) (N := some 57) (v := ?_) (a' := ?_) #[true, true, true, true, true, true, true, true, true, true, true, true, true, true, true, true, true, false, true, true, false, false, false, false] rfl rfl (take_ofW HT_.out HW_.out (by kernel_rfl)) (fun _ _ _ h => h) (Or.inl ⟨by rfl, ?_⟩) hHeld ?_ ?_
  rotate_left
  ·rintro w' ⟨s0, s1, s2, s3, s4, s5, s6, s7, s8⟩
   go_simp
   with_reducible rfl
  rotate_left
  ·simp only [Act.put, List.setIfInBounds_toArray, List.set_cons_zero, List.set_cons_succ, i64_w, i32_w]
   rfl
  refine one_ (i := 17) (N := some 55) #[true, true, true, true, true, true, true, true, true, true, true, true, true, true, true, true, true, true, true, true, false, false, false, false] rfl rfl (one_of HT_.out (by kernel_rfl)) (by decide) (fun K hK => ?_)
  refine goes_ Try.func16 (by kernel_rfl) rfl #[.slice A1 l1.length c1, .agg #[.int .i64 a0_0, .int .i64 a0_1, .slice A0_2 l0_2.length c0_2]] (by rfl) rfl rfl (by (try simp only [List.map_toArray, List.map_cons, List.map_nil]) <;> rfl) ?_
  with_reducible refine (page_Put.calls k _ _ l1 a0_0 a0_1 _ _ l0_2 t144 _ ?side1 ?side2 ?side3 ?side4 A15.out).mono ?_
  (case side1 => exact xC (Kd.C_below HR1.out HB.out))
  (case side2 => exact HC1.out)
  (case side3 => exact xC (Kd.C_below HR0_2.out HB.out))
  (case side4 => exact HC0_2.out)
  rintro e w37 ⟨v145, rfl, ho0, hb⟩
  refine ⟨_, rfl, ?_⟩
  have n0_ := Aside0.mk (Kd.R_elder' (xR HO131.out) (Kd.R_base ho0) hb)
  have n1_ := Aside0.mk (Kd.R_elder' (xR HO139.out) (Kd.R_base ho0) hb)
  have n2_ := Aside0.mk (Kd.R_lower (Kd.R_new' (Kd.R_new' ho0 (Kd.R_lt (xR HO131.out))) (Kd.R_lt (xR HO139.out))) (below_size (xS HB.out (ge GE101.out (ge GE134.out (ge GE142.out g0))))))
  have n3_ := Aside0.mk (blk_below (xB BK101.out) hb)
  have n4_ := Aside0.mk (blk_below (xB BK134.out) hb)
  have n5_ := Aside0.mk (blk_below (xB BK142.out) hb)
  have n6_ := Aside0.mk (below_step (xS HB.out (ge GE101.out (ge GE134.out (ge GE142.out g0)))) hb)
  clear HO131
  clear HO139
  clear BK101
  clear BK134
  clear BK142
  clear HB
  have HO131 := n0_
  have HO139 := n1_
  have HO146 := n2_
  have BK101 := n3_
  have BK134 := n4_
  have BK142 := n5_
  have HB := n6_
  clear n0_ n1_ n2_ n3_ n4_ n5_ n6_
  (try clear hb)
  (try clear hb2)
  (try clear hk)
  (try clear hi)
  (try clear ho0)
  refine hK.out _ _ ⟨(blk_cell BK134.out 0).trans rfl, (blk_cell BK134.out 1).trans rfl, (blk_cell BK134.out 2).trans rfl, (blk_cell BK142.out 0).trans rfl, (blk_cell BK142.out 1).trans rfl, (blk_cell BK142.out 2).trans rfl, (blk_cell BK101.out 0).trans rfl, (blk_cell BK101.out 1).trans rfl, (blk_cell BK101.out 2).trans rfl⟩ (fun hHeld => ?_)
  clear hK K
  refine norm_ (a' := ?_) ?_ ?_
  rotate_left
  ·show Act.put _ (some 55) _ = _
   simp only [Act.put, List.setIfInBounds_toArray, List.set_cons_zero, List.set_cons_succ, i64_w, i32_w]
   rfl
  refine one_ (i := 20) (N := some 58) #[true, true, true, true, true, true, true, true, true, true, true, true, true, true, true, true, true, true, true, true, true, false, false, false] rfl rfl (one_of HT_.out (by kernel_rfl)) (by decide) (fun K hK => ?_)
  refine goes_ Try.func17 (by kernel_rfl) rfl #[.slice A1 l1.length c1, .agg #[.int .i64 a0_0, .int .i64 a0_1, .slice A0_2 l0_2.length c0_2]] (by rfl) rfl rfl (by (try simp only [List.map_toArray, List.map_cons, List.map_nil]) <;> rfl) ?_
  with_reducible refine (fenlandref10_Put.calls k _ _ l1 a0_0 a0_1 _ _ l0_2 t147 _ ?side1 ?side2 ?side3 ?side4 A16.out).mono ?_
  (case side1 => exact xC (Kd.C_below HR1.out HB.out))
  (case side2 => exact HC1.out)
  (case side3 => exact xC (Kd.C_below HR0_2.out HB.out))
  (case side4 => exact HC0_2.out)
  rintro e w38 ⟨v148, rfl, ho0, hb⟩
  refine ⟨_, rfl, ?_⟩
  have n0_ := Aside0.mk (Kd.R_elder' (xR HO131.out) (Kd.R_base ho0) hb)
  have n1_ := Aside0.mk (Kd.R_elder' (xR HO139.out) (Kd.R_base ho0) hb)
  have n2_ := Aside0.mk (Kd.R_elder' (xR HO146.out) (Kd.R_base ho0) hb)
  have n3_ := Aside0.mk (Kd.R_lower (Kd.R_new' (Kd.R_new' (Kd.R_new' ho0 (Kd.R_lt (xR HO131.out))) (Kd.R_lt (xR HO139.out))) (Kd.R_lt (xR HO146.out))) (below_size (xS HB.out (ge GE101.out (ge GE134.out (ge GE142.out g0))))))
  have n4_ := Aside0.mk (blk_below (xB BK101.out) hb)
  have n5_ := Aside0.mk (blk_below (xB BK134.out) hb)
  have n6_ := Aside0.mk (blk_below (xB BK142.out) hb)
  have n7_ := Aside0.mk (below_step (xS HB.out (ge GE101.out (ge GE134.out (ge GE142.out g0)))) hb)
  clear HO131
  clear HO139
  clear HO146
  clear BK101
  clear BK134
  clear BK142
  clear HB
  have HO131 := n0_
  have HO139 := n1_
  have HO146 := n2_
  have HO149 := n3_
  have BK101 := n4_
  have BK134 := n5_
  have BK142 := n6_
  have HB := n7_
  clear n0_ n1_ n2_ n3_ n4_ n5_ n6_ n7_
  (try clear hb)
  (try clear hb2)
  (try clear hk)
  (try clear hi)
  (try clear ho0)
  obtain ⟨Ao39, co39, eo39⟩ := Kd.R_slice HO146.out
  (first | subst eo39 | (injection eo39 with f1_ f2_ f3_; have f4_ := f1_.symm; have f5_ := f3_.symm; clear f1_ f2_ f3_; subst f4_; subst f5_))
  obtain ⟨Ao40, co40, eo40⟩ := Kd.R_slice HO149.out
  (first | subst eo40 | (injection eo40 with f1_ f2_ f3_; have f4_ := f1_.symm; have f5_ := f3_.symm; clear f1_ f2_ f3_; subst f4_; subst f5_))
  refine hK.out _ _ ⟨(blk_cell BK134.out 0).trans rfl, (blk_cell BK134.out 1).trans rfl, (blk_cell BK134.out 2).trans rfl, (blk_cell BK142.out 0).trans rfl, (blk_cell BK142.out 1).trans rfl, (blk_cell BK142.out 2).trans rfl, (blk_cell BK101.out 0).trans rfl, (blk_cell BK101.out 1).trans rfl, (blk_cell BK101.out 2).trans rfl⟩ (fun hHeld => ?_)
  clear hK K
  refine norm_ (a' := ?_) ?_ ?_
  rotate_left
  ·show Act.put _ (some 58) _ = _
   simp only [Act.put, List.setIfInBounds_toArray, List.set_cons_zero, List.set_cons_succ, i64_w, i32_w]
   rfl
  refine one_ (i := 21) (N := some 59) #[true, true, true, true, true, true, true, true, true, true, true, true, true, true, true, true, true, true, true, true, true, true, false, false] rfl rfl (one_of HT_.out (by kernel_rfl)) (by decide) (fun K hK => ?_)
  refine goes_ Try.func11 (by kernel_rfl) rfl #[.slice Ao39 t144.length co39, .slice Ao40 t147.length co40] (by rfl) rfl rfl (by (try simp only [List.map_toArray, List.map_cons, List.map_nil]) <;> rfl) ?_
  with_reducible refine (fenlandref01_Same.calls k _ _ t144 _ _ t147 true _ ?side1 ?side2 ?side3 ?side4 A17.out).mono ?_
  (case side1 => exact xC (Kd.R_reads' HO146.out).2.2)
  (case side2 => exact (Kd.R_reads' HO146.out).2.1)
  (case side3 => exact xC (Kd.R_reads' HO149.out).2.2)
  (case side4 => exact (Kd.R_reads' HO149.out).2.1)
  rintro e w' ⟨rfl, ⟨nd, rfl⟩⟩
  refine ⟨_, rfl, ?_⟩
  refine hK.out _ _ ⟨(blk_cell BK134.out 0).trans rfl, (blk_cell BK134.out 1).trans rfl, (blk_cell BK134.out 2).trans rfl, (blk_cell BK142.out 0).trans rfl, (blk_cell BK142.out 1).trans rfl, (blk_cell BK142.out 2).trans rfl, (blk_cell BK101.out 0).trans rfl, (blk_cell BK101.out 1).trans rfl, (blk_cell BK101.out 2).trans rfl⟩ (fun hHeld => ?_)
  clear hK K
  refine norm_ (a' := ?_) ?_ ?_
  rotate_left
  ·show Act.put _ (some 59) _ = _
   simp only [Act.put, List.setIfInBounds_toArray, List.set_cons_zero, List.set_cons_succ, i64_w, i32_w]
   rfl
  refine pure_ (i := 22) (N := some 60) (v := ?_) (a' := ?_) #[true, true, true, true, true, true, true, true, true, true, true, true, true, true, true, true, true, true, true, true, true, true, true, false] rfl rfl (any_of HT_.out (by kernel_rfl)) (fun _ _ _ h => h) (Or.inl ⟨by rfl, ?_⟩) ?_ ?_
  rotate_left
  ·intro w'
   go_simp
   with_reducible rfl
  rotate_left
  ·simp only [Act.put, List.setIfInBounds_toArray, List.set_cons_zero, List.set_cons_succ, i64_w, i32_w]
   rfl
  refine pure_ (i := 23) (N := some 61) (v := ?_) (a' := ?_) #[true, true, true, true, true, true, true, true, true, true, true, true, true, true, true, true, true, true, true, true, true, true, true, true] rfl rfl (any_of HT_.out (by kernel_rfl)) (fun _ _ _ h => h) (Or.inl ⟨by rfl, ?_⟩) ?_ ?_
  rotate_left
  ·intro w'
   go_simp
   with_reducible rfl
  rotate_left
  ·simp only [Act.put, List.setIfInBounds_toArray, List.set_cons_zero, List.set_cons_succ, i64_w, i32_w]
   rfl
  refine done_ (done_of HT_.out (by kernel_rfl)) ?_
  (try (rw [drewN_self w38]; generalize hq_ : World.drewN w38 _ = w38; have n0_ := Aside0.mk (Kd.R_at hq_ HO131.out); have n1_ := Aside0.mk (Kd.R_at hq_ HO139.out); have n2_ := Aside0.mk (Kd.R_at hq_ HO146.out); have n3_ := Aside0.mk (Kd.R_at hq_ HO149.out); have n4_ := Aside0.mk (blk_at hq_ BK101.out); have n5_ := Aside0.mk (blk_at hq_ BK134.out); have n6_ := Aside0.mk (blk_at hq_ BK142.out); have n7_ := Aside0.mk (below_at hq_ HB.out); clear hq_ HO131 HO139 HO146 HO149 BK101 BK134 BK142 HB; revert n0_ n1_ n2_ n3_ n4_ n5_ n6_ n7_; intro HO131 HO139 HO146 HO149 BK101 BK134 BK142 HB))
  go_upto_region 8 with (fail)
  go_cut [75] (fun v75 wc => ∃ (kq : Nat) (x75_18 : Bool), v75 = .bool x75_18 ∧ Aside0 (fenlandlaw10_PagePut.j0 kq l1 t102 x75_18 a0_0 a0_1 l0_2 = some r) ∧ Aside0 (kq ≤ k) ∧ Aside0 (Kd.R (Kd.int .u8) 5 wc w.heap.size (fun k_ => some k_ ≠ ((.slice Ao33 t137.length co33) : Value).ownBlock) (.slice Ao27 t129.length co27) t129) ∧ Aside0 (Kd.R (Kd.int .u8) 5 wc w.heap.size (fun k_ => some k_ ≠ ((.slice Ao27 t129.length co27) : Value).ownBlock) (.slice Ao33 t137.length co33) t137) ∧ Aside0 (wc.heap[gb101]? = some (.cells #[.int .i64 a0_0, .int .i64 a0_1, (.slice A0_2 l0_2.length c0_2)] 34 (0, 0))) ∧ Aside0 (wc.heap[gb134]? = some (.cells #[.int .i64 t127, .int .i64 t128, (.slice Ao27 t129.length co27)] 34 (0, 0))) ∧ Aside0 (wc.heap[gb142]? = some (.cells #[.int .i64 t135, .int .i64 t136, (.slice Ao33 t137.length co33)] 34 (0, 0))) ∧ Aside0 (Below w.heap.size w wc))
  case first =>
   have H := HC19.out
   clear HC19
   by_cases c41 : t133 = 0
   ·rw [if_pos c41] at H
    have c41b0 : (t133 == 0) = true := beq_iff_eq.mpr c41
    have c41b1 : (t133 != 0) = false := bne_eq_false_iff_eq.mpr c41
    clear c41
    (first | rw [c41b0] | (simp only [i64_w, i32_w]; rw [c41b0]) | skip)
    by_cases c42 : 0 ≤ a2
    rotate_left
    ·rw [if_neg c42] at H
     exact absurd H (by simp)
    rw [if_pos c42] at H
    have c42b0 := eq_true c42
    have c42b1 : decide (0 ≤ a2) = true := decide_eq_true c42
    clear c42
    by_cases c43 : a2 ≤ (l1.length : Int)
    rotate_left
    ·rw [if_neg c43] at H
     exact absurd H (by simp)
    rw [if_pos c43] at H
    have c43b0 := eq_true c43
    have c43b1 : decide (a2 ≤ (l1.length : Int)) = true := decide_eq_true c43
    clear c43
    replace H := Option.bind_eq_some_iff.mp H
    obtain ⟨t422, A440, H⟩ := H
    (try dsimp only at H)
    have A44 := Aside0.mk A440
    clear A440
    by_cases c45 : 0 ≤ t132
    rotate_left
    ·rw [if_neg c45] at H
     exact absurd H (by simp)
    rw [if_pos c45] at H
    have c45b0 := eq_true c45
    have c45b1 : decide (0 ≤ t132) = true := decide_eq_true c45
    clear c45
    by_cases c46 : t132 ≤ (l1.length : Int)
    rotate_left
    ·rw [if_neg c46] at H
     exact absurd H (by simp)
    rw [if_pos c46] at H
    have c46b0 := eq_true c46
    have c46b1 : decide (t132 ≤ (l1.length : Int)) = true := decide_eq_true c46
    clear c46
    replace H := Option.bind_eq_some_iff.mp H
    obtain ⟨t426, A470, H⟩ := H
    (try dsimp only at H)
    have A47 := Aside0.mk A470
    clear A470
    have H' := Aside0.mk H
    clear H
    try go_wp2
    have n0_ := Aside0.mk (Kd.R_drew HO131.out)
    have n1_ := Aside0.mk (Kd.R_drew HO139.out)
    have n2_ := Aside0.mk (Kd.R_drew HO146.out)
    have n3_ := Aside0.mk (Kd.R_drew HO149.out)
    have n4_ := Aside0.mk (blk_drew BK101.out)
    have n5_ := Aside0.mk (blk_drew BK134.out)
    have n6_ := Aside0.mk (blk_drew BK142.out)
    have n7_ := Aside0.mk (below_drew1 HB.out)
    clear HO131
    clear HO139
    clear HO146
    clear HO149
    clear BK101
    clear BK134
    clear BK142
    clear HB
    have HO131 := n0_
    have HO139 := n1_
    have HO146 := n2_
    have HO149 := n3_
    have BK101 := n4_
    have BK134 := n5_
    have BK142 := n6_
    have HB := n7_
    clear n0_ n1_ n2_ n3_ n4_ n5_ n6_ n7_
    obtain ⟨i049, hi049, _, hsz49, _⟩ := info_parts info5
    obtain ⟨hcut49, hA49, hC49⟩ := print_take_of (P := Try.prog) (Value.int .u8) 0 32 5 .i64 Try.underlying32 hi049 hsz49 A1 c1 l1 a2 (of_decide_eq_true (by first | (with_reducible assumption) | assumption)) (of_decide_eq_true (by first | (with_reducible assumption) | assumption)) HC1.out
    have HR421 := Aside0.mk (Kd.C_of_reads (h1 := fun _ => rfl) (hA49 _ (Kd.reads_of_C HR1.out)))
    have HC421 := Aside0.mk hC49
    clear hA49 hC49 hi049 hsz49
    obtain ⟨i050, hi050, _, hsz50, _⟩ := info_parts info5
    obtain ⟨hcut50, hA50, hC50⟩ := print_take_of (P := Try.prog) (Value.int .u8) 0 32 5 .i64 Try.underlying32 hi050 hsz50 A1 c1 l1 t132 (of_decide_eq_true (by first | (with_reducible assumption) | assumption)) (of_decide_eq_true (by first | (with_reducible assumption) | assumption)) HC1.out
    have HR425 := Aside0.mk (Kd.C_of_reads (h1 := fun _ => rfl) (hA50 _ (Kd.reads_of_C HR1.out)))
    have HC425 := Aside0.mk hC50
    clear hA50 hC50 hi050 hsz50
    refine start_ (n := 14) (S := fun w' => w'.cell? ⟨gb134, 0, none⟩ = some (.int .i64 t127) ∧ w'.cell? ⟨gb134, 1, none⟩ = some (.int .i64 t128) ∧ w'.cell? ⟨gb134, 2, none⟩ = some (.slice Ao27 t129.length co27)) (ds := []) #[false, false, false, false, false, false, false, false, false, false, false, false, false, false] (by kernel_rfl) rfl rfl ⟨(blk_cell BK134.out 0).trans rfl, (blk_cell BK134.out 1).trans rfl, (blk_cell BK134.out 2).trans rfl⟩ (fun hHeld => ?_); refine with_tabW fenlandlaw10_PagePut.tab8 fenlandlaw10_PagePut.bits8 (fun HT_ HW_ => ?_)
    generalize w38.drew = w48 at HO131 HO139 HO146 HO149 BK101 BK134 BK142 HB HR421 HR425 hHeld ⊢
    refine pure_ (i := 0) (N := some 62) (v := ?_) (a' := ?_) #[true, false, false, false, false, false, false, false, false, false, false, false, false, false] rfl rfl (any_of HT_.out (by kernel_rfl)) (fun _ _ _ h => h) (Or.inl ⟨by rfl, ?_⟩) ?_ ?_
    rotate_left
    ·intro w'
     go_simp
     with_reducible rfl
    rotate_left
    ·simp only [Act.put, List.setIfInBounds_toArray, List.set_cons_zero, List.set_cons_succ, i64_w, i32_w]
     rfl
    refine pure_ (i := 1) (N := some 63) (v := ?_) (a' := ?_) #[true, true, false, false, false, false, false, false, false, false, false, false, false, false] rfl rfl (any_of HT_.out (by kernel_rfl)) (fun _ _ _ h => h) (Or.inl ⟨by rfl, ?_⟩) ?_ ?_
    rotate_left
    ·intro w'
     go_simp
     with_reducible rfl
    rotate_left
    ·simp only [Act.put, List.setIfInBounds_toArray, List.set_cons_zero, List.set_cons_succ, i64_w, i32_w]
     rfl
    refine pure_ (i := 2) (N := some 64) (v := ?_) (a' := ?_) #[true, true, true, false, false, false, false, false, false, false, false, false, false, false] rfl rfl (any_of HT_.out (by kernel_rfl)) (fun _ _ _ h => h) (Or.inl ⟨by rfl, ?_⟩) ?_ ?_
    rotate_left
    ·intro w'
     go_simp
     with_reducible rfl
    rotate_left
    ·simp only [Act.put, List.setIfInBounds_toArray, List.set_cons_zero, List.set_cons_succ, i64_w, i32_w]
     rfl
    refine pure_ (i := 3) (N := some 65) (v := ?_) (a' := ?_) #[true, true, true, true, false, false, false, false, false, false, false, false, false, false] rfl rfl (any_of HT_.out (by kernel_rfl)) (fun _ _ _ h => h) (Or.inl ⟨by rfl, ?_⟩) ?_ ?_
    rotate_left
    ·intro w'
     go_simp
     with_reducible rfl
    rotate_left
    ·simp only [Act.put, List.setIfInBounds_toArray, List.set_cons_zero, List.set_cons_succ, i64_w, i32_w]
     rfl
    refine pure_ (i := 4) (N := some 66) (v := ?_) (a' := ?_) #[true, true, true, true, true, false, false, false, false, false, false, false, false, false] rfl rfl (any_of HT_.out (by kernel_rfl)) (fun _ _ _ h => h) (Or.inl ⟨by rfl, ?_⟩) ?_ ?_
    rotate_left
    ·intro w'
     go_simp
     with_reducible rfl
    rotate_left
    ·simp only [Act.put, List.setIfInBounds_toArray, List.set_cons_zero, List.set_cons_succ, i64_w, i32_w]
     rfl
    refine pure_ (i := 5) (N := some 67) (v := ?_) (a' := ?_) #[true, true, true, true, true, true, false, false, false, false, false, false, false, false] rfl rfl (any_of HT_.out (by kernel_rfl)) (fun _ _ _ h => h) (Or.inl ⟨by rfl, ?_⟩) ?_ ?_
    rotate_left
    ·intro w'
     go_simp
     with_reducible rfl
    rotate_left
    ·simp only [Act.put, List.setIfInBounds_toArray, List.set_cons_zero, List.set_cons_succ, i64_w, i32_w]
     rfl
    refine pure_ (i := 8) (N := some 70) (v := ?_) (a' := ?_) #[true, true, true, true, true, true, false, false, true, false, false, false, false, false] rfl rfl (any_of HT_.out (by kernel_rfl)) (fun _ _ _ h => h) (Or.inl ⟨by rfl, ?_⟩) ?_ ?_
    rotate_left
    ·intro w'
     go_simp
     with_reducible rfl
    rotate_left
    ·simp only [Act.put, List.setIfInBounds_toArray, List.set_cons_zero, List.set_cons_succ, i64_w, i32_w]
     rfl
    refine pure_ (i := 9) (N := some 71) (v := ?_) (a' := ?_) #[true, true, true, true, true, true, false, false, true, true, false, false, false, false] rfl rfl (any_of HT_.out (by kernel_rfl)) (fun _ _ _ h => h) (Or.inl ⟨by rfl, ?_⟩) ?_ ?_
    rotate_left
    ·intro w'
     go_simp
     with_reducible rfl
    rotate_left
    ·simp only [Act.put, List.setIfInBounds_toArray, List.set_cons_zero, List.set_cons_succ, i64_w, i32_w]
     rfl
    refine pure_ (i := 10) (N := some 72) (v := ?_) (a' := ?_) #[true, true, true, true, true, true, false, false, true, true, true, false, false, false] rfl rfl (any_of HT_.out (by kernel_rfl)) (fun _ _ _ h => h) (Or.inl ⟨by rfl, ?_⟩) ?_ ?_
    rotate_left
    ·intro w'
     go_simp
     with_reducible rfl
    rotate_left
    ·simp only [Act.put, List.setIfInBounds_toArray, List.set_cons_zero, List.set_cons_succ, i64_w, i32_w]
     rfl
    refine take_ (i := 6) (N := some 68) (v := ?_) (a' := ?_) #[true, true, true, true, true, true, true, false, true, true, true, false, false, false] rfl rfl (take_ofW HT_.out HW_.out (by kernel_rfl)) (fun _ _ _ h => h) (Or.inl ⟨by rfl, ?_⟩) hHeld ?_ ?_
    rotate_left
    ·rintro w' ⟨s0, s1, s2⟩
     go_simp
     with_reducible rfl
    rotate_left
    ·simp only [Act.put, List.setIfInBounds_toArray, List.set_cons_zero, List.set_cons_succ, i64_w, i32_w]
     rfl
    refine one_ (i := 7) (N := some 69) #[true, true, true, true, true, true, true, true, true, true, true, false, false, false] rfl rfl (one_of HT_.out (by kernel_rfl)) (by decide) (fun K hK => ?_)
    refine goes_ Try.func16 (by kernel_rfl) rfl #[.slice A1 (l1.take (a2 : Int).toNat).length c1, .agg #[.int .i64 t127, .int .i64 t128, .slice Ao27 t129.length co27]] (by rfl) rfl rfl (by (try simp only [List.map_toArray, List.map_cons, List.map_nil]); first | done | (rw [show (l1.take (a2 : Int).toNat).length = a2.toNat from (by rw [List.length_take]; have h_ : (a2 : Int) ≤ (l1.length : Int) := of_decide_eq_true (by first | (with_reducible assumption) | assumption); omega)] <;> rfl) | rfl | (simp only [List.length_drop, List.length_take]; rfl)) ?_
    with_reducible refine (page_Put.calls k _ _ (l1.take (a2 : Int).toNat) t127 t128 _ _ t129 t422 _ ?side1 ?side2 ?side3 ?side4 A44.out).mono ?_
    (case side1 => exact xC (Kd.C_below HR421.out HB.out))
    (case side2 => exact HC421.out)
    (case side3 => exact xC (Kd.R_reads' HO131.out).2.2)
    (case side4 => exact (Kd.R_reads' HO131.out).2.1)
    rintro e w51 ⟨v423, rfl, ho0, hb⟩
    refine ⟨_, rfl, ?_⟩
    have n0_ := Aside0.mk (Kd.R_elder' (xR HO131.out) (Kd.R_base ho0) hb)
    have n1_ := Aside0.mk (Kd.R_elder' (xR HO139.out) (Kd.R_base ho0) hb)
    have n2_ := Aside0.mk (Kd.R_elder' (xR HO146.out) (Kd.R_base ho0) hb)
    have n3_ := Aside0.mk (Kd.R_elder' (xR HO149.out) (Kd.R_base ho0) hb)
    have n4_ := Aside0.mk (Kd.R_lower (Kd.R_new' (Kd.R_new' (Kd.R_new' (Kd.R_new' ho0 (Kd.R_lt (xR HO131.out))) (Kd.R_lt (xR HO139.out))) (Kd.R_lt (xR HO146.out))) (Kd.R_lt (xR HO149.out))) (below_size (xS HB.out (ge GE101.out (ge GE134.out (ge GE142.out g0))))))
    have n5_ := Aside0.mk (blk_below (xB BK101.out) hb)
    have n6_ := Aside0.mk (blk_below (xB BK134.out) hb)
    have n7_ := Aside0.mk (blk_below (xB BK142.out) hb)
    have n8_ := Aside0.mk (below_step (xS HB.out (ge GE101.out (ge GE134.out (ge GE142.out g0)))) hb)
    clear HO131
    clear HO139
    clear HO146
    clear HO149
    clear BK101
    clear BK134
    clear BK142
    clear HB
    have HO131 := n0_
    have HO139 := n1_
    have HO146 := n2_
    have HO149 := n3_
    have HO424 := n4_
    have BK101 := n5_
    have BK134 := n6_
    have BK142 := n7_
    have HB := n8_
    clear n0_ n1_ n2_ n3_ n4_ n5_ n6_ n7_ n8_
    (try clear hb)
    (try clear hb2)
    (try clear hk)
    (try clear hi)
    (try clear ho0)
    obtain ⟨Ao52, co52, eo52⟩ := Kd.R_slice HO424.out
    (first | subst eo52 | (injection eo52 with f1_ f2_ f3_; have f4_ := f1_.symm; have f5_ := f3_.symm; clear f1_ f2_ f3_; subst f4_; subst f5_))
    refine hK.out _ _ ⟨(blk_cell BK134.out 0).trans rfl, (blk_cell BK134.out 1).trans rfl, (blk_cell BK134.out 2).trans rfl⟩ (fun hHeld => ?_)
    clear hK K
    refine norm_ (a' := ?_) ?_ ?_
    rotate_left
    ·show Act.put _ (some 69) _ = _
     simp only [Act.put, List.setIfInBounds_toArray, List.set_cons_zero, List.set_cons_succ, i64_w, i32_w]
     rfl
    refine one_ (i := 11) (N := some 73) #[true, true, true, true, true, true, true, true, true, true, true, true, false, false] rfl rfl (one_of HT_.out (by kernel_rfl)) (by decide) (fun K hK => ?_)
    refine goes_ Try.func11 (by kernel_rfl) rfl #[.slice Ao52 t422.length co52, .slice A1 (l1.take (t132 : Int).toNat).length c1] (by rfl) rfl rfl (by (try simp only [List.map_toArray, List.map_cons, List.map_nil]); first | done | (rw [show (l1.take (t132 : Int).toNat).length = t132.toNat from (by rw [List.length_take]; have h_ : (t132 : Int) ≤ (l1.length : Int) := of_decide_eq_true (by first | (with_reducible assumption) | assumption); omega)] <;> rfl) | rfl | (simp only [List.length_drop, List.length_take]; rfl)) ?_
    with_reducible refine (fenlandref01_Same.calls k _ _ t422 _ _ (l1.take (t132 : Int).toNat) t426 _ ?side1 ?side2 ?side3 ?side4 A47.out).mono ?_
    (case side1 => exact xC (Kd.R_reads' HO424.out).2.2)
    (case side2 => exact (Kd.R_reads' HO424.out).2.1)
    (case side3 => exact xC (Kd.C_below HR425.out HB.out))
    (case side4 => exact HC425.out)
    rintro e w' ⟨rfl, ⟨nd, rfl⟩⟩
    refine ⟨_, rfl, ?_⟩
    refine hK.out _ _ ⟨(blk_cell BK134.out 0).trans rfl, (blk_cell BK134.out 1).trans rfl, (blk_cell BK134.out 2).trans rfl⟩ (fun hHeld => ?_)
    clear hK K
    refine norm_ (a' := ?_) ?_ ?_
    rotate_left
    ·show Act.put _ (some 73) _ = _
     simp only [Act.put, List.setIfInBounds_toArray, List.set_cons_zero, List.set_cons_succ, i64_w, i32_w]
     rfl
    refine pure_ (i := 12) (N := some 74) (v := ?_) (a' := ?_) #[true, true, true, true, true, true, true, true, true, true, true, true, true, false] rfl rfl (any_of HT_.out (by kernel_rfl)) (fun _ _ _ h => h) (Or.inl ⟨by rfl, ?_⟩) ?_ ?_
    rotate_left
    ·intro w'
     go_simp
     with_reducible rfl
    rotate_left
    ·simp only [Act.put, List.setIfInBounds_toArray, List.set_cons_zero, List.set_cons_succ, i64_w, i32_w]
     rfl
    refine pure_ (i := 13) (N := some 75) (v := ?_) (a' := ?_) #[true, true, true, true, true, true, true, true, true, true, true, true, true, true] rfl rfl (any_of HT_.out (by kernel_rfl)) (fun _ _ _ h => h) (Or.inl ⟨by rfl, ?_⟩) ?_ ?_
    rotate_left
    ·intro w'
     go_simp
     with_reducible rfl
    rotate_left
    ·simp only [Act.put, List.setIfInBounds_toArray, List.set_cons_zero, List.set_cons_succ, i64_w, i32_w]
     rfl
    refine done_ (done_of HT_.out (by kernel_rfl)) ?_
    try go_wp2
    go_meet
    case rel => exact ⟨_, (!t426), (by first | rfl | (simp; done) | (simp [*]; done)), H', ⟨by first | omega | exact Nat.le_refl _⟩, ⟨by (with_reducible repeat (first | apply Kd.R_alloc | apply Kd.R_drewN | apply Kd.R_drew)); exact Kd.R_mono HO131.out (fun _ hk => hk.1.1.1)⟩, ⟨by (with_reducible repeat (first | apply Kd.R_alloc | apply Kd.R_drewN | apply Kd.R_drew)); exact Kd.R_mono HO139.out (fun _ hk => hk.1.1.1)⟩, ⟨by (with_reducible repeat (first | refine blk_drewN ?_ _ | refine blk_drew ?_ | refine blk_alloc ?_ _)); exact BK101.out⟩, ⟨by (with_reducible repeat (first | refine blk_drewN ?_ _ | refine blk_drew ?_ | refine blk_alloc ?_ _)); exact BK134.out⟩, ⟨by (with_reducible repeat (first | refine blk_drewN ?_ _ | refine blk_drew ?_ | refine blk_alloc ?_ _)); exact BK142.out⟩, ⟨by repeat (first | (with_reducible first | exact HB.out | apply below_alloc | apply pw_below_drewN | apply below_drew1 | refine below_set ?_ GE101.out | refine below_set ?_ GE134.out | refine below_set ?_ GE142.out) | exact HB.out)⟩⟩
   ·rw [if_neg c41] at H
    have c41b0 : (t133 == 0) = false := beq_eq_false_iff_ne.mpr c41
    have c41b1 : (t133 != 0) = true := bne_iff_ne.mpr c41
    (first | rw [c41b0] | (simp only [i64_w, i32_w]; rw [c41b0]) | skip)
    have H' := Aside0.mk H
    clear H
    try go_wp2
    have n0_ := Aside0.mk (Kd.R_drew HO131.out)
    have n1_ := Aside0.mk (Kd.R_drew HO139.out)
    have n2_ := Aside0.mk (Kd.R_drew HO146.out)
    have n3_ := Aside0.mk (Kd.R_drew HO149.out)
    have n4_ := Aside0.mk (blk_drew BK101.out)
    have n5_ := Aside0.mk (blk_drew BK134.out)
    have n6_ := Aside0.mk (blk_drew BK142.out)
    have n7_ := Aside0.mk (below_drew1 HB.out)
    clear HO131
    clear HO139
    clear HO146
    clear HO149
    clear BK101
    clear BK134
    clear BK142
    clear HB
    have HO131 := n0_
    have HO139 := n1_
    have HO146 := n2_
    have HO149 := n3_
    have BK101 := n4_
    have BK134 := n5_
    have BK142 := n6_
    have HB := n7_
    clear n0_ n1_ n2_ n3_ n4_ n5_ n6_ n7_
    refine start_ (n := 14) (S := fun w' => True) (ds := []) #[false, false, false, false, false, false, false, false, false, false, false, false, false, false] (by kernel_rfl) rfl rfl trivial (fun hHeld => ?_); refine with_tabW fenlandlaw10_PagePut.tab8 fenlandlaw10_PagePut.bits8 (fun HT_ HW_ => ?_)
    generalize w38.drew = w53 at HO131 HO139 HO146 HO149 BK101 BK134 BK142 HB hHeld ⊢
    refine pure_ (i := 0) (N := some 62) (v := ?_) (a' := ?_) #[true, false, false, false, false, false, false, false, false, false, false, false, false, false] rfl rfl (any_of HT_.out (by kernel_rfl)) (fun _ _ _ h => h) (Or.inl ⟨by rfl, ?_⟩) ?_ ?_
    rotate_left
    ·intro w'
     go_simp
     with_reducible rfl
    rotate_left
    ·simp only [Act.put, List.setIfInBounds_toArray, List.set_cons_zero, List.set_cons_succ, i64_w, i32_w]
     rfl
    refine pure_ (i := 1) (N := some 63) (v := ?_) (a' := ?_) #[true, true, false, false, false, false, false, false, false, false, false, false, false, false] rfl rfl (any_of HT_.out (by kernel_rfl)) (fun _ _ _ h => h) (Or.inl ⟨by rfl, ?_⟩) ?_ ?_
    rotate_left
    ·intro w'
     go_simp
     with_reducible rfl
    rotate_left
    ·simp only [Act.put, List.setIfInBounds_toArray, List.set_cons_zero, List.set_cons_succ, i64_w, i32_w]
     rfl
    refine pure_ (i := 2) (N := some 64) (v := ?_) (a' := ?_) #[true, true, true, false, false, false, false, false, false, false, false, false, false, false] rfl rfl (any_of HT_.out (by kernel_rfl)) (fun _ _ _ h => h) (Or.inl ⟨by rfl, ?_⟩) ?_ ?_
    rotate_left
    ·intro w'
     go_simp
     with_reducible rfl
    rotate_left
    ·simp only [Act.put, List.setIfInBounds_toArray, List.set_cons_zero, List.set_cons_succ, i64_w, i32_w]
     rfl
    refine pure_ (i := 3) (N := some 65) (v := undef) (a' := ?_) #[true, true, true, true, false, false, false, false, false, false, false, false, false, false] rfl rfl (any_of HT_.out (by kernel_rfl)) (fun _ _ _ h => h) (Or.inr ⟨by rfl, rfl⟩) ?_ ?_
    rotate_left
    ·simp only [Act.put, List.setIfInBounds_toArray, List.set_cons_zero, List.set_cons_succ, i64_w, i32_w]
     rfl
    refine pure_ (i := 4) (N := some 66) (v := undef) (a' := ?_) #[true, true, true, true, true, false, false, false, false, false, false, false, false, false] rfl rfl (any_of HT_.out (by kernel_rfl)) (fun _ _ _ h => h) (Or.inr ⟨by rfl, rfl⟩) ?_ ?_
    rotate_left
    ·simp only [Act.put, List.setIfInBounds_toArray, List.set_cons_zero, List.set_cons_succ, i64_w, i32_w]
     rfl
    refine pure_ (i := 5) (N := some 67) (v := undef) (a' := ?_) #[true, true, true, true, true, true, false, false, false, false, false, false, false, false] rfl rfl (any_of HT_.out (by kernel_rfl)) (fun _ _ _ h => h) (Or.inr ⟨by rfl, rfl⟩) ?_ ?_
    rotate_left
    ·simp only [Act.put, List.setIfInBounds_toArray, List.set_cons_zero, List.set_cons_succ, i64_w, i32_w]
     rfl
    refine pure_ (i := 6) (N := some 68) (v := undef) (a' := ?_) #[true, true, true, true, true, true, true, false, false, false, false, false, false, false] rfl rfl (any_of HT_.out (by kernel_rfl)) (fun _ _ _ h => h) (Or.inr ⟨by rfl, rfl⟩) ?_ ?_
    rotate_left
    ·simp only [Act.put, List.setIfInBounds_toArray, List.set_cons_zero, List.set_cons_succ, i64_w, i32_w]
     rfl
    refine pure_ (i := 7) (N := some 69) (v := undef) (a' := ?_) #[true, true, true, true, true, true, true, true, false, false, false, false, false, false] rfl rfl (any_of HT_.out (by kernel_rfl)) (fun _ _ _ h => h) (Or.inr ⟨by rfl, rfl⟩) ?_ ?_
    rotate_left
    ·simp only [Act.put, List.setIfInBounds_toArray, List.set_cons_zero, List.set_cons_succ, i64_w, i32_w]
     rfl
    refine pure_ (i := 8) (N := some 70) (v := undef) (a' := ?_) #[true, true, true, true, true, true, true, true, true, false, false, false, false, false] rfl rfl (any_of HT_.out (by kernel_rfl)) (fun _ _ _ h => h) (Or.inr ⟨by rfl, rfl⟩) ?_ ?_
    rotate_left
    ·simp only [Act.put, List.setIfInBounds_toArray, List.set_cons_zero, List.set_cons_succ, i64_w, i32_w]
     rfl
    refine pure_ (i := 9) (N := some 71) (v := undef) (a' := ?_) #[true, true, true, true, true, true, true, true, true, true, false, false, false, false] rfl rfl (any_of HT_.out (by kernel_rfl)) (fun _ _ _ h => h) (Or.inr ⟨by rfl, rfl⟩) ?_ ?_
    rotate_left
    ·simp only [Act.put, List.setIfInBounds_toArray, List.set_cons_zero, List.set_cons_succ, i64_w, i32_w]
     rfl
    refine pure_ (i := 10) (N := some 72) (v := undef) (a' := ?_) #[true, true, true, true, true, true, true, true, true, true, true, false, false, false] rfl rfl (any_of HT_.out (by kernel_rfl)) (fun _ _ _ h => h) (Or.inr ⟨by rfl, rfl⟩) ?_ ?_
    rotate_left
    ·simp only [Act.put, List.setIfInBounds_toArray, List.set_cons_zero, List.set_cons_succ, i64_w, i32_w]
     rfl
    refine pure_ (i := 11) (N := some 73) (v := undef) (a' := ?_) #[true, true, true, true, true, true, true, true, true, true, true, true, false, false] rfl rfl (any_of HT_.out (by kernel_rfl)) (fun _ _ _ h => h) (Or.inr ⟨by rfl, rfl⟩) ?_ ?_
    rotate_left
    ·simp only [Act.put, List.setIfInBounds_toArray, List.set_cons_zero, List.set_cons_succ, i64_w, i32_w]
     rfl
    refine pure_ (i := 12) (N := some 74) (v := undef) (a' := ?_) #[true, true, true, true, true, true, true, true, true, true, true, true, true, false] rfl rfl (any_of HT_.out (by kernel_rfl)) (fun _ _ _ h => h) (Or.inr ⟨by rfl, rfl⟩) ?_ ?_
    rotate_left
    ·simp only [Act.put, List.setIfInBounds_toArray, List.set_cons_zero, List.set_cons_succ, i64_w, i32_w]
     rfl
    refine pure_ (i := 13) (N := some 75) (v := ?_) (a' := ?_) #[true, true, true, true, true, true, true, true, true, true, true, true, true, true] rfl rfl (any_of HT_.out (by kernel_rfl)) (fun _ _ _ h => h) (Or.inl ⟨by rfl, ?_⟩) ?_ ?_
    rotate_left
    ·intro w'
     go_simp
     with_reducible rfl
    rotate_left
    ·simp only [Act.put, List.setIfInBounds_toArray, List.set_cons_zero, List.set_cons_succ, i64_w, i32_w]
     rfl
    refine done_ (done_of HT_.out (by kernel_rfl)) ?_
    try go_wp2
    go_meet
    case rel => exact ⟨_, (false), (by first | rfl | (simp; done) | (simp [*]; done)), H', ⟨by first | omega | exact Nat.le_refl _⟩, ⟨by (with_reducible repeat (first | apply Kd.R_alloc | apply Kd.R_drewN | apply Kd.R_drew)); exact Kd.R_mono HO131.out (fun _ hk => hk.1.1)⟩, ⟨by (with_reducible repeat (first | apply Kd.R_alloc | apply Kd.R_drewN | apply Kd.R_drew)); exact Kd.R_mono HO139.out (fun _ hk => hk.1.1)⟩, ⟨by (with_reducible repeat (first | refine blk_drewN ?_ _ | refine blk_drew ?_ | refine blk_alloc ?_ _)); exact BK101.out⟩, ⟨by (with_reducible repeat (first | refine blk_drewN ?_ _ | refine blk_drew ?_ | refine blk_alloc ?_ _)); exact BK134.out⟩, ⟨by (with_reducible repeat (first | refine blk_drewN ?_ _ | refine blk_drew ?_ | refine blk_alloc ?_ _)); exact BK142.out⟩, ⟨by repeat (first | (with_reducible first | exact HB.out | apply below_alloc | apply pw_below_drewN | apply below_drew1 | refine below_set ?_ GE101.out | refine below_set ?_ GE134.out | refine below_set ?_ GE142.out) | exact HB.out)⟩⟩
  case rest =>
   clear HC19
   try clear c1
   try clear p2
   try clear c4
   try clear c11
   try clear c16
   try clear c17
   try clear c41
   try clear c41b0
   try clear c41b1
   try clear c42
   try clear c42b0
   try clear c42b1
   try clear c43
   try clear c43b0
   try clear c43b1
   try clear c45
   try clear c45b0
   try clear c45b1
   try clear c46
   try clear c46b0
   try clear c46b1
   obtain ⟨kq, x75_18, rfl, HA, HJ18, HO_135002, HO_143002, BK101, BK134, BK142, HB⟩ := hcut
   cases kq with
   | zero => exact absurd HA.out (by simp [fenlandlaw10_PagePut.j0])
   | succ kj18 =>
    have H := HA.out
    clear HA
    simp only [fenlandlaw10_PagePut.j0] at H
    by_cases c54 : x75_18 = true
    ·subst c54
     rw [if_pos rfl] at H
     exact absurd H (by simp)
    ·replace c54 := Bool.eq_false_iff.mpr c54
     subst c54
     rw [if_neg (show ¬ (false = true) by decide)] at H
     replace H := Option.bind_eq_some_iff.mp H
     obtain ⟨t497, A550, H⟩ := H
     (try dsimp only at H)
     have A55 := Aside0.mk A550
     clear A550
     replace H := Option.bind_eq_some_iff.mp H
     obtain ⟨t500, A560, H⟩ := H
     (try dsimp only at H)
     have A56 := Aside0.mk A560
     clear A560
     replace H := Option.bind_eq_some_iff.mp H
     obtain ⟨⟨t503, t504, t505, t508, t509⟩, A570, H⟩ := H
     (try dsimp only at H)
     have A57 := Aside0.mk A570
     clear A570
     by_cases c58 : a0_0 < 1
     ·rw [if_pos c58] at H
      have c58b0 : decide (a0_0 < 1) = true := decide_eq_true c58
      clear c58
      by_cases c59 : t508 = 0
      rotate_left
      ·rw [if_neg c59] at H
       exact absurd H (by simp)
      rw [if_pos c59] at H
      have c59b0 : (t508 == 0) = true := beq_iff_eq.mpr c59
      have c59b1 : (t508 != 0) = false := bne_eq_false_iff_eq.mpr c59
      clear c59
      by_cases c60 : t509 = 100
      rotate_left
      ·rw [if_neg c60] at H
       exact absurd H (by simp)
      rw [if_pos c60] at H
      have c60b0 : (t509 == 100) = true := beq_iff_eq.mpr c60
      have c60b1 : (t509 != 100) = false := bne_eq_false_iff_eq.mpr c60
      clear c60
      obtain rfl := Option.some.inj H
      have hnb61 := NB101_134.out
      have hnc61 := NB134_101.out
      have hnb62 := NB101_142.out
      have hnc62 := NB142_101.out
      have hcz63_0 : wc.cell? ⟨gb101, 0, none⟩ = some (.int .i64 a0_0) := (blk_cell BK101.out 0).trans rfl
      have hcz63_1 : wc.cell? ⟨gb101, 1, none⟩ = some (.int .i64 a0_1) := (blk_cell BK101.out 1).trans rfl
      have hcz63_2 : wc.cell? ⟨gb101, 2, none⟩ = some (.slice A0_2 l0_2.length c0_2) := (blk_cell BK101.out 2).trans rfl
      have hfz63_0 := blk_frozen BK101.out 0
      have hfz63_1 := blk_frozen BK101.out 1
      have hfz63_2 := blk_frozen BK101.out 2
      go_wp2_with (first | ((with_reducible refine gate_callee (f := 16) rfl ?_); refine goesL_ (some 78) rfl rfl Try.func16 (by kernel_rfl) rfl #[.slice A1 l1.length c1, .agg #[.int .i64 a0_0, .int .i64 a0_1, .slice A0_2 l0_2.length c0_2]] rfl (by (try simp only [List.map_toArray, List.map_cons, List.map_nil]) <;> rfl) ?_; (with_reducible refine (page_Put.calls kj18 _ _ l1 a0_0 a0_1 _ _ l0_2 t497 _ ?side1 ?side2 ?side3 ?side4 A55.out).mono ?_); (case side1 => exact xC (Kd.C_below HR1.out HB.out)); (case side2 => exact HC1.out); (case side3 => exact xC (Kd.C_below HR0_2.out HB.out)); (case side4 => exact HC0_2.out); rintro e w64 ⟨v498, rfl, ho0, hb⟩; refine ⟨_, rfl, ?_⟩; have n0_ := Aside0.mk (Kd.R_elder' (xR HO_135002.out) (Kd.R_base ho0) hb); have n1_ := Aside0.mk (Kd.R_elder' (xR HO_143002.out) (Kd.R_base ho0) hb); have n2_ := Aside0.mk (Kd.R_lower (Kd.R_new' (Kd.R_new' ho0 (Kd.R_lt (xR HO_135002.out))) (Kd.R_lt (xR HO_143002.out))) (below_size (xS HB.out (ge GE101.out (ge GE134.out (ge GE142.out g0)))))); have n3_ := Aside0.mk (blk_below (xB BK101.out) hb); have n4_ := Aside0.mk (blk_below (xB BK134.out) hb); have n5_ := Aside0.mk (blk_below (xB BK142.out) hb); have n6_ := Aside0.mk (below_step (xS HB.out (ge GE101.out (ge GE134.out (ge GE142.out g0)))) hb); clear HO_135002 HO_143002 BK101 BK134 BK142 HB; revert n0_ n1_ n2_ n3_ n4_ n5_ n6_; intro HO_135002 HO_143002 HO499 BK101 BK134 BK142 HB; (try clear hb); (try clear ho0); obtain ⟨Ao65, co65, eo65⟩ := Kd.R_slice HO499.out; subst eo65) | ((with_reducible refine gate_callee (f := 12) rfl ?_); refine goesL_ (some 82) rfl rfl Try.func12 (by kernel_rfl) rfl #[.slice Ao65 t497.length co65, .slice A1 l1.length c1] rfl (by (try simp only [List.map_toArray, List.map_cons, List.map_nil]) <;> rfl) ?_; (with_reducible refine (fenlandref01_Join.calls _ _ t497 _ _ l1 t500 _ ?side1 ?side2 ?side3 ?side4 A56.out).mono ?_); (case side1 => exact xC (Kd.R_reads' HO499.out).2.2); (case side2 => exact (Kd.R_reads' HO499.out).2.1); (case side3 => exact xC (Kd.C_below HR1.out HB.out)); (case side4 => exact HC1.out); rintro e w66 ⟨v501, rfl, ho0, hb⟩; refine ⟨_, rfl, ?_⟩; have n0_ := Aside0.mk (Kd.R_elder' (xR HO_135002.out) (Kd.R_base ho0) hb); have n1_ := Aside0.mk (Kd.R_elder' (xR HO_143002.out) (Kd.R_base ho0) hb); have n2_ := Aside0.mk (Kd.R_elder' (xR HO499.out) (Kd.R_base ho0) hb); have n3_ := Aside0.mk (Kd.R_lower (Kd.R_new' (Kd.R_new' (Kd.R_new' ho0 (Kd.R_lt (xR HO_135002.out))) (Kd.R_lt (xR HO_143002.out))) (Kd.R_lt (xR HO499.out))) (below_size (xS HB.out (ge GE101.out (ge GE134.out (ge GE142.out g0)))))); have n4_ := Aside0.mk (blk_below (xB BK101.out) hb); have n5_ := Aside0.mk (blk_below (xB BK134.out) hb); have n6_ := Aside0.mk (blk_below (xB BK142.out) hb); have n7_ := Aside0.mk (below_step (xS HB.out (ge GE101.out (ge GE134.out (ge GE142.out g0)))) hb); clear HO_135002 HO_143002 HO499 BK101 BK134 BK142 HB; revert n0_ n1_ n2_ n3_ n4_ n5_ n6_ n7_; intro HO_135002 HO_143002 HO499 HO502 BK101 BK134 BK142 HB; (try clear hb); (try clear ho0); obtain ⟨Ao67, co67, eo67⟩ := Kd.R_slice HO502.out; subst eo67) | ((with_reducible refine gate_callee (f := 13) rfl ?_); refine goesL_ (some 85) rfl rfl Try.func13 (by kernel_rfl) rfl #[.slice Ao67 t500.length co67, .int .i64 (l1.length : Int)] rfl (by (try simp only [List.map_toArray, List.map_cons, List.map_nil]) <;> rfl) ?_; (with_reducible refine (page_Get.calls kj18 _ _ t500 (l1.length : Int) t503 t504 t505 t508 t509 _ ?side1 ?side2 A57.out).mono ?_); (case side1 => exact xC (Kd.R_reads' HO502.out).2.2); (case side2 => exact (Kd.R_reads' HO502.out).2.1); rintro e w68 ⟨v506, rfl, ho0, hb⟩; refine ⟨_, rfl, ?_⟩; have n4_ := Aside0.mk (Kd.R_lower (Kd.R_new' (Kd.R_new' (Kd.R_new' (Kd.R_new' ho0 (Kd.R_lt (xR HO_135002.out))) (Kd.R_lt (xR HO_143002.out))) (Kd.R_lt (xR HO499.out))) (Kd.R_lt (xR HO502.out))) (below_size (xS HB.out (ge GE101.out (ge GE134.out (ge GE142.out g0)))))); have n5_ := Aside0.mk (blk_below (xB BK101.out) hb); have n6_ := Aside0.mk (blk_below (xB BK134.out) hb); have n7_ := Aside0.mk (blk_below (xB BK142.out) hb); have n8_ := Aside0.mk (below_step (xS HB.out (ge GE101.out (ge GE134.out (ge GE142.out g0)))) hb); clear HO_135002 HO_143002 HO499 HO502 BK101 BK134 BK142 HB; revert n4_ n5_ n6_ n7_ n8_; intro HO507 BK101 BK134 BK142 HB; (try clear hb); (try clear ho0)) | ((with_reducible refine gate_dst (N := 15) rfl ?_); (try (refine gate_guard (by rfl) ?_; dsimp only)); refine box_event ?hg (N := 15) ?hd (cs := #[.int .i64 0, .int .i64 0, .slice none 0 0]) (t := 34) ?hr ?_; (case hd => rfl); (case hg => rfl); (case hr => first | (go_simp; done) | (go_simp; rfl)); intro gb510 hg w69 hbox hb; have n4_ := Aside0.mk (Kd.R_below (xR HO507.out) hb); have n5_ := Aside0.mk (blk_below (xB BK101.out) hb); have n8_ := Aside0.mk (below_step (xS HB.out (ge GE101.out (ge GE134.out (ge GE142.out g0)))) hb); have n9_ := Aside0.mk (hbox); have n11_ := Aside0.mk ((by rw [hg]; exact (below_size (xS HB.out (ge GE101.out (ge GE134.out (ge GE142.out g0))))) : w.heap.size ≤ gb510)); have n12_ := Aside0.mk ((by rw [hg]; exact Nat.ne_of_lt (blk_lt (xB BK101.out)) : gb101 ≠ gb510)); have n13_ := Aside0.mk ((by rw [hg]; exact Nat.ne_of_gt (blk_lt (xB BK101.out)) : gb510 ≠ gb101)); have n14_ := Aside0.mk ((by rw [hg]; exact Nat.ne_of_lt (blk_lt (xB BK134.out)) : gb134 ≠ gb510)); have n15_ := Aside0.mk ((by rw [hg]; exact Nat.ne_of_gt (blk_lt (xB BK134.out)) : gb510 ≠ gb134)); have n16_ := Aside0.mk ((by rw [hg]; exact Nat.ne_of_lt (blk_lt (xB BK142.out)) : gb142 ≠ gb510)); have n17_ := Aside0.mk ((by rw [hg]; exact Nat.ne_of_gt (blk_lt (xB BK142.out)) : gb510 ≠ gb142)); clear HO507 BK101 BK134 BK142 HB; revert n4_ n5_ n8_ n9_ n11_ n12_ n13_ n14_ n15_ n16_ n17_; intro HO507 BK101 HB BK510 GE510 NB101_510 NB510_101 NB134_510 NB510_134 NB142_510 NB510_142; clear hb hbox hg; have hnb70 := NB510_101.out; have hnc70 := NB101_510.out; have hnb71 := NB510_134.out; have hnc71 := NB134_510.out; have hnb72 := NB510_142.out; have hnc72 := NB142_510.out; have hcz73_0 : w69.cell? ⟨gb510, 0, none⟩ = some (.int .i64 0) := (blk_cell BK510.out 0).trans rfl; have hcz73_1 : w69.cell? ⟨gb510, 1, none⟩ = some (.int .i64 0) := (blk_cell BK510.out 1).trans rfl; have hcz73_2 : w69.cell? ⟨gb510, 2, none⟩ = some (.slice none 0 0) := (blk_cell BK510.out 2).trans rfl; have hfz73_0 := blk_frozen BK510.out 0; have hfz73_1 := blk_frozen BK510.out 1; have hfz73_2 := blk_frozen BK510.out 2; obtain ⟨Ao74, co74, eo74⟩ := Kd.R_slice HO507.out; subst eo74; have hcz75_0 : w69.cell? ⟨gb101, 0, none⟩ = some (.int .i64 a0_0) := (blk_cell BK101.out 0).trans rfl; have hcz75_1 : w69.cell? ⟨gb101, 1, none⟩ = some (.int .i64 a0_1) := (blk_cell BK101.out 1).trans rfl; have hcz75_2 : w69.cell? ⟨gb101, 2, none⟩ = some (.slice A0_2 l0_2.length c0_2) := (blk_cell BK101.out 2).trans rfl; have hfz75_0 := blk_frozen BK101.out 0; have hfz75_1 := blk_frozen BK101.out 1; have hfz75_2 := blk_frozen BK101.out 2))
      go_ret
      exact ⟨by first | rfl | simp [*], by repeat (first | (with_reducible first | exact HB.out | apply below_alloc | apply pw_below_drewN | apply below_drew1 | refine below_set ?_ GE101.out | refine below_set ?_ GE134.out | refine below_set ?_ GE142.out | refine below_set ?_ GE510.out) | exact HB.out)⟩
     ·rw [if_neg c58] at H
      have c58b0 : decide (a0_0 < 1) = false := decide_eq_false c58
      clear c58
      by_cases c76 : a0_0 > 4
      ·rw [if_pos c76] at H
       have c76b0 : decide (4 < a0_0) = true := decide_eq_true c76
       clear c76
       by_cases c77 : t508 = 0
       rotate_left
       ·rw [if_neg c77] at H
        exact absurd H (by simp)
       rw [if_pos c77] at H
       have c77b0 : (t508 == 0) = true := beq_iff_eq.mpr c77
       have c77b1 : (t508 != 0) = false := bne_eq_false_iff_eq.mpr c77
       clear c77
       by_cases c78 : t509 = 100
       rotate_left
       ·rw [if_neg c78] at H
        exact absurd H (by simp)
       rw [if_pos c78] at H
       have c78b0 : (t509 == 100) = true := beq_iff_eq.mpr c78
       have c78b1 : (t509 != 100) = false := bne_eq_false_iff_eq.mpr c78
       clear c78
       obtain rfl := Option.some.inj H
       have hnb79 := NB101_134.out
       have hnc79 := NB134_101.out
       have hnb80 := NB101_142.out
       have hnc80 := NB142_101.out
       have hcz81_0 : wc.cell? ⟨gb101, 0, none⟩ = some (.int .i64 a0_0) := (blk_cell BK101.out 0).trans rfl
       have hcz81_1 : wc.cell? ⟨gb101, 1, none⟩ = some (.int .i64 a0_1) := (blk_cell BK101.out 1).trans rfl
       have hcz81_2 : wc.cell? ⟨gb101, 2, none⟩ = some (.slice A0_2 l0_2.length c0_2) := (blk_cell BK101.out 2).trans rfl
       have hfz81_0 := blk_frozen BK101.out 0
       have hfz81_1 := blk_frozen BK101.out 1
       have hfz81_2 := blk_frozen BK101.out 2
       go_wp2_with (first | ((with_reducible refine gate_callee (f := 16) rfl ?_); refine goesL_ (some 78) rfl rfl Try.func16 (by kernel_rfl) rfl #[.slice A1 l1.length c1, .agg #[.int .i64 a0_0, .int .i64 a0_1, .slice A0_2 l0_2.length c0_2]] rfl (by (try simp only [List.map_toArray, List.map_cons, List.map_nil]) <;> rfl) ?_; (with_reducible refine (page_Put.calls kj18 _ _ l1 a0_0 a0_1 _ _ l0_2 t497 _ ?side1 ?side2 ?side3 ?side4 A55.out).mono ?_); (case side1 => exact xC (Kd.C_below HR1.out HB.out)); (case side2 => exact HC1.out); (case side3 => exact xC (Kd.C_below HR0_2.out HB.out)); (case side4 => exact HC0_2.out); rintro e w82 ⟨v498, rfl, ho0, hb⟩; refine ⟨_, rfl, ?_⟩; have n0_ := Aside0.mk (Kd.R_elder' (xR HO_135002.out) (Kd.R_base ho0) hb); have n1_ := Aside0.mk (Kd.R_elder' (xR HO_143002.out) (Kd.R_base ho0) hb); have n2_ := Aside0.mk (Kd.R_lower (Kd.R_new' (Kd.R_new' ho0 (Kd.R_lt (xR HO_135002.out))) (Kd.R_lt (xR HO_143002.out))) (below_size (xS HB.out (ge GE101.out (ge GE134.out (ge GE142.out g0)))))); have n3_ := Aside0.mk (blk_below (xB BK101.out) hb); have n4_ := Aside0.mk (blk_below (xB BK134.out) hb); have n5_ := Aside0.mk (blk_below (xB BK142.out) hb); have n6_ := Aside0.mk (below_step (xS HB.out (ge GE101.out (ge GE134.out (ge GE142.out g0)))) hb); clear HO_135002 HO_143002 BK101 BK134 BK142 HB; revert n0_ n1_ n2_ n3_ n4_ n5_ n6_; intro HO_135002 HO_143002 HO499 BK101 BK134 BK142 HB; (try clear hb); (try clear ho0); obtain ⟨Ao83, co83, eo83⟩ := Kd.R_slice HO499.out; subst eo83) | ((with_reducible refine gate_callee (f := 12) rfl ?_); refine goesL_ (some 82) rfl rfl Try.func12 (by kernel_rfl) rfl #[.slice Ao83 t497.length co83, .slice A1 l1.length c1] rfl (by (try simp only [List.map_toArray, List.map_cons, List.map_nil]) <;> rfl) ?_; (with_reducible refine (fenlandref01_Join.calls _ _ t497 _ _ l1 t500 _ ?side1 ?side2 ?side3 ?side4 A56.out).mono ?_); (case side1 => exact xC (Kd.R_reads' HO499.out).2.2); (case side2 => exact (Kd.R_reads' HO499.out).2.1); (case side3 => exact xC (Kd.C_below HR1.out HB.out)); (case side4 => exact HC1.out); rintro e w84 ⟨v501, rfl, ho0, hb⟩; refine ⟨_, rfl, ?_⟩; have n0_ := Aside0.mk (Kd.R_elder' (xR HO_135002.out) (Kd.R_base ho0) hb); have n1_ := Aside0.mk (Kd.R_elder' (xR HO_143002.out) (Kd.R_base ho0) hb); have n2_ := Aside0.mk (Kd.R_elder' (xR HO499.out) (Kd.R_base ho0) hb); have n3_ := Aside0.mk (Kd.R_lower (Kd.R_new' (Kd.R_new' (Kd.R_new' ho0 (Kd.R_lt (xR HO_135002.out))) (Kd.R_lt (xR HO_143002.out))) (Kd.R_lt (xR HO499.out))) (below_size (xS HB.out (ge GE101.out (ge GE134.out (ge GE142.out g0)))))); have n4_ := Aside0.mk (blk_below (xB BK101.out) hb); have n5_ := Aside0.mk (blk_below (xB BK134.out) hb); have n6_ := Aside0.mk (blk_below (xB BK142.out) hb); have n7_ := Aside0.mk (below_step (xS HB.out (ge GE101.out (ge GE134.out (ge GE142.out g0)))) hb); clear HO_135002 HO_143002 HO499 BK101 BK134 BK142 HB; revert n0_ n1_ n2_ n3_ n4_ n5_ n6_ n7_; intro HO_135002 HO_143002 HO499 HO502 BK101 BK134 BK142 HB; (try clear hb); (try clear ho0); obtain ⟨Ao85, co85, eo85⟩ := Kd.R_slice HO502.out; subst eo85) | ((with_reducible refine gate_callee (f := 13) rfl ?_); refine goesL_ (some 85) rfl rfl Try.func13 (by kernel_rfl) rfl #[.slice Ao85 t500.length co85, .int .i64 (l1.length : Int)] rfl (by (try simp only [List.map_toArray, List.map_cons, List.map_nil]) <;> rfl) ?_; (with_reducible refine (page_Get.calls kj18 _ _ t500 (l1.length : Int) t503 t504 t505 t508 t509 _ ?side1 ?side2 A57.out).mono ?_); (case side1 => exact xC (Kd.R_reads' HO502.out).2.2); (case side2 => exact (Kd.R_reads' HO502.out).2.1); rintro e w86 ⟨v506, rfl, ho0, hb⟩; refine ⟨_, rfl, ?_⟩; have n4_ := Aside0.mk (Kd.R_lower (Kd.R_new' (Kd.R_new' (Kd.R_new' (Kd.R_new' ho0 (Kd.R_lt (xR HO_135002.out))) (Kd.R_lt (xR HO_143002.out))) (Kd.R_lt (xR HO499.out))) (Kd.R_lt (xR HO502.out))) (below_size (xS HB.out (ge GE101.out (ge GE134.out (ge GE142.out g0)))))); have n5_ := Aside0.mk (blk_below (xB BK101.out) hb); have n6_ := Aside0.mk (blk_below (xB BK134.out) hb); have n7_ := Aside0.mk (blk_below (xB BK142.out) hb); have n8_ := Aside0.mk (below_step (xS HB.out (ge GE101.out (ge GE134.out (ge GE142.out g0)))) hb); clear HO_135002 HO_143002 HO499 HO502 BK101 BK134 BK142 HB; revert n4_ n5_ n6_ n7_ n8_; intro HO507 BK101 BK134 BK142 HB; (try clear hb); (try clear ho0)) | ((with_reducible refine gate_dst (N := 15) rfl ?_); (try (refine gate_guard (by rfl) ?_; dsimp only)); refine box_event ?hg (N := 15) ?hd (cs := #[.int .i64 0, .int .i64 0, .slice none 0 0]) (t := 34) ?hr ?_; (case hd => rfl); (case hg => rfl); (case hr => first | (go_simp; done) | (go_simp; rfl)); intro gb510 hg w87 hbox hb; have n4_ := Aside0.mk (Kd.R_below (xR HO507.out) hb); have n5_ := Aside0.mk (blk_below (xB BK101.out) hb); have n8_ := Aside0.mk (below_step (xS HB.out (ge GE101.out (ge GE134.out (ge GE142.out g0)))) hb); have n9_ := Aside0.mk (hbox); have n11_ := Aside0.mk ((by rw [hg]; exact (below_size (xS HB.out (ge GE101.out (ge GE134.out (ge GE142.out g0))))) : w.heap.size ≤ gb510)); have n12_ := Aside0.mk ((by rw [hg]; exact Nat.ne_of_lt (blk_lt (xB BK101.out)) : gb101 ≠ gb510)); have n13_ := Aside0.mk ((by rw [hg]; exact Nat.ne_of_gt (blk_lt (xB BK101.out)) : gb510 ≠ gb101)); have n14_ := Aside0.mk ((by rw [hg]; exact Nat.ne_of_lt (blk_lt (xB BK134.out)) : gb134 ≠ gb510)); have n15_ := Aside0.mk ((by rw [hg]; exact Nat.ne_of_gt (blk_lt (xB BK134.out)) : gb510 ≠ gb134)); have n16_ := Aside0.mk ((by rw [hg]; exact Nat.ne_of_lt (blk_lt (xB BK142.out)) : gb142 ≠ gb510)); have n17_ := Aside0.mk ((by rw [hg]; exact Nat.ne_of_gt (blk_lt (xB BK142.out)) : gb510 ≠ gb142)); clear HO507 BK101 BK134 BK142 HB; revert n4_ n5_ n8_ n9_ n11_ n12_ n13_ n14_ n15_ n16_ n17_; intro HO507 BK101 HB BK510 GE510 NB101_510 NB510_101 NB134_510 NB510_134 NB142_510 NB510_142; clear hb hbox hg; have hnb88 := NB510_101.out; have hnc88 := NB101_510.out; have hnb89 := NB510_134.out; have hnc89 := NB134_510.out; have hnb90 := NB510_142.out; have hnc90 := NB142_510.out; have hcz91_0 : w87.cell? ⟨gb510, 0, none⟩ = some (.int .i64 0) := (blk_cell BK510.out 0).trans rfl; have hcz91_1 : w87.cell? ⟨gb510, 1, none⟩ = some (.int .i64 0) := (blk_cell BK510.out 1).trans rfl; have hcz91_2 : w87.cell? ⟨gb510, 2, none⟩ = some (.slice none 0 0) := (blk_cell BK510.out 2).trans rfl; have hfz91_0 := blk_frozen BK510.out 0; have hfz91_1 := blk_frozen BK510.out 1; have hfz91_2 := blk_frozen BK510.out 2; obtain ⟨Ao92, co92, eo92⟩ := Kd.R_slice HO507.out; subst eo92; have hcz93_0 : w87.cell? ⟨gb101, 0, none⟩ = some (.int .i64 a0_0) := (blk_cell BK101.out 0).trans rfl; have hcz93_1 : w87.cell? ⟨gb101, 1, none⟩ = some (.int .i64 a0_1) := (blk_cell BK101.out 1).trans rfl; have hcz93_2 : w87.cell? ⟨gb101, 2, none⟩ = some (.slice A0_2 l0_2.length c0_2) := (blk_cell BK101.out 2).trans rfl; have hfz93_0 := blk_frozen BK101.out 0; have hfz93_1 := blk_frozen BK101.out 1; have hfz93_2 := blk_frozen BK101.out 2))
       go_ret
       exact ⟨by first | rfl | simp [*], by repeat (first | (with_reducible first | exact HB.out | apply below_alloc | apply pw_below_drewN | apply below_drew1 | refine below_set ?_ GE101.out | refine below_set ?_ GE134.out | refine below_set ?_ GE142.out | refine below_set ?_ GE510.out) | exact HB.out)⟩
      ·rw [if_neg c76] at H
       have c76b0 : decide (4 < a0_0) = false := decide_eq_false c76
       clear c76
       by_cases c94 : a0_1 < 0
       ·rw [if_pos c94] at H
        have c94b0 : decide (a0_1 < 0) = true := decide_eq_true c94
        clear c94
        by_cases c95 : t508 = 0
        rotate_left
        ·rw [if_neg c95] at H
         exact absurd H (by simp)
        rw [if_pos c95] at H
        have c95b0 : (t508 == 0) = true := beq_iff_eq.mpr c95
        have c95b1 : (t508 != 0) = false := bne_eq_false_iff_eq.mpr c95
        clear c95
        by_cases c96 : t509 = 100
        rotate_left
        ·rw [if_neg c96] at H
         exact absurd H (by simp)
        rw [if_pos c96] at H
        have c96b0 : (t509 == 100) = true := beq_iff_eq.mpr c96
        have c96b1 : (t509 != 100) = false := bne_eq_false_iff_eq.mpr c96
        clear c96
        obtain rfl := Option.some.inj H
        have hnb97 := NB101_134.out
        have hnc97 := NB134_101.out
        have hnb98 := NB101_142.out
        have hnc98 := NB142_101.out
        have hcz99_0 : wc.cell? ⟨gb101, 0, none⟩ = some (.int .i64 a0_0) := (blk_cell BK101.out 0).trans rfl
        have hcz99_1 : wc.cell? ⟨gb101, 1, none⟩ = some (.int .i64 a0_1) := (blk_cell BK101.out 1).trans rfl
        have hcz99_2 : wc.cell? ⟨gb101, 2, none⟩ = some (.slice A0_2 l0_2.length c0_2) := (blk_cell BK101.out 2).trans rfl
        have hfz99_0 := blk_frozen BK101.out 0
        have hfz99_1 := blk_frozen BK101.out 1
        have hfz99_2 := blk_frozen BK101.out 2
        go_wp2_with (first | ((with_reducible refine gate_callee (f := 16) rfl ?_); refine goesL_ (some 78) rfl rfl Try.func16 (by kernel_rfl) rfl #[.slice A1 l1.length c1, .agg #[.int .i64 a0_0, .int .i64 a0_1, .slice A0_2 l0_2.length c0_2]] rfl (by (try simp only [List.map_toArray, List.map_cons, List.map_nil]) <;> rfl) ?_; (with_reducible refine (page_Put.calls kj18 _ _ l1 a0_0 a0_1 _ _ l0_2 t497 _ ?side1 ?side2 ?side3 ?side4 A55.out).mono ?_); (case side1 => exact xC (Kd.C_below HR1.out HB.out)); (case side2 => exact HC1.out); (case side3 => exact xC (Kd.C_below HR0_2.out HB.out)); (case side4 => exact HC0_2.out); rintro e w100 ⟨v498, rfl, ho0, hb⟩; refine ⟨_, rfl, ?_⟩; have n0_ := Aside0.mk (Kd.R_elder' (xR HO_135002.out) (Kd.R_base ho0) hb); have n1_ := Aside0.mk (Kd.R_elder' (xR HO_143002.out) (Kd.R_base ho0) hb); have n2_ := Aside0.mk (Kd.R_lower (Kd.R_new' (Kd.R_new' ho0 (Kd.R_lt (xR HO_135002.out))) (Kd.R_lt (xR HO_143002.out))) (below_size (xS HB.out (ge GE101.out (ge GE134.out (ge GE142.out g0)))))); have n3_ := Aside0.mk (blk_below (xB BK101.out) hb); have n4_ := Aside0.mk (blk_below (xB BK134.out) hb); have n5_ := Aside0.mk (blk_below (xB BK142.out) hb); have n6_ := Aside0.mk (below_step (xS HB.out (ge GE101.out (ge GE134.out (ge GE142.out g0)))) hb); clear HO_135002 HO_143002 BK101 BK134 BK142 HB; revert n0_ n1_ n2_ n3_ n4_ n5_ n6_; intro HO_135002 HO_143002 HO499 BK101 BK134 BK142 HB; (try clear hb); (try clear ho0); obtain ⟨Ao101, co101, eo101⟩ := Kd.R_slice HO499.out; subst eo101) | ((with_reducible refine gate_callee (f := 12) rfl ?_); refine goesL_ (some 82) rfl rfl Try.func12 (by kernel_rfl) rfl #[.slice Ao101 t497.length co101, .slice A1 l1.length c1] rfl (by (try simp only [List.map_toArray, List.map_cons, List.map_nil]) <;> rfl) ?_; (with_reducible refine (fenlandref01_Join.calls _ _ t497 _ _ l1 t500 _ ?side1 ?side2 ?side3 ?side4 A56.out).mono ?_); (case side1 => exact xC (Kd.R_reads' HO499.out).2.2); (case side2 => exact (Kd.R_reads' HO499.out).2.1); (case side3 => exact xC (Kd.C_below HR1.out HB.out)); (case side4 => exact HC1.out); rintro e w102 ⟨v501, rfl, ho0, hb⟩; refine ⟨_, rfl, ?_⟩; have n0_ := Aside0.mk (Kd.R_elder' (xR HO_135002.out) (Kd.R_base ho0) hb); have n1_ := Aside0.mk (Kd.R_elder' (xR HO_143002.out) (Kd.R_base ho0) hb); have n2_ := Aside0.mk (Kd.R_elder' (xR HO499.out) (Kd.R_base ho0) hb); have n3_ := Aside0.mk (Kd.R_lower (Kd.R_new' (Kd.R_new' (Kd.R_new' ho0 (Kd.R_lt (xR HO_135002.out))) (Kd.R_lt (xR HO_143002.out))) (Kd.R_lt (xR HO499.out))) (below_size (xS HB.out (ge GE101.out (ge GE134.out (ge GE142.out g0)))))); have n4_ := Aside0.mk (blk_below (xB BK101.out) hb); have n5_ := Aside0.mk (blk_below (xB BK134.out) hb); have n6_ := Aside0.mk (blk_below (xB BK142.out) hb); have n7_ := Aside0.mk (below_step (xS HB.out (ge GE101.out (ge GE134.out (ge GE142.out g0)))) hb); clear HO_135002 HO_143002 HO499 BK101 BK134 BK142 HB; revert n0_ n1_ n2_ n3_ n4_ n5_ n6_ n7_; intro HO_135002 HO_143002 HO499 HO502 BK101 BK134 BK142 HB; (try clear hb); (try clear ho0); obtain ⟨Ao103, co103, eo103⟩ := Kd.R_slice HO502.out; subst eo103) | ((with_reducible refine gate_callee (f := 13) rfl ?_); refine goesL_ (some 85) rfl rfl Try.func13 (by kernel_rfl) rfl #[.slice Ao103 t500.length co103, .int .i64 (l1.length : Int)] rfl (by (try simp only [List.map_toArray, List.map_cons, List.map_nil]) <;> rfl) ?_; (with_reducible refine (page_Get.calls kj18 _ _ t500 (l1.length : Int) t503 t504 t505 t508 t509 _ ?side1 ?side2 A57.out).mono ?_); (case side1 => exact xC (Kd.R_reads' HO502.out).2.2); (case side2 => exact (Kd.R_reads' HO502.out).2.1); rintro e w104 ⟨v506, rfl, ho0, hb⟩; refine ⟨_, rfl, ?_⟩; have n4_ := Aside0.mk (Kd.R_lower (Kd.R_new' (Kd.R_new' (Kd.R_new' (Kd.R_new' ho0 (Kd.R_lt (xR HO_135002.out))) (Kd.R_lt (xR HO_143002.out))) (Kd.R_lt (xR HO499.out))) (Kd.R_lt (xR HO502.out))) (below_size (xS HB.out (ge GE101.out (ge GE134.out (ge GE142.out g0)))))); have n5_ := Aside0.mk (blk_below (xB BK101.out) hb); have n6_ := Aside0.mk (blk_below (xB BK134.out) hb); have n7_ := Aside0.mk (blk_below (xB BK142.out) hb); have n8_ := Aside0.mk (below_step (xS HB.out (ge GE101.out (ge GE134.out (ge GE142.out g0)))) hb); clear HO_135002 HO_143002 HO499 HO502 BK101 BK134 BK142 HB; revert n4_ n5_ n6_ n7_ n8_; intro HO507 BK101 BK134 BK142 HB; (try clear hb); (try clear ho0)) | ((with_reducible refine gate_dst (N := 15) rfl ?_); (try (refine gate_guard (by rfl) ?_; dsimp only)); refine box_event ?hg (N := 15) ?hd (cs := #[.int .i64 0, .int .i64 0, .slice none 0 0]) (t := 34) ?hr ?_; (case hd => rfl); (case hg => rfl); (case hr => first | (go_simp; done) | (go_simp; rfl)); intro gb510 hg w105 hbox hb; have n4_ := Aside0.mk (Kd.R_below (xR HO507.out) hb); have n5_ := Aside0.mk (blk_below (xB BK101.out) hb); have n8_ := Aside0.mk (below_step (xS HB.out (ge GE101.out (ge GE134.out (ge GE142.out g0)))) hb); have n9_ := Aside0.mk (hbox); have n11_ := Aside0.mk ((by rw [hg]; exact (below_size (xS HB.out (ge GE101.out (ge GE134.out (ge GE142.out g0))))) : w.heap.size ≤ gb510)); have n12_ := Aside0.mk ((by rw [hg]; exact Nat.ne_of_lt (blk_lt (xB BK101.out)) : gb101 ≠ gb510)); have n13_ := Aside0.mk ((by rw [hg]; exact Nat.ne_of_gt (blk_lt (xB BK101.out)) : gb510 ≠ gb101)); have n14_ := Aside0.mk ((by rw [hg]; exact Nat.ne_of_lt (blk_lt (xB BK134.out)) : gb134 ≠ gb510)); have n15_ := Aside0.mk ((by rw [hg]; exact Nat.ne_of_gt (blk_lt (xB BK134.out)) : gb510 ≠ gb134)); have n16_ := Aside0.mk ((by rw [hg]; exact Nat.ne_of_lt (blk_lt (xB BK142.out)) : gb142 ≠ gb510)); have n17_ := Aside0.mk ((by rw [hg]; exact Nat.ne_of_gt (blk_lt (xB BK142.out)) : gb510 ≠ gb142)); clear HO507 BK101 BK134 BK142 HB; revert n4_ n5_ n8_ n9_ n11_ n12_ n13_ n14_ n15_ n16_ n17_; intro HO507 BK101 HB BK510 GE510 NB101_510 NB510_101 NB134_510 NB510_134 NB142_510 NB510_142; clear hb hbox hg; have hnb106 := NB510_101.out; have hnc106 := NB101_510.out; have hnb107 := NB510_134.out; have hnc107 := NB134_510.out; have hnb108 := NB510_142.out; have hnc108 := NB142_510.out; have hcz109_0 : w105.cell? ⟨gb510, 0, none⟩ = some (.int .i64 0) := (blk_cell BK510.out 0).trans rfl; have hcz109_1 : w105.cell? ⟨gb510, 1, none⟩ = some (.int .i64 0) := (blk_cell BK510.out 1).trans rfl; have hcz109_2 : w105.cell? ⟨gb510, 2, none⟩ = some (.slice none 0 0) := (blk_cell BK510.out 2).trans rfl; have hfz109_0 := blk_frozen BK510.out 0; have hfz109_1 := blk_frozen BK510.out 1; have hfz109_2 := blk_frozen BK510.out 2; obtain ⟨Ao110, co110, eo110⟩ := Kd.R_slice HO507.out; subst eo110; have hcz111_0 : w105.cell? ⟨gb101, 0, none⟩ = some (.int .i64 a0_0) := (blk_cell BK101.out 0).trans rfl; have hcz111_1 : w105.cell? ⟨gb101, 1, none⟩ = some (.int .i64 a0_1) := (blk_cell BK101.out 1).trans rfl; have hcz111_2 : w105.cell? ⟨gb101, 2, none⟩ = some (.slice A0_2 l0_2.length c0_2) := (blk_cell BK101.out 2).trans rfl; have hfz111_0 := blk_frozen BK101.out 0; have hfz111_1 := blk_frozen BK101.out 1; have hfz111_2 := blk_frozen BK101.out 2))
        go_ret
        exact ⟨by first | rfl | simp [*], by repeat (first | (with_reducible first | exact HB.out | apply below_alloc | apply pw_below_drewN | apply below_drew1 | refine below_set ?_ GE101.out | refine below_set ?_ GE134.out | refine below_set ?_ GE142.out | refine below_set ?_ GE510.out) | exact HB.out)⟩
       ·rw [if_neg c94] at H
        have c94b0 : decide (a0_1 < 0) = false := decide_eq_false c94
        clear c94
        by_cases c112 : a0_1 > 1024
        ·rw [if_pos c112] at H
         have c112b0 : decide (1024 < a0_1) = true := decide_eq_true c112
         clear c112
         by_cases c113 : t508 = 0
         rotate_left
         ·rw [if_neg c113] at H
          exact absurd H (by simp)
         rw [if_pos c113] at H
         have c113b0 : (t508 == 0) = true := beq_iff_eq.mpr c113
         have c113b1 : (t508 != 0) = false := bne_eq_false_iff_eq.mpr c113
         clear c113
         by_cases c114 : t509 = 100
         rotate_left
         ·rw [if_neg c114] at H
          exact absurd H (by simp)
         rw [if_pos c114] at H
         have c114b0 : (t509 == 100) = true := beq_iff_eq.mpr c114
         have c114b1 : (t509 != 100) = false := bne_eq_false_iff_eq.mpr c114
         clear c114
         obtain rfl := Option.some.inj H
         have hnb115 := NB101_134.out
         have hnc115 := NB134_101.out
         have hnb116 := NB101_142.out
         have hnc116 := NB142_101.out
         have hcz117_0 : wc.cell? ⟨gb101, 0, none⟩ = some (.int .i64 a0_0) := (blk_cell BK101.out 0).trans rfl
         have hcz117_1 : wc.cell? ⟨gb101, 1, none⟩ = some (.int .i64 a0_1) := (blk_cell BK101.out 1).trans rfl
         have hcz117_2 : wc.cell? ⟨gb101, 2, none⟩ = some (.slice A0_2 l0_2.length c0_2) := (blk_cell BK101.out 2).trans rfl
         have hfz117_0 := blk_frozen BK101.out 0
         have hfz117_1 := blk_frozen BK101.out 1
         have hfz117_2 := blk_frozen BK101.out 2
         go_wp2_with (first | ((with_reducible refine gate_callee (f := 16) rfl ?_); refine goesL_ (some 78) rfl rfl Try.func16 (by kernel_rfl) rfl #[.slice A1 l1.length c1, .agg #[.int .i64 a0_0, .int .i64 a0_1, .slice A0_2 l0_2.length c0_2]] rfl (by (try simp only [List.map_toArray, List.map_cons, List.map_nil]) <;> rfl) ?_; (with_reducible refine (page_Put.calls kj18 _ _ l1 a0_0 a0_1 _ _ l0_2 t497 _ ?side1 ?side2 ?side3 ?side4 A55.out).mono ?_); (case side1 => exact xC (Kd.C_below HR1.out HB.out)); (case side2 => exact HC1.out); (case side3 => exact xC (Kd.C_below HR0_2.out HB.out)); (case side4 => exact HC0_2.out); rintro e w118 ⟨v498, rfl, ho0, hb⟩; refine ⟨_, rfl, ?_⟩; have n0_ := Aside0.mk (Kd.R_elder' (xR HO_135002.out) (Kd.R_base ho0) hb); have n1_ := Aside0.mk (Kd.R_elder' (xR HO_143002.out) (Kd.R_base ho0) hb); have n2_ := Aside0.mk (Kd.R_lower (Kd.R_new' (Kd.R_new' ho0 (Kd.R_lt (xR HO_135002.out))) (Kd.R_lt (xR HO_143002.out))) (below_size (xS HB.out (ge GE101.out (ge GE134.out (ge GE142.out g0)))))); have n3_ := Aside0.mk (blk_below (xB BK101.out) hb); have n4_ := Aside0.mk (blk_below (xB BK134.out) hb); have n5_ := Aside0.mk (blk_below (xB BK142.out) hb); have n6_ := Aside0.mk (below_step (xS HB.out (ge GE101.out (ge GE134.out (ge GE142.out g0)))) hb); clear HO_135002 HO_143002 BK101 BK134 BK142 HB; revert n0_ n1_ n2_ n3_ n4_ n5_ n6_; intro HO_135002 HO_143002 HO499 BK101 BK134 BK142 HB; (try clear hb); (try clear ho0); obtain ⟨Ao119, co119, eo119⟩ := Kd.R_slice HO499.out; subst eo119) | ((with_reducible refine gate_callee (f := 12) rfl ?_); refine goesL_ (some 82) rfl rfl Try.func12 (by kernel_rfl) rfl #[.slice Ao119 t497.length co119, .slice A1 l1.length c1] rfl (by (try simp only [List.map_toArray, List.map_cons, List.map_nil]) <;> rfl) ?_; (with_reducible refine (fenlandref01_Join.calls _ _ t497 _ _ l1 t500 _ ?side1 ?side2 ?side3 ?side4 A56.out).mono ?_); (case side1 => exact xC (Kd.R_reads' HO499.out).2.2); (case side2 => exact (Kd.R_reads' HO499.out).2.1); (case side3 => exact xC (Kd.C_below HR1.out HB.out)); (case side4 => exact HC1.out); rintro e w120 ⟨v501, rfl, ho0, hb⟩; refine ⟨_, rfl, ?_⟩; have n0_ := Aside0.mk (Kd.R_elder' (xR HO_135002.out) (Kd.R_base ho0) hb); have n1_ := Aside0.mk (Kd.R_elder' (xR HO_143002.out) (Kd.R_base ho0) hb); have n2_ := Aside0.mk (Kd.R_elder' (xR HO499.out) (Kd.R_base ho0) hb); have n3_ := Aside0.mk (Kd.R_lower (Kd.R_new' (Kd.R_new' (Kd.R_new' ho0 (Kd.R_lt (xR HO_135002.out))) (Kd.R_lt (xR HO_143002.out))) (Kd.R_lt (xR HO499.out))) (below_size (xS HB.out (ge GE101.out (ge GE134.out (ge GE142.out g0)))))); have n4_ := Aside0.mk (blk_below (xB BK101.out) hb); have n5_ := Aside0.mk (blk_below (xB BK134.out) hb); have n6_ := Aside0.mk (blk_below (xB BK142.out) hb); have n7_ := Aside0.mk (below_step (xS HB.out (ge GE101.out (ge GE134.out (ge GE142.out g0)))) hb); clear HO_135002 HO_143002 HO499 BK101 BK134 BK142 HB; revert n0_ n1_ n2_ n3_ n4_ n5_ n6_ n7_; intro HO_135002 HO_143002 HO499 HO502 BK101 BK134 BK142 HB; (try clear hb); (try clear ho0); obtain ⟨Ao121, co121, eo121⟩ := Kd.R_slice HO502.out; subst eo121) | ((with_reducible refine gate_callee (f := 13) rfl ?_); refine goesL_ (some 85) rfl rfl Try.func13 (by kernel_rfl) rfl #[.slice Ao121 t500.length co121, .int .i64 (l1.length : Int)] rfl (by (try simp only [List.map_toArray, List.map_cons, List.map_nil]) <;> rfl) ?_; (with_reducible refine (page_Get.calls kj18 _ _ t500 (l1.length : Int) t503 t504 t505 t508 t509 _ ?side1 ?side2 A57.out).mono ?_); (case side1 => exact xC (Kd.R_reads' HO502.out).2.2); (case side2 => exact (Kd.R_reads' HO502.out).2.1); rintro e w122 ⟨v506, rfl, ho0, hb⟩; refine ⟨_, rfl, ?_⟩; have n4_ := Aside0.mk (Kd.R_lower (Kd.R_new' (Kd.R_new' (Kd.R_new' (Kd.R_new' ho0 (Kd.R_lt (xR HO_135002.out))) (Kd.R_lt (xR HO_143002.out))) (Kd.R_lt (xR HO499.out))) (Kd.R_lt (xR HO502.out))) (below_size (xS HB.out (ge GE101.out (ge GE134.out (ge GE142.out g0)))))); have n5_ := Aside0.mk (blk_below (xB BK101.out) hb); have n6_ := Aside0.mk (blk_below (xB BK134.out) hb); have n7_ := Aside0.mk (blk_below (xB BK142.out) hb); have n8_ := Aside0.mk (below_step (xS HB.out (ge GE101.out (ge GE134.out (ge GE142.out g0)))) hb); clear HO_135002 HO_143002 HO499 HO502 BK101 BK134 BK142 HB; revert n4_ n5_ n6_ n7_ n8_; intro HO507 BK101 BK134 BK142 HB; (try clear hb); (try clear ho0)) | ((with_reducible refine gate_dst (N := 15) rfl ?_); (try (refine gate_guard (by rfl) ?_; dsimp only)); refine box_event ?hg (N := 15) ?hd (cs := #[.int .i64 0, .int .i64 0, .slice none 0 0]) (t := 34) ?hr ?_; (case hd => rfl); (case hg => rfl); (case hr => first | (go_simp; done) | (go_simp; rfl)); intro gb510 hg w123 hbox hb; have n4_ := Aside0.mk (Kd.R_below (xR HO507.out) hb); have n5_ := Aside0.mk (blk_below (xB BK101.out) hb); have n8_ := Aside0.mk (below_step (xS HB.out (ge GE101.out (ge GE134.out (ge GE142.out g0)))) hb); have n9_ := Aside0.mk (hbox); have n11_ := Aside0.mk ((by rw [hg]; exact (below_size (xS HB.out (ge GE101.out (ge GE134.out (ge GE142.out g0))))) : w.heap.size ≤ gb510)); have n12_ := Aside0.mk ((by rw [hg]; exact Nat.ne_of_lt (blk_lt (xB BK101.out)) : gb101 ≠ gb510)); have n13_ := Aside0.mk ((by rw [hg]; exact Nat.ne_of_gt (blk_lt (xB BK101.out)) : gb510 ≠ gb101)); have n14_ := Aside0.mk ((by rw [hg]; exact Nat.ne_of_lt (blk_lt (xB BK134.out)) : gb134 ≠ gb510)); have n15_ := Aside0.mk ((by rw [hg]; exact Nat.ne_of_gt (blk_lt (xB BK134.out)) : gb510 ≠ gb134)); have n16_ := Aside0.mk ((by rw [hg]; exact Nat.ne_of_lt (blk_lt (xB BK142.out)) : gb142 ≠ gb510)); have n17_ := Aside0.mk ((by rw [hg]; exact Nat.ne_of_gt (blk_lt (xB BK142.out)) : gb510 ≠ gb142)); clear HO507 BK101 BK134 BK142 HB; revert n4_ n5_ n8_ n9_ n11_ n12_ n13_ n14_ n15_ n16_ n17_; intro HO507 BK101 HB BK510 GE510 NB101_510 NB510_101 NB134_510 NB510_134 NB142_510 NB510_142; clear hb hbox hg; have hnb124 := NB510_101.out; have hnc124 := NB101_510.out; have hnb125 := NB510_134.out; have hnc125 := NB134_510.out; have hnb126 := NB510_142.out; have hnc126 := NB142_510.out; have hcz127_0 : w123.cell? ⟨gb510, 0, none⟩ = some (.int .i64 0) := (blk_cell BK510.out 0).trans rfl; have hcz127_1 : w123.cell? ⟨gb510, 1, none⟩ = some (.int .i64 0) := (blk_cell BK510.out 1).trans rfl; have hcz127_2 : w123.cell? ⟨gb510, 2, none⟩ = some (.slice none 0 0) := (blk_cell BK510.out 2).trans rfl; have hfz127_0 := blk_frozen BK510.out 0; have hfz127_1 := blk_frozen BK510.out 1; have hfz127_2 := blk_frozen BK510.out 2; obtain ⟨Ao128, co128, eo128⟩ := Kd.R_slice HO507.out; subst eo128; have hcz129_0 : w123.cell? ⟨gb101, 0, none⟩ = some (.int .i64 a0_0) := (blk_cell BK101.out 0).trans rfl; have hcz129_1 : w123.cell? ⟨gb101, 1, none⟩ = some (.int .i64 a0_1) := (blk_cell BK101.out 1).trans rfl; have hcz129_2 : w123.cell? ⟨gb101, 2, none⟩ = some (.slice A0_2 l0_2.length c0_2) := (blk_cell BK101.out 2).trans rfl; have hfz129_0 := blk_frozen BK101.out 0; have hfz129_1 := blk_frozen BK101.out 1; have hfz129_2 := blk_frozen BK101.out 2))
         go_ret
         exact ⟨by first | rfl | simp [*], by repeat (first | (with_reducible first | exact HB.out | apply below_alloc | apply pw_below_drewN | apply below_drew1 | refine below_set ?_ GE101.out | refine below_set ?_ GE134.out | refine below_set ?_ GE142.out | refine below_set ?_ GE510.out) | exact HB.out)⟩
        ·rw [if_neg c112] at H
         have c112b0 : decide (1024 < a0_1) = false := decide_eq_false c112
         clear c112
         replace H := Option.bind_eq_some_iff.mp H
         obtain ⟨t511, A1300, H⟩ := H
         (try dsimp only at H)
         have A130 := Aside0.mk A1300
         clear A1300
         by_cases c131 : t511 = true
         rotate_left
         ·exact absurd H (by simp [c131])
         subst c131
         rw [if_pos rfl] at H
         by_cases c132 : t508 = (t497.length : Int)
         rotate_left
         ·rw [if_neg c132] at H
          exact absurd H (by simp)
         rw [if_pos c132] at H
         have c132b0 : (t508 == (t497.length : Int)) = true := beq_iff_eq.mpr c132
         have c132b1 : (t508 != (t497.length : Int)) = false := bne_eq_false_iff_eq.mpr c132
         clear c132
         by_cases c133 : t509 = 0
         rotate_left
         ·rw [if_neg c133] at H
          exact absurd H (by simp)
         rw [if_pos c133] at H
         have c133b0 : (t509 == 0) = true := beq_iff_eq.mpr c133
         have c133b1 : (t509 != 0) = false := bne_eq_false_iff_eq.mpr c133
         clear c133
         obtain rfl := Option.some.inj H
         have hnb134 := NB101_134.out
         have hnc134 := NB134_101.out
         have hnb135 := NB101_142.out
         have hnc135 := NB142_101.out
         have hcz136_0 : wc.cell? ⟨gb101, 0, none⟩ = some (.int .i64 a0_0) := (blk_cell BK101.out 0).trans rfl
         have hcz136_1 : wc.cell? ⟨gb101, 1, none⟩ = some (.int .i64 a0_1) := (blk_cell BK101.out 1).trans rfl
         have hcz136_2 : wc.cell? ⟨gb101, 2, none⟩ = some (.slice A0_2 l0_2.length c0_2) := (blk_cell BK101.out 2).trans rfl
         have hfz136_0 := blk_frozen BK101.out 0
         have hfz136_1 := blk_frozen BK101.out 1
         have hfz136_2 := blk_frozen BK101.out 2
         go_wp2_with (first | ((with_reducible refine gate_callee (f := 16) rfl ?_); refine goesL_ (some 78) rfl rfl Try.func16 (by kernel_rfl) rfl #[.slice A1 l1.length c1, .agg #[.int .i64 a0_0, .int .i64 a0_1, .slice A0_2 l0_2.length c0_2]] rfl (by (try simp only [List.map_toArray, List.map_cons, List.map_nil]) <;> rfl) ?_; (with_reducible refine (page_Put.calls kj18 _ _ l1 a0_0 a0_1 _ _ l0_2 t497 _ ?side1 ?side2 ?side3 ?side4 A55.out).mono ?_); (case side1 => exact xC (Kd.C_below HR1.out HB.out)); (case side2 => exact HC1.out); (case side3 => exact xC (Kd.C_below HR0_2.out HB.out)); (case side4 => exact HC0_2.out); rintro e w137 ⟨v498, rfl, ho0, hb⟩; refine ⟨_, rfl, ?_⟩; have n0_ := Aside0.mk (Kd.R_elder' (xR HO_135002.out) (Kd.R_base ho0) hb); have n1_ := Aside0.mk (Kd.R_elder' (xR HO_143002.out) (Kd.R_base ho0) hb); have n2_ := Aside0.mk (Kd.R_lower (Kd.R_new' (Kd.R_new' ho0 (Kd.R_lt (xR HO_135002.out))) (Kd.R_lt (xR HO_143002.out))) (below_size (xS HB.out (ge GE101.out (ge GE134.out (ge GE142.out g0)))))); have n3_ := Aside0.mk (blk_below (xB BK101.out) hb); have n4_ := Aside0.mk (blk_below (xB BK134.out) hb); have n5_ := Aside0.mk (blk_below (xB BK142.out) hb); have n6_ := Aside0.mk (below_step (xS HB.out (ge GE101.out (ge GE134.out (ge GE142.out g0)))) hb); clear HO_135002 HO_143002 BK101 BK134 BK142 HB; revert n0_ n1_ n2_ n3_ n4_ n5_ n6_; intro HO_135002 HO_143002 HO499 BK101 BK134 BK142 HB; (try clear hb); (try clear ho0); obtain ⟨Ao138, co138, eo138⟩ := Kd.R_slice HO499.out; subst eo138) | ((with_reducible refine gate_callee (f := 12) rfl ?_); refine goesL_ (some 82) rfl rfl Try.func12 (by kernel_rfl) rfl #[.slice Ao138 t497.length co138, .slice A1 l1.length c1] rfl (by (try simp only [List.map_toArray, List.map_cons, List.map_nil]) <;> rfl) ?_; (with_reducible refine (fenlandref01_Join.calls _ _ t497 _ _ l1 t500 _ ?side1 ?side2 ?side3 ?side4 A56.out).mono ?_); (case side1 => exact xC (Kd.R_reads' HO499.out).2.2); (case side2 => exact (Kd.R_reads' HO499.out).2.1); (case side3 => exact xC (Kd.C_below HR1.out HB.out)); (case side4 => exact HC1.out); rintro e w139 ⟨v501, rfl, ho0, hb⟩; refine ⟨_, rfl, ?_⟩; have n0_ := Aside0.mk (Kd.R_elder' (xR HO_135002.out) (Kd.R_base ho0) hb); have n1_ := Aside0.mk (Kd.R_elder' (xR HO_143002.out) (Kd.R_base ho0) hb); have n2_ := Aside0.mk (Kd.R_elder' (xR HO499.out) (Kd.R_base ho0) hb); have n3_ := Aside0.mk (Kd.R_lower (Kd.R_new' (Kd.R_new' (Kd.R_new' ho0 (Kd.R_lt (xR HO_135002.out))) (Kd.R_lt (xR HO_143002.out))) (Kd.R_lt (xR HO499.out))) (below_size (xS HB.out (ge GE101.out (ge GE134.out (ge GE142.out g0)))))); have n4_ := Aside0.mk (blk_below (xB BK101.out) hb); have n5_ := Aside0.mk (blk_below (xB BK134.out) hb); have n6_ := Aside0.mk (blk_below (xB BK142.out) hb); have n7_ := Aside0.mk (below_step (xS HB.out (ge GE101.out (ge GE134.out (ge GE142.out g0)))) hb); clear HO_135002 HO_143002 HO499 BK101 BK134 BK142 HB; revert n0_ n1_ n2_ n3_ n4_ n5_ n6_ n7_; intro HO_135002 HO_143002 HO499 HO502 BK101 BK134 BK142 HB; (try clear hb); (try clear ho0); obtain ⟨Ao140, co140, eo140⟩ := Kd.R_slice HO502.out; subst eo140) | ((with_reducible refine gate_callee (f := 13) rfl ?_); refine goesL_ (some 85) rfl rfl Try.func13 (by kernel_rfl) rfl #[.slice Ao140 t500.length co140, .int .i64 (l1.length : Int)] rfl (by (try simp only [List.map_toArray, List.map_cons, List.map_nil]) <;> rfl) ?_; (with_reducible refine (page_Get.calls kj18 _ _ t500 (l1.length : Int) t503 t504 t505 t508 t509 _ ?side1 ?side2 A57.out).mono ?_); (case side1 => exact xC (Kd.R_reads' HO502.out).2.2); (case side2 => exact (Kd.R_reads' HO502.out).2.1); rintro e w141 ⟨v506, rfl, ho0, hb⟩; refine ⟨_, rfl, ?_⟩; have n4_ := Aside0.mk (Kd.R_lower (Kd.R_new' (Kd.R_new' (Kd.R_new' (Kd.R_new' ho0 (Kd.R_lt (xR HO_135002.out))) (Kd.R_lt (xR HO_143002.out))) (Kd.R_lt (xR HO499.out))) (Kd.R_lt (xR HO502.out))) (below_size (xS HB.out (ge GE101.out (ge GE134.out (ge GE142.out g0)))))); have n5_ := Aside0.mk (blk_below (xB BK101.out) hb); have n6_ := Aside0.mk (blk_below (xB BK134.out) hb); have n7_ := Aside0.mk (blk_below (xB BK142.out) hb); have n8_ := Aside0.mk (below_step (xS HB.out (ge GE101.out (ge GE134.out (ge GE142.out g0)))) hb); clear HO_135002 HO_143002 HO499 HO502 BK101 BK134 BK142 HB; revert n4_ n5_ n6_ n7_ n8_; intro HO507 BK101 BK134 BK142 HB; (try clear hb); (try clear ho0)) | ((with_reducible refine gate_dst (N := 15) rfl ?_); (try (refine gate_guard (by rfl) ?_; dsimp only)); refine box_event ?hg (N := 15) ?hd (cs := #[.int .i64 0, .int .i64 0, .slice none 0 0]) (t := 34) ?hr ?_; (case hd => rfl); (case hg => rfl); (case hr => first | (go_simp; done) | (go_simp; rfl)); intro gb510 hg w142 hbox hb; have n4_ := Aside0.mk (Kd.R_below (xR HO507.out) hb); have n5_ := Aside0.mk (blk_below (xB BK101.out) hb); have n8_ := Aside0.mk (below_step (xS HB.out (ge GE101.out (ge GE134.out (ge GE142.out g0)))) hb); have n9_ := Aside0.mk (hbox); have n11_ := Aside0.mk ((by rw [hg]; exact (below_size (xS HB.out (ge GE101.out (ge GE134.out (ge GE142.out g0))))) : w.heap.size ≤ gb510)); have n12_ := Aside0.mk ((by rw [hg]; exact Nat.ne_of_lt (blk_lt (xB BK101.out)) : gb101 ≠ gb510)); have n13_ := Aside0.mk ((by rw [hg]; exact Nat.ne_of_gt (blk_lt (xB BK101.out)) : gb510 ≠ gb101)); have n14_ := Aside0.mk ((by rw [hg]; exact Nat.ne_of_lt (blk_lt (xB BK134.out)) : gb134 ≠ gb510)); have n15_ := Aside0.mk ((by rw [hg]; exact Nat.ne_of_gt (blk_lt (xB BK134.out)) : gb510 ≠ gb134)); have n16_ := Aside0.mk ((by rw [hg]; exact Nat.ne_of_lt (blk_lt (xB BK142.out)) : gb142 ≠ gb510)); have n17_ := Aside0.mk ((by rw [hg]; exact Nat.ne_of_gt (blk_lt (xB BK142.out)) : gb510 ≠ gb142)); clear HO507 BK101 BK134 BK142 HB; revert n4_ n5_ n8_ n9_ n11_ n12_ n13_ n14_ n15_ n16_ n17_; intro HO507 BK101 HB BK510 GE510 NB101_510 NB510_101 NB134_510 NB510_134 NB142_510 NB510_142; clear hb hbox hg; have hnb143 := NB510_101.out; have hnc143 := NB101_510.out; have hnb144 := NB510_134.out; have hnc144 := NB134_510.out; have hnb145 := NB510_142.out; have hnc145 := NB142_510.out; have hcz146_0 : w142.cell? ⟨gb510, 0, none⟩ = some (.int .i64 0) := (blk_cell BK510.out 0).trans rfl; have hcz146_1 : w142.cell? ⟨gb510, 1, none⟩ = some (.int .i64 0) := (blk_cell BK510.out 1).trans rfl; have hcz146_2 : w142.cell? ⟨gb510, 2, none⟩ = some (.slice none 0 0) := (blk_cell BK510.out 2).trans rfl; have hfz146_0 := blk_frozen BK510.out 0; have hfz146_1 := blk_frozen BK510.out 1; have hfz146_2 := blk_frozen BK510.out 2; obtain ⟨Ao147, co147, eo147⟩ := Kd.R_slice HO507.out; subst eo147; have hcz148_0 : w142.cell? ⟨gb101, 0, none⟩ = some (.int .i64 a0_0) := (blk_cell BK101.out 0).trans rfl; have hcz148_1 : w142.cell? ⟨gb101, 1, none⟩ = some (.int .i64 a0_1) := (blk_cell BK101.out 1).trans rfl; have hcz148_2 : w142.cell? ⟨gb101, 2, none⟩ = some (.slice A0_2 l0_2.length c0_2) := (blk_cell BK101.out 2).trans rfl; have hfz148_0 := blk_frozen BK101.out 0; have hfz148_1 := blk_frozen BK101.out 1; have hfz148_2 := blk_frozen BK101.out 2) | ((with_reducible refine gate_callee (f := 15) rfl ?_); refine goesL_ (some 118) rfl rfl Try.func15 (by kernel_rfl) rfl #[.agg #[.int .i64 t503, .int .i64 t504, .slice Ao147 t505.length co147], .agg #[.int .i64 a0_0, .int .i64 a0_1, .slice A0_2 l0_2.length c0_2]] rfl (by (try simp only [List.map_toArray, List.map_cons, List.map_nil]) <;> rfl) ?_; (with_reducible refine (fenlandref10_Same.calls kj18 t503 t504 _ _ t505 a0_0 a0_1 _ _ l0_2 true _ ?side1 ?side2 ?side3 ?side4 A130.out).mono ?_); (case side1 => refine (Kd.R_reads' (e := 5) (base := w.heap.size) (ok := fun k_ => ((((True ∧ some k_ ≠ (.slice Ao27 t129.length co27 : Value).ownBlock) ∧ some k_ ≠ (.slice Ao33 t137.length co33 : Value).ownBlock) ∧ some k_ ≠ (.slice Ao138 t497.length co138 : Value).ownBlock) ∧ some k_ ≠ (.slice Ao140 t500.length co140 : Value).ownBlock)) (n := t505.length) (c := co147) ?_).2.2; exact (xT HO507.out BK510.out (by decide))); (case side2 => exact (Kd.R_reads' HO507.out).2.1); (case side3 => exact Kd.C_below HR0_2.out (xS HB.out (ge GE101.out (ge GE134.out (ge GE142.out (ge GE510.out g0)))))); (case side4 => exact HC0_2.out); rintro e w149 ⟨rfl, hb⟩; refine ⟨_, rfl, ?_⟩; have n9_ := Aside0.mk (below_step (xS HB.out (ge GE101.out (ge GE134.out (ge GE142.out (ge GE510.out g0))))) hb); clear HO507 BK510 HB; revert n9_; intro HB; (try clear hb)))
         go_ret
         exact ⟨by first | rfl | simp [*], by repeat (first | (with_reducible first | exact HB.out | apply below_alloc | apply pw_below_drewN | apply below_drew1 | refine below_set ?_ GE101.out | refine below_set ?_ GE134.out | refine below_set ?_ GE142.out | refine below_set ?_ GE510.out) | exact HB.out)⟩
end
end Go.Proofs.Ytnfdhgfpjamphaa.X
