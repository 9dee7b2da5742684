/- The law LawPagePut: its walk and its proof, part 4 of 14. -/
import Derived.Lib.LazyBuf
import Derived.Test.YtnfdhgfpjamphaaYLawPagePut0
import Derived.Test.YtnfdhgfpjamphaaYLawPagePut1
import Derived.Test.YtnfdhgfpjamphaaYLawPagePut2
namespace Go.Proofs.Ytnfdhgfpjamphaa.X
section
open Go.RowKit Go.Proofs.YtnfdhgfpjamphaaW.PrintWords Go.Proofs.YtnfdhgfpjamphaaW.PrintLast Go.Proofs.YtnfdhgfpjamphaaW.PrintMore
attribute [local go_sem] max2_int min2_int max_two min_two max_three min_three max_four min_four   -- for this text's walks alone
set_option linter.unusedVariables false
set_option linter.unusedSimpArgs false
mutual
def slices_insertionSortCmpFunc_api_Value.l0 : Nat → List (S26) → Int → Int → Int → Option ((List (S26)))
 | 0, _, _, _, _ => none
 | k + 1, x0, x1, x2, x8 => if x8 < x2 then (slices_insertionSortCmpFunc_api_Value.l1 k x0 x1 x2 x8 x8) else (some x0)
def slices_insertionSortCmpFunc_api_Value.l1 : Nat → List (S26) → Int → Int → Int → Int → Option ((List (S26)))
 | 0, _, _, _, _, _ => none
 | k + 1, x0, x1, x2, x8, x9 => if x9 > x1 then (if 0 ≤ x9 then (if x9 < (x0.length : Int) then (if 0 ≤ (wrap64 (x9 - 1)) then (if (wrap64 (x9 - 1)) < (x0.length : Int) then ((value_Compare.f k ((rd_T26 x0 x9).f0) ((rd_T26 x0 x9).f1) ((rd_T26 x0 x9).f2) ((rd_T26 x0 (wrap64 (x9 - 1))).f0) ((rd_T26 x0 (wrap64 (x9 - 1))).f1) ((rd_T26 x0 (wrap64 (x9 - 1))).f2)).bind fun t103 => (if t103 < 0 then (none) else (slices_insertionSortCmpFunc_api_Value.l0 k x0 x1 x2 (wrap64 (x8 + 1))))) else (none)) else (none)) else (none)) else (none)) else (slices_insertionSortCmpFunc_api_Value.l0 k x0 x1 x2 (wrap64 (x8 + 1)))
end
def slices_insertionSortCmpFunc_api_Value.f (k : Nat) (l0 : List (S26)) (a1 : Int) (a2 : Int)  : Option ((List (S26))) := slices_insertionSortCmpFunc_api_Value.l0 k l0 a1 a2 (wrap64 (a1 + 1))
theorem slices_insertionSortCmpFunc_api_Value.mono_l : ∀ k, (∀ y0 y1 y2 y3, LeO (slices_insertionSortCmpFunc_api_Value.l0 k y0 y1 y2 y3) (slices_insertionSortCmpFunc_api_Value.l0 (k + 1) y0 y1 y2 y3)) ∧ (∀ y0 y1 y2 y3 y4, LeO (slices_insertionSortCmpFunc_api_Value.l1 k y0 y1 y2 y3 y4) (slices_insertionSortCmpFunc_api_Value.l1 (k + 1) y0 y1 y2 y3 y4))
 | 0 => ⟨fun _ _ _ _ r h => by simp [slices_insertionSortCmpFunc_api_Value.l0] at h, fun _ _ _ _ _ r h => by simp [slices_insertionSortCmpFunc_api_Value.l1] at h⟩
 | k + 1 => by
  obtain ⟨ih0, ih1⟩ := slices_insertionSortCmpFunc_api_Value.mono_l k
  refine ⟨?_, ?_⟩
  ·intro y0 y1 y2 y3
   unfold slices_insertionSortCmpFunc_api_Value.l0
   repeat' first
   | (with_reducible exact ih0 _ _ _ _)
   | (with_reducible exact ih1 _ _ _ _ _)
   | (with_reducible exact value_Compare.mono _ _ _ _ _ _ _)
   | (with_reducible exact LeO.refl _)
   | (with_reducible exact LeO.none _)
   | (with_reducible refine LeO.ite ?_ ?_)
   | (with_reducible refine LeO.bind ?_ (fun _ => ?_))
   | exact ih0 _ _ _ _
   | exact ih1 _ _ _ _ _
   | exact value_Compare.mono _ _ _ _ _ _ _
   | exact LeO.none _
   | refine LeO.ite ?_ ?_
   | refine LeO.bind ?_ (fun _ => ?_)
  ·intro y0 y1 y2 y3 y4
   unfold slices_insertionSortCmpFunc_api_Value.l1
   repeat' first
   | (with_reducible exact ih0 _ _ _ _)
   | (with_reducible exact ih1 _ _ _ _ _)
   | (with_reducible exact value_Compare.mono _ _ _ _ _ _ _)
   | (with_reducible exact LeO.refl _)
   | (with_reducible exact LeO.none _)
   | (with_reducible refine LeO.ite ?_ ?_)
   | (with_reducible refine LeO.bind ?_ (fun _ => ?_))
   | exact ih0 _ _ _ _
   | exact ih1 _ _ _ _ _
   | exact value_Compare.mono _ _ _ _ _ _ _
   | exact LeO.none _
   | refine LeO.ite ?_ ?_
   | refine LeO.bind ?_ (fun _ => ?_)
theorem slices_insertionSortCmpFunc_api_Value.mono : ∀ a0 a1 a2 k, LeO (slices_insertionSortCmpFunc_api_Value.f k a0 a1 a2) (slices_insertionSortCmpFunc_api_Value.f (k + 1) a0 a1 a2) := by
 intro a0 a1 a2 k
 obtain ⟨ih0, ih1⟩ := slices_insertionSortCmpFunc_api_Value.mono_l k
 unfold slices_insertionSortCmpFunc_api_Value.f
 repeat' first
   | (with_reducible exact ih0 _ _ _ _)
   | (with_reducible exact ih1 _ _ _ _ _)
   | (with_reducible exact value_Compare.mono _ _ _ _ _ _ _)
   | (with_reducible exact LeO.refl _)
   | (with_reducible exact LeO.none _)
   | (with_reducible refine LeO.ite ?_ ?_)
   | (with_reducible refine LeO.bind ?_ (fun _ => ?_))
   | exact ih0 _ _ _ _
   | exact ih1 _ _ _ _ _
   | exact value_Compare.mono _ _ _ _ _ _ _
   | exact LeO.none _
   | refine LeO.ite ?_ ?_
   | refine LeO.bind ?_ (fun _ => ?_)
def slices_insertionSortCmpFunc_api_Value.T4 : Bool × List (List Nat × List Nat) := (true, [([], []), ([], []), ([0, 1], [0, 1]), ([2], [2]), ([3], [3]), ([3], [3]), ([3], [3]), ([5, 6, 3], [3, 5, 6]), ([7, 3], [3, 7]), ([3], [3]), ([3], [3]), ([10, 3], [3, 10]), ([9, 11, 3], [3, 9, 11]), ([12, 3], [3, 12]), ([4, 8, 13, 3, 3], [3, 4, 8, 13]), ([14, 3], [3, 14]), ([3, 15], [3, 15])])
def slices_insertionSortCmpFunc_api_Value.B4 : List Nat := [0, 0, 3, 7, 15, 15, 15, 111, 239, 15, 15, 1039, 3599, 7695, 16383, 32767, 65535]
theorem slices_insertionSortCmpFunc_api_Value.tab4 : rtab .any (opsOf Try.f87 4) = slices_insertionSortCmpFunc_api_Value.T4 := by kernel_rfl
theorem slices_insertionSortCmpFunc_api_Value.bits4 : waitsOk slices_insertionSortCmpFunc_api_Value.T4.2 slices_insertionSortCmpFunc_api_Value.B4 = true := by kernel_rfl
set_option maxHeartbeats 8000000 in
set_option maxRecDepth 100000 in
theorem slices_insertionSortCmpFunc_api_Value.calls (k : Nat) (P0_ : Nat → Prop) (u9000_ : Value) (l0 : List (S26)) (a1 : Int) (a2 : Int)  (r : List (S26)) (w0 w : World) (hB : Below w0.heap.size w0 w) (ho0 : Kd.R k26 26 w w0.heap.size P0_ u9000_ l0) (h : slices_insertionSortCmpFunc_api_Value.f k l0 a1 a2 = some r) :
  Calls Try.prog 87 #[u9000_, .int .i64 a1, .int .i64 a2, .func (.func 78) #[] #[]] w fun e w' => e = .returned (.tuple #[]) ∧ Kd.R k26 26 w' w0.heap.size (fun k_ => (P0_ k_ ∨ w.heap.size ≤ k_)) u9000_ r ∧ Below w0.heap.size w0 w' ∧ Kept w w' (fun k_ => P0_ k_) := by
 have hu26 := Try.underlying26
 have HO0 := Aside0.mk (show Kd.R k26 26 w w0.heap.size (fun k_ => (P0_ k_ ∨ w.heap.size ≤ k_)) u9000_ l0 from Kd.R_mono ho0 (fun k_ hk => (.inl hk)))
 have HK := Aside0.mk (Kept.refl w (fun k_ => P0_ k_))
 have HW0 := Aside0.mk hB.size
 have HB := Aside0.mk hB
 clear hB
 have H : (slices_insertionSortCmpFunc_api_Value.l0 k l0 a1 a2 (wrap64 (a1 + 1))) = some r := h
 clear h
 have H' := Aside0.mk H
 clear H
 go_enter Try.func87, Try.ntmps87
 go_wp2
 go_loopg [8] k (fun kq v8 w' => ∃ (x0_1 : List (S26)) (x8_1 : Int), v8 = .int .i64 x8_1 ∧ Aside0 (slices_insertionSortCmpFunc_api_Value.l0 kq x0_1 a1 a2 x8_1 = some r) ∧ Aside0 (kq ≤ k) ∧ Aside0 (Kd.R k26 26 w' w0.heap.size (fun k_ => (P0_ k_ ∨ w.heap.size ≤ k_)) u9000_ x0_1) ∧ Aside0 (Kept w w' (fun k_ => P0_ k_)) ∧ Aside0 (Below w0.heap.size w0 w'))
 case atStart => exact ⟨(l0), (wrap64 (a1 + 1)), (by first | rfl | (simp; done) | (simp [*]; done)), H', ⟨Nat.le_refl _⟩, ⟨by (with_reducible repeat (first | apply Kd.R_alloc | apply Kd.R_drewN | apply Kd.R_drew)); exact HO0.out⟩, ⟨by repeat (first | (with_reducible first | exact HK.out | apply Kept.alloc | apply Kept.drewN | apply Kept.drew) | exact HK.out)⟩, ⟨by repeat (first | (with_reducible first | exact HB.out | apply below_alloc | apply pw_below_drewN | apply below_drew1) | exact HB.out)⟩⟩
 case round =>
  clear H'
  try clear p2
  obtain ⟨x0_1, x8_1, rfl, HA, HK1, HO_0, HK, HB⟩ := hrel
  cases gk with
  | zero => exact absurd HA.out (by simp [slices_insertionSortCmpFunc_api_Value.l0])
  | succ k1 =>
   have H := HA.out
   clear HA
   simp only [slices_insertionSortCmpFunc_api_Value.l0] at H
   by_cases c5 : x8_1 < a2
   rotate_left
   ·rw [if_neg c5] at H
    have c5b0 : decide (x8_1 < a2) = false := decide_eq_false c5
    clear c5
    obtain rfl := Option.some.inj H
    go_wp2
    first | go_end0 | ((try simp only [Exit.inBlock, Exit.then]); refine bodyPost_ret (results_none rfl _ _ _) rfl ?_)
    exact ⟨by first | rfl | simp [*], by (with_reducible repeat (first | apply Kd.R_alloc | apply Kd.R_drewN | apply Kd.R_drew)); exact HO_0.out, by repeat (first | (with_reducible first | exact HB.out | apply below_alloc | apply pw_below_drewN | apply below_drew1) | exact HB.out), by repeat (first | (with_reducible first | exact HK.out | apply Kept.alloc | apply Kept.drewN | apply Kept.drew) | exact HK.out)⟩
   rw [if_pos c5] at H
   have c5b0 : decide (x8_1 < a2) = true := decide_eq_true c5
   clear c5
   have H' := Aside0.mk H
   clear H
   go_wp2
   go_loopg [9] k1 (fun kq v9 w' => ∃ (x0_2 : List (S26)) (x9_2 : Int), v9 = .int .i64 x9_2 ∧ Aside0 (slices_insertionSortCmpFunc_api_Value.l1 kq x0_2 a1 a2 x8_1 x9_2 = some r) ∧ Aside0 (kq ≤ k1) ∧ Aside0 (Kd.R k26 26 w' w0.heap.size (fun k_ => (P0_ k_ ∨ w.heap.size ≤ k_)) u9000_ x0_2) ∧ Aside0 (Kept w w' (fun k_ => P0_ k_)) ∧ Aside0 (Below w0.heap.size w0 w'))
   case atStart => exact ⟨(x0_1), (x8_1), (by first | rfl | (simp; done) | (simp [*]; done)), H', ⟨Nat.le_refl _⟩, ⟨by (with_reducible repeat (first | apply Kd.R_alloc | apply Kd.R_drewN | apply Kd.R_drew)); exact HO_0.out⟩, ⟨by repeat (first | (with_reducible first | exact HK.out | apply Kept.alloc | apply Kept.drewN | apply Kept.drew) | exact HK.out)⟩, ⟨by repeat (first | (with_reducible first | exact HB.out | apply below_alloc | apply pw_below_drewN | apply below_drew1) | exact HB.out)⟩⟩
   case round =>
    clear H'
    try clear p2
    try clear c5
    try clear c5b0
    try clear p2
    obtain ⟨x0_2, x9_2, rfl, HA, HK2, HO_0, HK, HB⟩ := hrel
    cases gk with
    | zero => exact absurd HA.out (by simp [slices_insertionSortCmpFunc_api_Value.l1])
    | succ k2 =>
     have H := HA.out
     clear HA
     simp only [slices_insertionSortCmpFunc_api_Value.l1] at H
     by_cases c6 : x9_2 > a1
     ·rw [if_pos c6] at H
      have c6b0 : decide (a1 < x9_2) = true := decide_eq_true c6
      clear c6
      by_cases c7 : 0 ≤ x9_2
      rotate_left
      ·rw [if_neg c7] at H
       exact absurd H (by simp)
      rw [if_pos c7] at H
      have c7b0 : decide (0 ≤ x9_2) = true := decide_eq_true c7
      clear c7
      by_cases c8 : x9_2 < (x0_2.length : Int)
      rotate_left
      ·rw [if_neg c8] at H
       exact absurd H (by simp)
      rw [if_pos c8] at H
      have c8b0 : decide (x9_2 < (x0_2.length : Int)) = true := decide_eq_true c8
      clear c8
      obtain ⟨ji9, hji9⟩ : ∃ j_ : Int, (wrap64 (x9_2 - 1)) = j_ := ⟨_, rfl⟩
      replace H : (if 0 ≤ (ji9) then (if (ji9) < (x0_2.length : Int) then ((value_Compare.f k2 ((rd_T26 x0_2 x9_2).f0) ((rd_T26 x0_2 x9_2).f1) ((rd_T26 x0_2 x9_2).f2) ((rd_T26 x0_2 (ji9)).f0) ((rd_T26 x0_2 (ji9)).f1) ((rd_T26 x0_2 (ji9)).f2)).bind fun t103 => (if t103 < 0 then (none) else (slices_insertionSortCmpFunc_api_Value.l0 k2 x0_2 a1 a2 (wrap64 (x8_1 + 1))))) else (none)) else (none)) = some r := by first | (rw [hji9] at H; exact H) | (simp only [hji9] at H ⊢; exact H)
      have hji9w : (IntKind.i64.wrap (x9_2 - 1)) = ji9 := (i64_w _).trans hji9
      by_cases c10 : 0 ≤ (ji9)
      rotate_left
      ·rw [if_neg c10] at H
       exact absurd H (by simp)
      rw [if_pos c10] at H
      have c10b0 : decide (0 ≤ (ji9)) = true := decide_eq_true c10
      clear c10
      by_cases c11 : (ji9) < (x0_2.length : Int)
      rotate_left
      ·rw [if_neg c11] at H
       exact absurd H (by simp)
      rw [if_pos c11] at H
      have c11b0 : decide ((ji9) < (x0_2.length : Int)) = true := decide_eq_true c11
      clear c11
      replace H := Option.bind_eq_some_iff.mp H
      obtain ⟨t103, A120, H⟩ := H
      (try dsimp only at H)
      have A12 := Aside0.mk A120
      clear A120
      by_cases c13 : t103 < 0
      ·rw [if_pos c13] at H
       have c13b0 : decide (t103 < 0) = true := decide_eq_true c13
       clear c13
       exact absurd H (by simp)
      ·rw [if_neg c13] at H
       have c13b0 : decide (t103 < 0) = false := decide_eq_false c13
       clear c13
       have H' := Aside0.mk H
       clear H
       try go_wp2
       have n0_ := Aside0.mk (Kd.R_drew HO_0.out)
       have n1_ := Aside0.mk (Kept.drew HK.out)
       have n2_ := Aside0.mk (below_drew1 HB.out)
       clear HO_0
       clear HK
       clear HB
       have HO_0 := n0_
       have HK := n1_
       have HB := n2_
       clear n0_ n1_ n2_
       obtain ⟨Ao16, co16, eo16⟩ := Kd.R_slice HO_0.out
       (first | subst eo16 | (injection eo16 with f1_ f2_ f3_; have f4_ := f1_.symm; have f5_ := f3_.symm; clear f1_ f2_ f3_; subst f4_; subst f5_))
       have p101 : 0 ≤ (x9_2 : Int) := of_decide_eq_true (by first | (with_reducible assumption) | assumption)
       have q101 : x9_2 < (x0_2.length : Int) := of_decide_eq_true (by first | (with_reducible assumption) | assumption)
       obtain ⟨ad101, e101, hx101_0, hx101_1, hx101_2⟩ := at_T26 (Kd.R_reads' HO_0.out).2.2 x9_2 p101 q101
       cases e101
       replace p101 := eq_true p101
       replace q101 := eq_true q101
       have p102 : 0 ≤ ((ji9) : Int) := of_decide_eq_true (by first | (with_reducible assumption) | assumption)
       have q102 : (ji9) < (x0_2.length : Int) := of_decide_eq_true (by first | (with_reducible assumption) | assumption)
       obtain ⟨ad102, e102, hx102_0, hx102_1, hx102_2⟩ := at_T26 (Kd.R_reads' HO_0.out).2.2 (ji9) p102 q102
       obtain rfl : ad101 = ad102 := (by injection e102)
       replace p102 := eq_true p102
       replace q102 := eq_true q102
       refine start_ (n := 17) (S := fun w' => w'.cell? (ad101.add ((x9_2).toNat * 3)) = some (.bool ((rd_T26 x0_2 x9_2).f0)) ∧ w'.cell? ⟨(ad101.add ((x9_2).toNat * 3)).block, (ad101.add ((x9_2).toNat * 3)).off + 1, none⟩ = some (.int .i64 ((rd_T26 x0_2 x9_2).f1)) ∧ w'.cell? ⟨(ad101.add ((x9_2).toNat * 3)).block, (ad101.add ((x9_2).toNat * 3)).off + 2, none⟩ = some (.string ((rd_T26 x0_2 x9_2).f2)) ∧ w'.cell? (ad101.add (((ji9)).toNat * 3)) = some (.bool ((rd_T26 x0_2 (ji9)).f0)) ∧ w'.cell? ⟨(ad101.add (((ji9)).toNat * 3)).block, (ad101.add (((ji9)).toNat * 3)).off + 1, none⟩ = some (.int .i64 ((rd_T26 x0_2 (ji9)).f1)) ∧ w'.cell? ⟨(ad101.add (((ji9)).toNat * 3)).block, (ad101.add (((ji9)).toNat * 3)).off + 2, none⟩ = some (.string ((rd_T26 x0_2 (ji9)).f2))) (ds := []) #[false, false, false, false, false, false, false, false, false, false, false, false, false, false, false, false, false] (by kernel_rfl) rfl rfl ⟨hx101_0, hx101_1, hx101_2, hx102_0, hx102_1, hx102_2⟩ (fun hHeld => ?_); refine with_tabW slices_insertionSortCmpFunc_api_Value.tab4 slices_insertionSortCmpFunc_api_Value.bits4 (fun HT_ HW_ => ?_)
       generalize wr.drew = w15 at HO_0 HK HB hx101_0 hx101_1 hx101_2 hx102_0 hx102_1 hx102_2 hHeld ⊢
       refine pure_ (i := 0) (N := some 18) (v := ?_) (a' := ?_) #[true, false, false, false, false, false, false, false, false, false, false, false, false, false, false, false, false] rfl rfl (any_of HT_.out (by kernel_rfl)) (fun _ _ _ h => h) (Or.inl ⟨by rfl, ?_⟩) ?_ ?_
       rotate_left
       ·intro w'
        go_simp
        with_reducible rfl
       rotate_left
       ·simp only [Act.put, List.setIfInBounds_toArray, List.set_cons_zero, List.set_cons_succ, i64_w, i32_w]
        rfl
       refine pure_ (i := 1) (N := some 19) (v := ?_) (a' := ?_) #[true, true, false, false, false, false, false, false, false, false, false, false, false, false, false, false, false] rfl rfl (any_of HT_.out (by kernel_rfl)) (fun _ _ _ h => h) (Or.inl ⟨by rfl, ?_⟩) ?_ ?_
       rotate_left
       ·intro w'
        go_simp
        with_reducible rfl
       rotate_left
       ·simp only [Act.put, List.setIfInBounds_toArray, List.set_cons_zero, List.set_cons_succ, i64_w, i32_w]
        rfl
       refine pure_ (i := 2) (N := some 20) (v := ?_) (a' := ?_) #[true, true, true, false, false, false, false, false, false, false, false, false, false, false, false, false, false] rfl rfl (any_of HT_.out (by kernel_rfl)) (fun _ _ _ h => h) (Or.inl ⟨by rfl, ?_⟩) ?_ ?_
       rotate_left
       ·intro w'
        go_simp
        with_reducible rfl
       rotate_left
       ·simp only [Act.put, List.setIfInBounds_toArray, List.set_cons_zero, List.set_cons_succ, i64_w, i32_w]
        rfl
       refine pure_ (i := 3) (N := some 21) (v := ?_) (a' := ?_) #[true, true, true, true, false, false, false, false, false, false, false, false, false, false, false, false, false] rfl rfl (any_of HT_.out (by kernel_rfl)) (fun _ _ _ h => h) (Or.inl ⟨by rfl, ?_⟩) ?_ ?_
       rotate_left
       ·intro w'
        go_simp
        with_reducible rfl
       rotate_left
       ·simp only [Act.put, List.setIfInBounds_toArray, List.set_cons_zero, List.set_cons_succ, i64_w, i32_w]
        rfl
       refine pure_ (i := 4) (N := some 22) (v := ?_) (a' := ?_) #[true, true, true, true, true, false, false, false, false, false, false, false, false, false, false, false, false] rfl rfl (any_of HT_.out (by kernel_rfl)) (fun _ _ _ h => h) (Or.inl ⟨by rfl, ?_⟩) ?_ ?_
       rotate_left
       ·intro w'
        go_simp
        with_reducible rfl
       rotate_left
       ·simp only [Act.put, List.setIfInBounds_toArray, List.set_cons_zero, List.set_cons_succ, i64_w, i32_w]
        rfl
       refine pure_ (i := 5) (N := some 23) (v := ?_) (a' := ?_) #[true, true, true, true, true, true, false, false, false, false, false, false, false, false, false, false, false] rfl rfl (any_of HT_.out (by kernel_rfl)) (fun _ _ _ h => h) (Or.inl ⟨by rfl, ?_⟩) ?_ ?_
       rotate_left
       ·intro w'
        go_simp
        with_reducible rfl
       rotate_left
       ·simp only [Act.put, List.setIfInBounds_toArray, List.set_cons_zero, List.set_cons_succ, i64_w, i32_w]
        rfl
       refine pure_ (i := 6) (N := some 24) (v := ?_) (a' := ?_) #[true, true, true, true, true, true, true, false, false, false, false, false, false, false, false, false, false] rfl rfl (any_of HT_.out (by kernel_rfl)) (fun _ _ _ h => h) (Or.inl ⟨by rfl, ?_⟩) ?_ ?_
       rotate_left
       ·intro w'
        go_simp
        with_reducible rfl
       rotate_left
       ·simp only [Act.put, List.setIfInBounds_toArray, List.set_cons_zero, List.set_cons_succ, i64_w, i32_w]
        rfl
       refine pure_ (i := 7) (N := some 25) (v := ?_) (a' := ?_) #[true, true, true, true, true, true, true, true, false, false, false, false, false, false, false, false, false] rfl rfl (any_of HT_.out (by kernel_rfl)) (fun _ _ _ h => h) (Or.inl ⟨by rfl, ?_⟩) ?_ ?_
       rotate_left
       ·intro w'
        go_simp
        with_reducible rfl
       rotate_left
       ·simp only [Act.put, List.setIfInBounds_toArray, List.set_cons_zero, List.set_cons_succ, i64_w, i32_w]
        rfl
       refine pure_ (i := 9) (N := some 27) (v := ?_) (a' := ?_) #[true, true, true, true, true, true, true, true, false, true, false, false, false, false, false, false, false] rfl rfl (any_of HT_.out (by kernel_rfl)) (fun _ _ _ h => h) (Or.inl ⟨by rfl, ?_⟩) ?_ ?_
       rotate_left
       ·intro w'
        go_simp
        with_reducible rfl
       rotate_left
       ·simp only [Act.put, List.setIfInBounds_toArray, List.set_cons_zero, List.set_cons_succ, i64_w, i32_w]
        rfl
       refine pure_ (i := 10) (N := some 28) (v := ?_) (a' := ?_) #[true, true, true, true, true, true, true, true, false, true, true, false, false, false, false, false, false] rfl rfl (any_of HT_.out (by kernel_rfl)) (fun _ _ _ h => h) (Or.inl ⟨by rfl, ?_⟩) ?_ ?_
       rotate_left
       ·intro w'
        go_simp
        with_reducible rfl
       rotate_left
       ·simp only [Act.put, List.setIfInBounds_toArray, List.set_cons_zero, List.set_cons_succ, i64_w, i32_w]
        rfl
       refine pure_ (i := 11) (N := some 29) (v := ?_) (a' := ?_) #[true, true, true, true, true, true, true, true, false, true, true, true, false, false, false, false, false] rfl rfl (any_of HT_.out (by kernel_rfl)) (fun _ _ _ h => h) (Or.inl ⟨by rfl, ?_⟩) ?_ ?_
       rotate_left
       ·intro w'
        go_simp
        with_reducible rfl
       rotate_left
       ·simp only [Act.put, List.setIfInBounds_toArray, List.set_cons_zero, List.set_cons_succ, i64_w, i32_w]
        rfl
       refine pure_ (i := 12) (N := some 30) (v := ?_) (a' := ?_) #[true, true, true, true, true, true, true, true, false, true, true, true, true, false, false, false, false] rfl rfl (any_of HT_.out (by kernel_rfl)) (fun _ _ _ h => h) (Or.inl ⟨by rfl, ?_⟩) ?_ ?_
       rotate_left
       ·intro w'
        go_simp
        with_reducible rfl
       rotate_left
       ·simp only [Act.put, List.setIfInBounds_toArray, List.set_cons_zero, List.set_cons_succ, i64_w, i32_w]
        rfl
       refine take_ (i := 8) (N := some 26) (v := ?_) (a' := ?_) #[true, true, true, true, true, true, true, true, true, true, true, true, true, false, false, false, false] rfl rfl (take_ofW HT_.out HW_.out (by kernel_rfl)) (fun _ _ _ h => h) (Or.inl ⟨by rfl, ?_⟩) hHeld ?_ ?_
       rotate_left
       ·rintro w' ⟨s0, s1, s2, s3, s4, s5⟩
        go_simp
        with_reducible rfl
       rotate_left
       ·simp only [Act.put, List.setIfInBounds_toArray, List.set_cons_zero, List.set_cons_succ, i64_w, i32_w]
        rfl
       refine take_ (i := 13) (N := some 31) (v := ?_) (a' := ?_) #[true, true, true, true, true, true, true, true, true, true, true, true, true, true, false, false, false] rfl rfl (take_ofW HT_.out HW_.out (by kernel_rfl)) (fun _ _ _ h => h) (Or.inl ⟨by rfl, ?_⟩) hHeld ?_ ?_
       rotate_left
       ·rintro w' ⟨s0, s1, s2, s3, s4, s5⟩
        go_simp
        with_reducible rfl
       rotate_left
       ·simp only [Act.put, List.setIfInBounds_toArray, List.set_cons_zero, List.set_cons_succ, i64_w, i32_w]
        rfl
       refine one_ (i := 14) (N := some 32) #[true, true, true, true, true, true, true, true, true, true, true, true, true, true, true, false, false] rfl rfl (one_of HT_.out (by kernel_rfl)) (by decide) (fun K hK => ?_)
       first | refine goes_ Try.func78 (by kernel_rfl) rfl #[.agg #[.bool ((rd_T26 x0_2 x9_2).f0), .int .i64 ((rd_T26 x0_2 x9_2).f1), .string ((rd_T26 x0_2 x9_2).f2)], .agg #[.bool ((rd_T26 x0_2 (ji9)).f0), .int .i64 ((rd_T26 x0_2 (ji9)).f1), .string ((rd_T26 x0_2 (ji9)).f2)]] (by rfl) rfl rfl (by (try simp only [List.map_toArray, List.map_cons, List.map_nil]); first | done | (simp only [hji9]; rfl) | rfl | (simp only [List.length_drop, List.length_take]; rfl)) ?_ | refine call_ 78 #[.agg #[.bool ((rd_T26 x0_2 x9_2).f0), .int .i64 ((rd_T26 x0_2 x9_2).f1), .string ((rd_T26 x0_2 x9_2).f2)], .agg #[.bool ((rd_T26 x0_2 (ji9)).f0), .int .i64 ((rd_T26 x0_2 (ji9)).f1), .string ((rd_T26 x0_2 (ji9)).f2)]] (by rfl) rfl (fn_enters Try.func78 (by kernel_rfl) rfl rfl (by rfl) (by (try simp only [List.map_toArray, List.map_cons, List.map_nil]); first | done | (simp only [hji9]; rfl) | rfl | (simp only [List.length_drop, List.length_take]; rfl))) ?_
       with_reducible refine (value_Compare.calls k2 ((rd_T26 x0_2 x9_2).f0) ((rd_T26 x0_2 x9_2).f1) ((rd_T26 x0_2 x9_2).f2) ((rd_T26 x0_2 (ji9)).f0) ((rd_T26 x0_2 (ji9)).f1) ((rd_T26 x0_2 (ji9)).f2) t103 _ A12.out).mono ?_
       rintro e w17 ⟨rfl, hb⟩
       have HS0_ := (hb.cell (World.block_lt_of_cell? _ _ (hHeld.1))).trans (hHeld.1)
       have HS1_ := (hb.cell (World.block_lt_of_cell? _ _ (hHeld.2.1))).trans (hHeld.2.1)
       have HS2_ := (hb.cell (World.block_lt_of_cell? _ _ (hHeld.2.2.1))).trans (hHeld.2.2.1)
       have HS3_ := (hb.cell (World.block_lt_of_cell? _ _ (hHeld.2.2.2.1))).trans (hHeld.2.2.2.1)
       have HS4_ := (hb.cell (World.block_lt_of_cell? _ _ (hHeld.2.2.2.2.1))).trans (hHeld.2.2.2.2.1)
       have HS5_ := (hb.cell (World.block_lt_of_cell? _ _ (hHeld.2.2.2.2.2))).trans (hHeld.2.2.2.2.2)
       refine ⟨_, rfl, ?_⟩
       have n0_ := Aside0.mk (Kd.R_below (xR HO_0.out) hb)
       have n1_ := Aside0.mk (Kept.below (S := (fun k_ => P0_ k_)) (by repeat (first | (with_reducible first | exact HK.out | apply Kept.alloc | apply Kept.drewN | apply Kept.drew) | exact HK.out)) hb)
       have n2_ := Aside0.mk (below_step (xW HB.out) hb)
       clear HO_0
       clear HK
       clear HB
       have HO_0 := n0_
       have HK := n1_
       have HB := n2_
       clear n0_ n1_ n2_
       (try clear hb)
       (try clear hb2)
       (try clear hk)
       (try clear hi)
       refine hK.out _ _ ⟨HS0_, HS1_, HS2_, HS3_, HS4_, HS5_⟩ (fun hHeld => ?_)
       clear hK K
       refine norm_ (a' := ?_) ?_ ?_
       rotate_left
       ·show Act.put _ (some 32) _ = _
        simp only [Act.put, List.setIfInBounds_toArray, List.set_cons_zero, List.set_cons_succ, i64_w, i32_w]
        rfl
       refine pure_ (i := 15) (N := some 33) (v := ?_) (a' := ?_) #[true, true, true, true, true, true, true, true, true, true, true, true, true, true, true, true, false] rfl rfl (any_of HT_.out (by kernel_rfl)) (fun _ _ _ h => h) (Or.inl ⟨by rfl, ?_⟩) ?_ ?_
       rotate_left
       ·intro w'
        go_simp
        with_reducible rfl
       rotate_left
       ·simp only [Act.put, List.setIfInBounds_toArray, List.set_cons_zero, List.set_cons_succ, i64_w, i32_w]
        rfl
       refine pure_ (i := 16) (N := some 34) (v := ?_) (a' := ?_) #[true, true, true, true, true, true, true, true, true, true, true, true, true, true, true, true, true] rfl rfl (any_of HT_.out (by kernel_rfl)) (fun _ _ _ h => h) (Or.inl ⟨by rfl, ?_⟩) ?_ ?_
       rotate_left
       ·intro w'
        go_simp
        with_reducible rfl
       rotate_left
       ·simp only [Act.put, List.setIfInBounds_toArray, List.set_cons_zero, List.set_cons_succ, i64_w, i32_w]
        rfl
       refine done_ (done_of HT_.out (by kernel_rfl)) ?_
       try go_wp2
       go_roundg k2
       case measure => have := HK1.out; have := HK2.out; omega
       case rel => exact ⟨(x0_2), (wrap64 (x8_1 + 1)), (by first | rfl | (simp; done) | (simp [*]; done)), H', ⟨by have := HK1.out; have := HK2.out; omega⟩, ⟨by (with_reducible repeat (first | apply Kd.R_alloc | apply Kd.R_drewN | apply Kd.R_drew)); exact HO_0.out⟩, ⟨by repeat (first | (with_reducible first | exact HK.out | apply Kept.alloc | apply Kept.drewN | apply Kept.drew) | exact HK.out)⟩, ⟨by repeat (first | (with_reducible first | exact HB.out | apply below_alloc | apply pw_below_drewN | apply below_drew1) | exact HB.out)⟩⟩
     ·rw [if_neg c6] at H
      have c6b0 : decide (a1 < x9_2) = false := decide_eq_false c6
      clear c6
      have H' := Aside0.mk H
      clear H
      try go_wp2
      have n0_ := Aside0.mk (Kd.R_drew HO_0.out)
      have n1_ := Aside0.mk (Kept.drew HK.out)
      have n2_ := Aside0.mk (below_drew1 HB.out)
      clear HO_0
      clear HK
      clear HB
      have HO_0 := n0_
      have HK := n1_
      have HB := n2_
      clear n0_ n1_ n2_
      refine start_ (n := 17) (S := fun w' => True) (ds := []) #[false, false, false, false, false, false, false, false, false, false, false, false, false, false, false, false, false] (by kernel_rfl) rfl rfl trivial (fun hHeld => ?_); refine with_tabW slices_insertionSortCmpFunc_api_Value.tab4 slices_insertionSortCmpFunc_api_Value.bits4 (fun HT_ HW_ => ?_)
      generalize wr.drew = w18 at HO_0 HK HB hHeld ⊢
      refine pure_ (i := 0) (N := some 18) (v := ?_) (a' := ?_) #[true, false, false, false, false, false, false, false, false, false, false, false, false, false, false, false, false] rfl rfl (any_of HT_.out (by kernel_rfl)) (fun _ _ _ h => h) (Or.inl ⟨by rfl, ?_⟩) ?_ ?_
      rotate_left
      ·intro w'
       go_simp
       with_reducible rfl
      rotate_left
      ·simp only [Act.put, List.setIfInBounds_toArray, List.set_cons_zero, List.set_cons_succ, i64_w, i32_w]
       rfl
      refine pure_ (i := 1) (N := some 19) (v := ?_) (a' := ?_) #[true, true, false, false, false, false, false, false, false, false, false, false, false, false, false, false, false] rfl rfl (any_of HT_.out (by kernel_rfl)) (fun _ _ _ h => h) (Or.inl ⟨by rfl, ?_⟩) ?_ ?_
      rotate_left
      ·intro w'
       go_simp
       with_reducible rfl
      rotate_left
      ·simp only [Act.put, List.setIfInBounds_toArray, List.set_cons_zero, List.set_cons_succ, i64_w, i32_w]
       rfl
      refine pure_ (i := 2) (N := some 20) (v := ?_) (a' := ?_) #[true, true, true, false, false, false, false, false, false, false, false, false, false, false, false, false, false] rfl rfl (any_of HT_.out (by kernel_rfl)) (fun _ _ _ h => h) (Or.inl ⟨by rfl, ?_⟩) ?_ ?_
      rotate_left
      ·intro w'
       go_simp
       with_reducible rfl
      rotate_left
      ·simp only [Act.put, List.setIfInBounds_toArray, List.set_cons_zero, List.set_cons_succ, i64_w, i32_w]
       rfl
      refine pure_ (i := 3) (N := some 21) (v := ?_) (a' := ?_) #[true, true, true, true, false, false, false, false, false, false, false, false, false, false, false, false, false] rfl rfl (any_of HT_.out (by kernel_rfl)) (fun _ _ _ h => h) (Or.inl ⟨by rfl, ?_⟩) ?_ ?_
      rotate_left
      ·intro w'
       go_simp
       with_reducible rfl
      rotate_left
      ·simp only [Act.put, List.setIfInBounds_toArray, List.set_cons_zero, List.set_cons_succ, i64_w, i32_w]
       rfl
      refine pure_ (i := 4) (N := some 22) (v := undef) (a' := ?_) #[true, true, true, true, true, false, false, false, false, false, false, false, false, false, false, false, false] rfl rfl (any_of HT_.out (by kernel_rfl)) (fun _ _ _ h => h) (Or.inr ⟨by rfl, rfl⟩) ?_ ?_
      rotate_left
      ·simp only [Act.put, List.setIfInBounds_toArray, List.set_cons_zero, List.set_cons_succ, i64_w, i32_w]
       rfl
      refine pure_ (i := 5) (N := some 23) (v := undef) (a' := ?_) #[true, true, true, true, true, true, false, false, false, false, false, false, false, false, false, false, false] rfl rfl (any_of HT_.out (by kernel_rfl)) (fun _ _ _ h => h) (Or.inr ⟨by rfl, rfl⟩) ?_ ?_
      rotate_left
      ·simp only [Act.put, List.setIfInBounds_toArray, List.set_cons_zero, List.set_cons_succ, i64_w, i32_w]
       rfl
      refine pure_ (i := 6) (N := some 24) (v := undef) (a' := ?_) #[true, true, true, true, true, true, true, false, false, false, false, false, false, false, false, false, false] rfl rfl (any_of HT_.out (by kernel_rfl)) (fun _ _ _ h => h) (Or.inr ⟨by rfl, rfl⟩) ?_ ?_
      rotate_left
      ·simp only [Act.put, List.setIfInBounds_toArray, List.set_cons_zero, List.set_cons_succ, i64_w, i32_w]
       rfl
      refine pure_ (i := 7) (N := some 25) (v := undef) (a' := ?_) #[true, true, true, true, true, true, true, true, false, false, false, false, false, false, false, false, false] rfl rfl (any_of HT_.out (by kernel_rfl)) (fun _ _ _ h => h) (Or.inr ⟨by rfl, rfl⟩) ?_ ?_
      rotate_left
      ·simp only [Act.put, List.setIfInBounds_toArray, List.set_cons_zero, List.set_cons_succ, i64_w, i32_w]
       rfl
      refine pure_ (i := 8) (N := some 26) (v := undef) (a' := ?_) #[true, true, true, true, true, true, true, true, true, false, false, false, false, false, false, false, false] rfl rfl (any_of HT_.out (by kernel_rfl)) (fun _ _ _ h => h) (Or.inr ⟨by rfl, rfl⟩) ?_ ?_
      rotate_left
      ·simp only [Act.put, List.setIfInBounds_toArray, List.set_cons_zero, List.set_cons_succ, i64_w, i32_w]
       rfl
      refine pure_ (i := 9) (N := some 27) (v := undef) (a' := ?_) #[true, true, true, true, true, true, true, true, true, true, false, false, false, false, false, false, false] rfl rfl (any_of HT_.out (by kernel_rfl)) (fun _ _ _ h => h) (Or.inr ⟨by rfl, rfl⟩) ?_ ?_
      rotate_left
      ·simp only [Act.put, List.setIfInBounds_toArray, List.set_cons_zero, List.set_cons_succ, i64_w, i32_w]
       rfl
      refine pure_ (i := 10) (N := some 28) (v := undef) (a' := ?_) #[true, true, true, true, true, true, true, true, true, true, true, false, false, false, false, false, false] rfl rfl (any_of HT_.out (by kernel_rfl)) (fun _ _ _ h => h) (Or.inr ⟨by rfl, rfl⟩) ?_ ?_
      rotate_left
      ·simp only [Act.put, List.setIfInBounds_toArray, List.set_cons_zero, List.set_cons_succ, i64_w, i32_w]
       rfl
      refine pure_ (i := 11) (N := some 29) (v := undef) (a' := ?_) #[true, true, true, true, true, true, true, true, true, true, true, true, false, false, false, false, false] rfl rfl (any_of HT_.out (by kernel_rfl)) (fun _ _ _ h => h) (Or.inr ⟨by rfl, rfl⟩) ?_ ?_
      rotate_left
      ·simp only [Act.put, List.setIfInBounds_toArray, List.set_cons_zero, List.set_cons_succ, i64_w, i32_w]
       rfl
      refine pure_ (i := 12) (N := some 30) (v := undef) (a' := ?_) #[true, true, true, true, true, true, true, true, true, true, true, true, true, false, false, false, false] rfl rfl (any_of HT_.out (by kernel_rfl)) (fun _ _ _ h => h) (Or.inr ⟨by rfl, rfl⟩) ?_ ?_
      rotate_left
      ·simp only [Act.put, List.setIfInBounds_toArray, List.set_cons_zero, List.set_cons_succ, i64_w, i32_w]
       rfl
      refine pure_ (i := 13) (N := some 31) (v := undef) (a' := ?_) #[true, true, true, true, true, true, true, true, true, true, true, true, true, true, false, false, false] rfl rfl (any_of HT_.out (by kernel_rfl)) (fun _ _ _ h => h) (Or.inr ⟨by rfl, rfl⟩) ?_ ?_
      rotate_left
      ·simp only [Act.put, List.setIfInBounds_toArray, List.set_cons_zero, List.set_cons_succ, i64_w, i32_w]
       rfl
      refine pure_ (i := 14) (N := some 32) (v := undef) (a' := ?_) #[true, true, true, true, true, true, true, true, true, true, true, true, true, true, true, false, false] rfl rfl (any_of HT_.out (by kernel_rfl)) (fun _ _ _ h => h) (Or.inr ⟨by rfl, rfl⟩) ?_ ?_
      rotate_left
      ·simp only [Act.put, List.setIfInBounds_toArray, List.set_cons_zero, List.set_cons_succ, i64_w, i32_w]
       rfl
      refine pure_ (i := 15) (N := some 33) (v := undef) (a' := ?_) #[true, true, true, true, true, true, true, true, true, true, true, true, true, true, true, true, false] rfl rfl (any_of HT_.out (by kernel_rfl)) (fun _ _ _ h => h) (Or.inr ⟨by rfl, rfl⟩) ?_ ?_
      rotate_left
      ·simp only [Act.put, List.setIfInBounds_toArray, List.set_cons_zero, List.set_cons_succ, i64_w, i32_w]
       rfl
      refine pure_ (i := 16) (N := some 34) (v := ?_) (a' := ?_) #[true, true, true, true, true, true, true, true, true, true, true, true, true, true, true, true, true] rfl rfl (any_of HT_.out (by kernel_rfl)) (fun _ _ _ h => h) (Or.inl ⟨by rfl, ?_⟩) ?_ ?_
      rotate_left
      ·intro w'
       go_simp
       with_reducible rfl
      rotate_left
      ·simp only [Act.put, List.setIfInBounds_toArray, List.set_cons_zero, List.set_cons_succ, i64_w, i32_w]
       rfl
      refine done_ (done_of HT_.out (by kernel_rfl)) ?_
      try go_wp2
      go_roundg k2
      case measure => have := HK1.out; have := HK2.out; omega
      case rel => exact ⟨(x0_2), (wrap64 (x8_1 + 1)), (by first | rfl | (simp; done) | (simp [*]; done)), H', ⟨by have := HK1.out; have := HK2.out; omega⟩, ⟨by (with_reducible repeat (first | apply Kd.R_alloc | apply Kd.R_drewN | apply Kd.R_drew)); exact HO_0.out⟩, ⟨by repeat (first | (with_reducible first | exact HK.out | apply Kept.alloc | apply Kept.drewN | apply Kept.drew) | exact HK.out)⟩, ⟨by repeat (first | (with_reducible first | exact HB.out | apply below_alloc | apply pw_below_drewN | apply below_drew1) | exact HB.out)⟩⟩
mutual
def slices_pdqsortCmpFunc_api_Value.l0 : Nat → List (S26) → Int → Int → Int → Bool → Option ((List (S26)))
 | 0, _, _, _, _, _ => none
 | k + 1, x0, x1, x2, x3, x10 => if (wrap64 (x2 - x1)) ≤ 12 then ((slices_insertionSortCmpFunc_api_Value.f k x0 x1 x2).bind fun t101 => (some t101)) else (if x3 = 0 then (none) else (if x10 = true then (none) else (none)))
def slices_pdqsortCmpFunc_api_Value.f : Nat → List (S26) → Int → Int → Int → Option ((List (S26)))
 | 0, _, _, _, _ => none
 | k + 1, l0, a1, a2, a3 => slices_pdqsortCmpFunc_api_Value.l0 k l0 a1 a2 a3 true
end
theorem slices_pdqsortCmpFunc_api_Value.mono_l : ∀ k, (∀ y0 y1 y2 y3, LeO (slices_pdqsortCmpFunc_api_Value.f k y0 y1 y2 y3) (slices_pdqsortCmpFunc_api_Value.f (k + 1) y0 y1 y2 y3)) ∧ (∀ y0 y1 y2 y3 y4, LeO (slices_pdqsortCmpFunc_api_Value.l0 k y0 y1 y2 y3 y4) (slices_pdqsortCmpFunc_api_Value.l0 (k + 1) y0 y1 y2 y3 y4))
 | 0 => ⟨fun _ _ _ _ r h => by simp [slices_pdqsortCmpFunc_api_Value.f] at h, fun _ _ _ _ _ r h => by simp [slices_pdqsortCmpFunc_api_Value.l0] at h⟩
 | k + 1 => by
  obtain ⟨ih0, ih1⟩ := slices_pdqsortCmpFunc_api_Value.mono_l k
  refine ⟨?_, ?_⟩
  ·intro y0 y1 y2 y3
   unfold slices_pdqsortCmpFunc_api_Value.f
   repeat' first
   | (with_reducible exact ih0 _ _ _ _)
   | (with_reducible exact ih1 _ _ _ _ _)
   | (with_reducible exact slices_insertionSortCmpFunc_api_Value.mono _ _ _ _)
   | (with_reducible exact LeO.refl _)
   | (with_reducible exact LeO.none _)
   | (with_reducible refine LeO.ite ?_ ?_)
   | (with_reducible refine LeO.bind ?_ (fun _ => ?_))
   | exact ih0 _ _ _ _
   | exact ih1 _ _ _ _ _
   | exact slices_insertionSortCmpFunc_api_Value.mono _ _ _ _
   | exact LeO.none _
   | refine LeO.ite ?_ ?_
   | refine LeO.bind ?_ (fun _ => ?_)
  ·intro y0 y1 y2 y3 y4
   unfold slices_pdqsortCmpFunc_api_Value.l0
   repeat' first
   | (with_reducible exact ih0 _ _ _ _)
   | (with_reducible exact ih1 _ _ _ _ _)
   | (with_reducible exact slices_insertionSortCmpFunc_api_Value.mono _ _ _ _)
   | (with_reducible exact LeO.refl _)
   | (with_reducible exact LeO.none _)
   | (with_reducible refine LeO.ite ?_ ?_)
   | (with_reducible refine LeO.bind ?_ (fun _ => ?_))
   | exact ih0 _ _ _ _
   | exact ih1 _ _ _ _ _
   | exact slices_insertionSortCmpFunc_api_Value.mono _ _ _ _
   | exact LeO.none _
   | refine LeO.ite ?_ ?_
   | refine LeO.bind ?_ (fun _ => ?_)
theorem slices_pdqsortCmpFunc_api_Value.mono : ∀ a0 a1 a2 a3 k, LeO (slices_pdqsortCmpFunc_api_Value.f k a0 a1 a2 a3) (slices_pdqsortCmpFunc_api_Value.f (k + 1) a0 a1 a2 a3) := by
 intro a0 a1 a2 a3 k
 obtain ⟨ih0, ih1⟩ := slices_pdqsortCmpFunc_api_Value.mono_l k
 exact ih0 a0 a1 a2 a3
set_option maxHeartbeats 8000000 in
set_option maxRecDepth 100000 in
theorem slices_pdqsortCmpFunc_api_Value.calls (k : Nat) : ∀ (P0_ : Nat → Prop) (u9000_ : Value) (l0 : List (S26)) (a1 : Int) (a2 : Int) (a3 : Int)  (r : List (S26)) (w0 w : World) (hB : Below w0.heap.size w0 w) (ho0 : Kd.R k26 26 w w0.heap.size P0_ u9000_ l0) (h : slices_pdqsortCmpFunc_api_Value.f k l0 a1 a2 a3 = some r),
  Calls Try.prog 82 #[u9000_, .int .i64 a1, .int .i64 a2, .int .i64 a3, .func (.func 78) #[] #[]] w fun e w' => e = .returned (.tuple #[]) ∧ Kd.R k26 26 w' w0.heap.size (fun k_ => (P0_ k_ ∨ w.heap.size ≤ k_)) u9000_ r ∧ Below w0.heap.size w0 w' ∧ Kept w w' (fun k_ => P0_ k_) := by
 induction k using Nat.strongRecOn with
 | _ k ih =>
 intro P0_ u9000_ l0 a1 a2 a3 r w0 w hB ho0 h
 cases k with
 | zero => exact absurd h (by simp [slices_pdqsortCmpFunc_api_Value.f])
 | succ k =>
 simp only [slices_pdqsortCmpFunc_api_Value.f] at h
 have hu26 := Try.underlying26
 have HO0 := Aside0.mk (show Kd.R k26 26 w w0.heap.size (fun k_ => (P0_ k_ ∨ w.heap.size ≤ k_)) u9000_ l0 from Kd.R_mono ho0 (fun k_ hk => (.inl hk)))
 have HK := Aside0.mk (Kept.refl w (fun k_ => P0_ k_))
 have HW0 := Aside0.mk hB.size
 have HB := Aside0.mk hB
 clear hB
 have H : (slices_pdqsortCmpFunc_api_Value.l0 k l0 a1 a2 a3 true) = some r := h
 clear h
 have H' := Aside0.mk H
 clear H
 go_enter Try.func82, Try.ntmps82
 go_wp2
 go_loopg [1, 2, 3, 10] k (fun kq v1 v2 v3 v10 w' => ∃ (x0_1 : List (S26)) (x1_1 : Int) (x2_1 : Int) (x3_1 : Int) (x10_1 : Bool), v1 = .int .i64 x1_1 ∧ v2 = .int .i64 x2_1 ∧ v3 = .int .i64 x3_1 ∧ v10 = .bool x10_1 ∧ Aside0 (slices_pdqsortCmpFunc_api_Value.l0 kq x0_1 x1_1 x2_1 x3_1 x10_1 = some r) ∧ Aside0 (kq ≤ k) ∧ Aside0 (Kd.R k26 26 w' w0.heap.size (fun k_ => (P0_ k_ ∨ w.heap.size ≤ k_)) u9000_ x0_1) ∧ Aside0 (Kept w w' (fun k_ => P0_ k_)) ∧ Aside0 (Below w0.heap.size w0 w'))
 case atStart => exact ⟨(l0), (a1), (a2), (a3), (true), (by first | rfl | (simp; done) | (simp [*]; done)), (by first | rfl | (simp; done) | (simp [*]; done)), (by first | rfl | (simp; done) | (simp [*]; done)), (by first | rfl | (simp; done) | (simp [*]; done)), H', ⟨Nat.le_refl _⟩, ⟨by (with_reducible repeat (first | apply Kd.R_alloc | apply Kd.R_drewN | apply Kd.R_drew)); exact HO0.out⟩, ⟨by repeat (first | (with_reducible first | exact HK.out | apply Kept.alloc | apply Kept.drewN | apply Kept.drew) | exact HK.out)⟩, ⟨by repeat (first | (with_reducible first | exact HB.out | apply below_alloc | apply pw_below_drewN | apply below_drew1) | exact HB.out)⟩⟩
 case round =>
  clear H'
  try clear p2
  obtain ⟨x0_1, x1_1, x2_1, x3_1, x10_1, rfl, rfl, rfl, rfl, HA, HK1, HO_0, HK, HB⟩ := hrel
  cases gk with
  | zero => exact absurd HA.out (by simp [slices_pdqsortCmpFunc_api_Value.l0])
  | succ k1 =>
   have H := HA.out
   clear HA
   simp only [slices_pdqsortCmpFunc_api_Value.l0] at H
   by_cases c6 : (wrap64 (x2_1 - x1_1)) ≤ 12
   ·rw [if_pos c6] at H
    have c6b0 : decide ((wrap64 (x2_1 - x1_1)) ≤ 12) = true := decide_eq_true c6
    clear c6
    replace H := Option.bind_eq_some_iff.mp H
    obtain ⟨t101, A70, H⟩ := H
    replace H : (some t101) = some r := H
    have A7 := Aside0.mk A70
    clear A70
    obtain rfl := Option.some.inj H
    obtain ⟨Ao8, co8, eo8⟩ := Kd.R_slice HO_0.out
    subst eo8
    go_wp2_with (first | ((with_reducible refine gate_callee (f := 87) rfl ?_); refine goesL_ (some 30) rfl rfl Try.func87 (by kernel_rfl) rfl #[.slice Ao8 x0_1.length co8, .int .i64 x1_1, .int .i64 x2_1, .func (.func 78) #[] #[]] rfl (by (try simp only [List.map_toArray, List.map_cons, List.map_nil]) <;> rfl) ?_; (with_reducible refine (slices_insertionSortCmpFunc_api_Value.calls k1 (fun k_ => some k_ = (.slice Ao8 x0_1.length co8 : Value).ownBlock) (.slice Ao8 x0_1.length co8) x0_1 x1_1 x2_1  t101 w0 _ ?side1 ?side2 A7.out).mono ?_); (case side1 => repeat (first | (with_reducible first | exact HB.out | apply below_alloc | apply pw_below_drewN | apply below_drew1) | exact HB.out)); (case side2 => exact Kd.R_tight rfl HO_0.out); rintro e w9 ⟨rfl, hy0, hb, hkp⟩; refine ⟨_, rfl, ?_⟩; have n0_ := Aside0.mk (Kd.R_reok rfl hy0 (fun k_ e_ => HO_0.out.1 k_ e_)); have n1_ := Aside0.mk (Kept.then_ (S := (fun k_ => P0_ k_)) (by repeat (first | (with_reducible first | exact HK.out | apply Kept.alloc | apply Kept.drewN | apply Kept.drew) | exact HK.out)) hkp (fun k_ hs_ => (fun e_ => (HO_0.out.1 k_ e_.symm)) hs_)); have n2_ := Aside0.mk (hb); clear HO_0 HK HB; revert n0_ n1_ n2_; intro HO_0 HK HB; (try clear hb); (try clear hkp); (try clear hy0)))
    first | go_end0 | ((try simp only [Exit.inBlock, Exit.then]); refine bodyPost_ret (results_none rfl _ _ _) rfl ?_)
    exact ⟨by first | rfl | simp [*], by (with_reducible repeat (first | apply Kd.R_alloc | apply Kd.R_drewN | apply Kd.R_drew)); exact HO_0.out, by repeat (first | (with_reducible first | exact HB.out | apply below_alloc | apply pw_below_drewN | apply below_drew1) | exact HB.out), by repeat (first | (with_reducible first | exact HK.out | apply Kept.alloc | apply Kept.drewN | apply Kept.drew) | exact HK.out)⟩
   ·rw [if_neg c6] at H
    have c6b0 : decide ((wrap64 (x2_1 - x1_1)) ≤ 12) = false := decide_eq_false c6
    clear c6
    by_cases c10 : x3_1 = 0
    rotate_left
    ·rw [if_neg c10] at H
     have c10b0 : (x3_1 == 0) = false := beq_eq_false_iff_ne.mpr c10
     have c10b1 : (x3_1 != 0) = true := bne_iff_ne.mpr c10
     by_cases c11 : x10_1 = true
     ·subst c11
      rw [if_pos rfl] at H
      exact absurd H (by simp)
     ·exact absurd H (by simp [c11])
    rw [if_pos c10] at H
    exact absurd H (by simp)
def slices_SortFunc_api_Value_api_Value.f (k : Nat) (l0 : List (S26))  : Option ((List (S26))) := (bits_Len.f (IntKind.u64.wrap ((l0.length : Int)))).bind fun t101 => ((slices_pdqsortCmpFunc_api_Value.f k l0 0 (l0.length : Int) t101).bind fun t102 => (some t102))
theorem slices_SortFunc_api_Value_api_Value.mono : ∀ a0 k, LeO (slices_SortFunc_api_Value_api_Value.f k a0) (slices_SortFunc_api_Value_api_Value.f (k + 1) a0) := by
 intro a0 k
 unfold slices_SortFunc_api_Value_api_Value.f
 repeat' first
   | (with_reducible exact slices_pdqsortCmpFunc_api_Value.mono _ _ _ _ _)
   | (with_reducible exact LeO.refl _)
   | (with_reducible exact LeO.none _)
   | (with_reducible refine LeO.ite ?_ ?_)
   | (with_reducible refine LeO.bind ?_ (fun _ => ?_))
   | exact slices_pdqsortCmpFunc_api_Value.mono _ _ _ _ _
   | exact LeO.none _
   | refine LeO.ite ?_ ?_
   | refine LeO.bind ?_ (fun _ => ?_)
set_option maxHeartbeats 8000000 in
set_option maxRecDepth 100000 in
theorem slices_SortFunc_api_Value_api_Value.calls (k : Nat) (P0_ : Nat → Prop) (u9000_ : Value) (l0 : List (S26))  (r : List (S26)) (w0 w : World) (hB : Below w0.heap.size w0 w) (ho0 : Kd.R k26 26 w w0.heap.size P0_ u9000_ l0) (h : slices_SortFunc_api_Value_api_Value.f k l0 = some r) :
  Calls Try.prog 77 #[u9000_, .func (.func 78) #[] #[]] w fun e w' => e = .returned (.tuple #[]) ∧ Kd.R k26 26 w' w0.heap.size (fun k_ => (P0_ k_ ∨ w.heap.size ≤ k_)) u9000_ r ∧ Below w0.heap.size w0 w' ∧ Kept w w' (fun k_ => P0_ k_) := by
 have HO0 := Aside0.mk (show Kd.R k26 26 w w0.heap.size (fun k_ => (P0_ k_ ∨ w.heap.size ≤ k_)) u9000_ l0 from Kd.R_mono ho0 (fun k_ hk => (.inl hk)))
 have HK := Aside0.mk (Kept.refl w (fun k_ => P0_ k_))
 have HW0 := Aside0.mk hB.size
 have HB := Aside0.mk hB
 clear hB
 have H : ((bits_Len.f (IntKind.u64.wrap ((l0.length : Int)))).bind fun t101 => ((slices_pdqsortCmpFunc_api_Value.f k l0 0 (l0.length : Int) t101).bind fun t102 => (some t102))) = some r := h
 clear h
 replace H := Option.bind_eq_some_iff.mp H
 obtain ⟨t101, A30, H⟩ := H
 (try dsimp only at H)
 have A3 := Aside0.mk A30
 clear A30
 replace H := Option.bind_eq_some_iff.mp H
 obtain ⟨t102, A40, H⟩ := H
 replace H : (some t102) = some r := H
 have A4 := Aside0.mk A40
 clear A40
 obtain rfl := Option.some.inj H
 obtain ⟨Ao5, co5, eo5⟩ := Kd.R_slice HO0.out
 subst eo5
 go_enter Try.func77, Try.ntmps77
 go_wp2_with (first | ((with_reducible refine gate_callee (f := 83) rfl ?_); refine goesL_ (some 11) rfl rfl Try.func83 (by kernel_rfl) rfl #[.int .u64 (IntKind.u64.wrap ((l0.length : Int)))] rfl (by (try simp only [List.map_toArray, List.map_cons, List.map_nil]) <;> rfl) ?_; (with_reducible refine (bits_Len.calls (IntKind.u64.wrap ((l0.length : Int))) t101 _ A3.out).mono ?_); rintro e w' ⟨rfl, ⟨nd, rfl⟩⟩; refine ⟨_, rfl, ?_⟩) | ((with_reducible refine gate_callee (f := 82) rfl ?_); refine goesL_ (some 13) rfl rfl Try.func82 (by kernel_rfl) rfl #[.slice Ao5 l0.length co5, .int .i64 0, .int .i64 (l0.length : Int), .int .i64 t101, .func (.func 78) #[] #[]] rfl (by (try simp only [List.map_toArray, List.map_cons, List.map_nil]) <;> rfl) ?_; (with_reducible refine (slices_pdqsortCmpFunc_api_Value.calls k (fun k_ => some k_ = (.slice Ao5 l0.length co5 : Value).ownBlock) (.slice Ao5 l0.length co5) l0 0 (l0.length : Int) t101  t102 w0 _ ?side1 ?side2 A4.out).mono ?_); (case side1 => repeat (first | (with_reducible first | exact HB.out | apply below_alloc | apply pw_below_drewN | apply below_drew1) | exact HB.out)); (case side2 => exact Kd.R_tight rfl HO0.out); rintro e w6 ⟨rfl, hy0, hb, hkp⟩; refine ⟨_, rfl, ?_⟩; have n0_ := Aside0.mk (Kd.R_reok rfl hy0 (fun k_ e_ => HO0.out.1 k_ e_)); have n1_ := Aside0.mk (Kept.then_ (S := (fun k_ => P0_ k_)) (by repeat (first | (with_reducible first | exact HK.out | apply Kept.alloc | apply Kept.drewN | apply Kept.drew) | exact HK.out)) hkp (fun k_ hs_ => (fun e_ => (HO0.out.1 k_ e_.symm)) hs_)); have n2_ := Aside0.mk (hb); clear HO0 HK HB; revert n0_ n1_ n2_; intro HO0 HK HB; (try clear hb); (try clear hkp); (try clear hy0)))
 first | go_end0 | ((try simp only [Exit.inBlock, Exit.then]); refine bodyPost_ret (results_none rfl _ _ _) rfl ?_)
 exact ⟨by first | rfl | simp [*], by (with_reducible repeat (first | apply Kd.R_alloc | apply Kd.R_drewN | apply Kd.R_drew)); exact HO0.out, by repeat (first | (with_reducible first | exact HB.out | apply below_alloc | apply pw_below_drewN | apply below_drew1) | exact HB.out), by repeat (first | (with_reducible first | exact HK.out | apply Kept.alloc | apply Kept.drewN | apply Kept.drew) | exact HK.out)⟩
mutual
def page_dict_encode.l0 : Nat → List (S26) → Int → List (S26) → List Int → List (S26) → Int → Int → Option (List Int)
 | 0, _, _, _, _, _, _, _ => none
 | k + 1, x1, x2, x7, x8, x25, x26, x27 => if x27 < x26 then (if 0 ≤ x27 then (if x27 < (x25.length : Int) then ((page_bare.f k x8 ((rd_T26 x25 x27).f0) ((rd_T26 x25 x27).f1) ((rd_T26 x25 x27).f2) x2).bind fun t117 => (page_dict_encode.l0 k x1 x2 x7 t117 x25 x26 (wrap64 (x27 + 1)))) else (none)) else (none)) else (page_dict_encode.l1 k x7 x8 x1 (x1.length : Int) 0)
def page_dict_encode.l1 : Nat → List (S26) → List Int → List (S26) → Int → Int → Option (List Int)
 | 0, _, _, _, _, _ => none
 | k + 1, x7, x8, x36, x37, x38 => if x38 < x37 then (if 0 ≤ x38 then (if x38 < (x36.length : Int) then (if ((rd_T26 x36 x38).f0 = true) then ((wire_U.f k x8 0).bind fun t122 => (page_dict_encode.l1 k x7 t122 x36 x37 (wrap64 (x38 + 1)))) else ((slices_BinarySearchFunc_api_Value_api_Value_api_Value.f k x7 ((rd_T26 x36 x38).f0) ((rd_T26 x36 x38).f1) ((rd_T26 x36 x38).f2)).bind fun bt125 => ((wire_U.f k x8 (IntKind.u64.wrap (wrap64 (bt125.1 + 1)))).bind fun t127 => (page_dict_encode.l1 k x7 t127 x36 x37 (wrap64 (x38 + 1)))))) else (none)) else (none)) else (some x8)
end
def page_dict_encode.f (k : Nat)  (l1 : List (S26)) (a2 : Int) : Option (List Int) := (slices_Clone_api_Value_api_Value.f l1).bind fun t102 => ((slices_DeleteFunc_api_Value_api_Value.f t102).bind fun t105 => ((slices_SortFunc_api_Value_api_Value.f k t105).bind fun t108 => ((slices_Compact_api_Value_api_Value.f t108).bind fun t109 => ((wire_U.f k ([] : List Int) (IntKind.u64.wrap ((t109.length : Int)))).bind fun t112 => (page_dict_encode.l0 k l1 a2 t109 t112 t109 (t109.length : Int) 0)))))
theorem page_dict_encode.mono_l : ∀ k, (∀ y0 y1 y2 y3 y4 y5 y6, LeO (page_dict_encode.l0 k y0 y1 y2 y3 y4 y5 y6) (page_dict_encode.l0 (k + 1) y0 y1 y2 y3 y4 y5 y6)) ∧ (∀ y0 y1 y2 y3 y4, LeO (page_dict_encode.l1 k y0 y1 y2 y3 y4) (page_dict_encode.l1 (k + 1) y0 y1 y2 y3 y4))
 | 0 => ⟨fun _ _ _ _ _ _ _ r h => by simp [page_dict_encode.l0] at h, fun _ _ _ _ _ r h => by simp [page_dict_encode.l1] at h⟩
 | k + 1 => by
  obtain ⟨ih0, ih1⟩ := page_dict_encode.mono_l k
  refine ⟨?_, ?_⟩
  ·intro y0 y1 y2 y3 y4 y5 y6
   unfold page_dict_encode.l0
   repeat' first
   | (with_reducible exact ih0 _ _ _ _ _ _ _)
   | (with_reducible exact ih1 _ _ _ _ _)
   | (with_reducible exact page_bare.mono _ _ _ _ _ _)
   | (with_reducible exact slices_BinarySearchFunc_api_Value_api_Value_api_Value.mono _ _ _ _ _)
   | (with_reducible exact slices_SortFunc_api_Value_api_Value.mono _ _)
   | (with_reducible exact wire_U.mono _ _ _)
   | (with_reducible exact LeO.refl _)
   | (with_reducible exact LeO.none _)
   | (with_reducible refine LeO.ite ?_ ?_)
   | (with_reducible refine LeO.bind ?_ (fun _ => ?_))
   | exact ih0 _ _ _ _ _ _ _
   | exact ih1 _ _ _ _ _
   | exact page_bare.mono _ _ _ _ _ _
   | exact slices_BinarySearchFunc_api_Value_api_Value_api_Value.mono _ _ _ _ _
   | exact slices_SortFunc_api_Value_api_Value.mono _ _
   | exact wire_U.mono _ _ _
   | exact LeO.none _
   | refine LeO.ite ?_ ?_
   | refine LeO.bind ?_ (fun _ => ?_)
  ·intro y0 y1 y2 y3 y4
   unfold page_dict_encode.l1
   repeat' first
   | (with_reducible exact ih0 _ _ _ _ _ _ _)
   | (with_reducible exact ih1 _ _ _ _ _)
   | (with_reducible exact page_bare.mono _ _ _ _ _ _)
   | (with_reducible exact slices_BinarySearchFunc_api_Value_api_Value_api_Value.mono _ _ _ _ _)
   | (with_reducible exact slices_SortFunc_api_Value_api_Value.mono _ _)
   | (with_reducible exact wire_U.mono _ _ _)
   | (with_reducible exact LeO.refl _)
   | (with_reducible exact LeO.none _)
   | (with_reducible refine LeO.ite ?_ ?_)
   | (with_reducible refine LeO.bind ?_ (fun _ => ?_))
   | exact ih0 _ _ _ _ _ _ _
   | exact ih1 _ _ _ _ _
   | exact page_bare.mono _ _ _ _ _ _
   | exact slices_BinarySearchFunc_api_Value_api_Value_api_Value.mono _ _ _ _ _
   | exact slices_SortFunc_api_Value_api_Value.mono _ _
   | exact wire_U.mono _ _ _
   | exact LeO.none _
   | refine LeO.ite ?_ ?_
   | refine LeO.bind ?_ (fun _ => ?_)
theorem page_dict_encode.mono : ∀ a0 a1 k, LeO (page_dict_encode.f k a0 a1) (page_dict_encode.f (k + 1) a0 a1) := by
 intro a0 a1 k
 obtain ⟨ih0, ih1⟩ := page_dict_encode.mono_l k
 unfold page_dict_encode.f
 repeat' first
   | (with_reducible exact ih0 _ _ _ _ _ _ _)
   | (with_reducible exact ih1 _ _ _ _ _)
   | (with_reducible exact page_bare.mono _ _ _ _ _ _)
   | (with_reducible exact slices_BinarySearchFunc_api_Value_api_Value_api_Value.mono _ _ _ _ _)
   | (with_reducible exact slices_SortFunc_api_Value_api_Value.mono _ _)
   | (with_reducible exact wire_U.mono _ _ _)
   | (with_reducible exact LeO.refl _)
   | (with_reducible exact LeO.none _)
   | (with_reducible refine LeO.ite ?_ ?_)
   | (with_reducible refine LeO.bind ?_ (fun _ => ?_))
   | exact ih0 _ _ _ _ _ _ _
   | exact ih1 _ _ _ _ _
   | exact page_bare.mono _ _ _ _ _ _
   | exact slices_BinarySearchFunc_api_Value_api_Value_api_Value.mono _ _ _ _ _
   | exact slices_SortFunc_api_Value_api_Value.mono _ _
   | exact wire_U.mono _ _ _
   | exact LeO.none _
   | refine LeO.ite ?_ ?_
   | refine LeO.bind ?_ (fun _ => ?_)
set_option maxHeartbeats 8000000 in
set_option maxRecDepth 100000 in
theorem page_dict_encode.calls (k : Nat)  (A1 : Option Addr) (c1 : Nat) (l1 : List (S26)) (a2 : Int) (r : List Int) (w : World) (hr1 : Kd.C k26 w A1 l1.length l1) (hc1 : l1.length ≤ c1) (h : page_dict_encode.f k l1 a2 = some r) :
  Calls Try.prog 72 #[.agg #[], .slice A1 l1.length c1, .int .i64 a2] w fun e w' => ∃ v0_ : Value, e = .returned (v0_) ∧ Kd.R (Kd.int .u8) 5 w' w.heap.size (fun _ => True) v0_ r ∧ Below w.heap.size w w' := by
 have hu78 := Try.underlying78
 have hu26 := Try.underlying26
 have HR1 := Aside0.mk hr1
 have HC1 := Aside0.mk hc1
 clear hr1 hc1
 have HB := Aside0.mk (Below.refl w.heap.size w)
 have H : ((slices_Clone_api_Value_api_Value.f l1).bind fun t102 => ((slices_DeleteFunc_api_Value_api_Value.f t102).bind fun t105 => ((slices_SortFunc_api_Value_api_Value.f k t105).bind fun t108 => ((slices_Compact_api_Value_api_Value.f t108).bind fun t109 => ((wire_U.f k ([] : List Int) (IntKind.u64.wrap ((t109.length : Int)))).bind fun t112 => (page_dict_encode.l0 k l1 a2 t109 t112 t109 (t109.length : Int) 0)))))) = some r := h
 clear h
 replace H := Option.bind_eq_some_iff.mp H
 obtain ⟨t102, A40, H⟩ := H
 (try dsimp only at H)
 have A4 := Aside0.mk A40
 clear A40
 replace H := Option.bind_eq_some_iff.mp H
 obtain ⟨t105, A50, H⟩ := H
 (try dsimp only at H)
 have A5 := Aside0.mk A50
 clear A50
 replace H := Option.bind_eq_some_iff.mp H
 obtain ⟨t108, A60, H⟩ := H
 (try dsimp only at H)
 have A6 := Aside0.mk A60
 clear A60
 replace H := Option.bind_eq_some_iff.mp H
 obtain ⟨t109, A70, H⟩ := H
 (try dsimp only at H)
 have A7 := Aside0.mk A70
 clear A70
 replace H := Option.bind_eq_some_iff.mp H
 obtain ⟨t112, A80, H⟩ := H
 (try dsimp only at H)
 have A8 := Aside0.mk A80
 clear A80
 have H' := Aside0.mk H
 clear H
 go_enter Try.func72, Try.ntmps72
 go_wp2_with (first | ((with_reducible refine gate_dst (N := 3) rfl ?_); refine box_event ?hg (N := 3) ?hd (cs := #[]) (t := 78) ?hr ?_; (case hd => rfl); (case hg => rfl); (case hr => first | (go_simp; done) | (go_simp; rfl)); intro gb101 hg w9 hbox hb; have n0_ := Aside0.mk (below_step (xW HB.out) hb); have n1_ := Aside0.mk (hbox); have n3_ := Aside0.mk ((by rw [hg]; exact (below_size (xW HB.out)) : w.heap.size ≤ gb101)); clear HB; revert n0_ n1_ n3_; intro HB BK101 GE101; clear hb hbox hg) | ((with_reducible refine gate_callee (f := 75) rfl ?_); refine goesL_ (some 15) rfl rfl Try.func75 (by kernel_rfl) rfl #[.slice A1 l1.length c1] rfl (by (try simp only [List.map_toArray, List.map_cons, List.map_nil]) <;> rfl) ?_; (with_reducible refine (slices_Clone_api_Value_api_Value.calls _ _ l1 t102 _ ?side1 ?side2 A4.out).mono ?_); (case side1 => exact xC (Kd.C_below HR1.out HB.out)); (case side2 => exact HC1.out); rintro e w10 ⟨v103, rfl, ho0, hb⟩; refine ⟨_, rfl, ?_⟩; have n0_ := Aside0.mk (Kd.R_lower ho0 (below_size (xS HB.out (ge GE101.out g0)))); have n1_ := Aside0.mk (blk_below (xB BK101.out) hb); have n2_ := Aside0.mk (below_step (xS HB.out (ge GE101.out g0)) hb); clear BK101 HB; revert n0_ n1_ n2_; intro HO104 BK101 HB; (try clear hb); (try clear ho0); obtain ⟨Ao11, co11, eo11⟩ := Kd.R_slice HO104.out; subst eo11) | ((with_reducible refine gate_callee (f := 74) rfl ?_); refine goesL_ (some 16) rfl rfl Try.func74 (by kernel_rfl) rfl #[.slice Ao11 t102.length co11, .func (.func 76) #[] #[]] rfl (by (try simp only [List.map_toArray, List.map_cons, List.map_nil]) <;> rfl) ?_; (with_reducible refine (slices_DeleteFunc_api_Value_api_Value.calls (fun k_ => some k_ = (.slice Ao11 t102.length co11 : Value).ownBlock) (.slice Ao11 t102.length co11) t102  t105 w _ ?side1 ?side2 A5.out).mono ?_); (case side1 => repeat (first | (with_reducible first | exact HB.out | apply below_alloc | apply pw_below_drewN | apply below_drew1 | refine below_set ?_ GE101.out) | exact HB.out)); (case side2 => exact Kd.R_tight rfl HO104.out); rintro e w12 ⟨v106, rfl, ho0, hb, hkp⟩; refine ⟨_, rfl, ?_⟩; have n0_ := Aside0.mk (blk_kept (xB BK101.out) hkp (fun hs_ => (fun e_ => (Kd.R_ne HO104.out BK101.out (by decide)) e_) hs_)); have n1_ := Aside0.mk (Kd.R_mono (ok' := fun k_ => True) ho0 (fun k_ hk_ => trivial)); have n2_ := Aside0.mk (hb); clear BK101 HB HO104; revert n0_ n1_ n2_; intro BK101 HO107 HB; (try clear hb); (try clear hkp); (try clear ho0); obtain ⟨Ao13, co13, eo13⟩ := Kd.R_slice HO107.out; subst eo13) | ((with_reducible refine gate_callee (f := 77) rfl ?_); refine goesL_ (some 18) rfl rfl Try.func77 (by kernel_rfl) rfl #[.slice Ao13 t105.length co13, .func (.func 78) #[] #[]] rfl (by (try simp only [List.map_toArray, List.map_cons, List.map_nil]) <;> rfl) ?_; (with_reducible refine (slices_SortFunc_api_Value_api_Value.calls k (fun k_ => some k_ = (.slice Ao13 t105.length co13 : Value).ownBlock) (.slice Ao13 t105.length co13) t105  t108 w _ ?side1 ?side2 A6.out).mono ?_); (case side1 => repeat (first | (with_reducible first | exact HB.out | apply below_alloc | apply pw_below_drewN | apply below_drew1 | refine below_set ?_ GE101.out) | exact HB.out)); (case side2 => exact Kd.R_tight rfl HO107.out); rintro e w14 ⟨rfl, hy0, hb, hkp⟩; refine ⟨_, rfl, ?_⟩; have n0_ := Aside0.mk (blk_kept (xB BK101.out) hkp (fun hs_ => (fun e_ => (Kd.R_ne HO107.out BK101.out (by decide)) e_) hs_)); have n1_ := Aside0.mk (Kd.R_reok rfl hy0 (fun k_ e_ => HO107.out.1 k_ e_)); have n2_ := Aside0.mk (hb); clear BK101 HO107 HB; revert n0_ n1_ n2_; intro BK101 HO107 HB; (try clear hb); (try clear hkp); (try clear hy0)) | ((with_reducible refine gate_callee (f := 79) rfl ?_); refine goesL_ (some 20) rfl rfl Try.func79 (by kernel_rfl) rfl #[.slice Ao13 t105.length co13] rfl (by (try simp only [List.map_toArray, List.map_cons, List.map_nil]) <;> rfl) ?_; (with_reducible refine (slices_Compact_api_Value_api_Value.calls (fun k_ => some k_ = (.slice Ao13 t105.length co13 : Value).ownBlock) (.slice Ao13 t105.length co13) t108 t109 w _ ?side1 ?side2 A7.out).mono ?_); (case side1 => repeat (first | (with_reducible first | exact HB.out | apply below_alloc | apply pw_below_drewN | apply below_drew1 | refine below_set ?_ GE101.out) | exact HB.out)); (case side2 => exact Kd.R_tight rfl HO107.out); rintro e w15 ⟨v110, rfl, ho0, hb, hkp⟩; refine ⟨_, rfl, ?_⟩; have n0_ := Aside0.mk (blk_kept (xB BK101.out) hkp (fun hs_ => (fun e_ => (Kd.R_ne HO107.out BK101.out (by decide)) e_) hs_)); have n1_ := Aside0.mk (Kd.R_mono (ok' := fun k_ => True) ho0 (fun k_ hk_ => trivial)); have n2_ := Aside0.mk (hb); clear BK101 HB HO107; revert n0_ n1_ n2_; intro BK101 HO111 HB; (try clear hb); (try clear hkp); (try clear ho0); obtain ⟨Ao16, co16, eo16⟩ := Kd.R_slice HO111.out; subst eo16) | ((with_reducible refine gate_callee (f := 35) rfl ?_); refine goesL_ (some 24) rfl rfl Try.func35 (by kernel_rfl) rfl #[.slice none 0 0, .int .u64 (IntKind.u64.wrap ((t109.length : Int)))] rfl (by (try simp only [List.map_toArray, List.map_cons, List.map_nil]) <;> rfl) ?_; (refine (wire_U.calls k _ _ ([] : List Int) (IntKind.u64.wrap ((t109.length : Int))) t112 _ ?side1 ?side2 A8.out).mono ?_); (case side1 => exact Kd.C_nil _ _); (case side2 => exact Nat.le_refl _); rintro e w17 ⟨v113, rfl, ho0, hb⟩; refine ⟨_, rfl, ?_⟩; have n0_ := Aside0.mk (Kd.R_below (xR HO111.out) hb); have n1_ := Aside0.mk (Kd.R_lower ho0 (below_size (xS HB.out (ge GE101.out g0)))); have n2_ := Aside0.mk (blk_below (xB BK101.out) hb); have n3_ := Aside0.mk (below_step (xS HB.out (ge GE101.out g0)) hb); clear HO111 BK101 HB; revert n0_ n1_ n2_ n3_; intro HO111 HO114 BK101 HB; (try clear hb); (try clear ho0)))
 go_loopg [8, 27] k (fun kq v8 v27 w' => ∃ (x8_1 : List Int) (x27_1 : Int), v27 = .int .i64 x27_1 ∧ Aside0 (page_dict_encode.l0 kq l1 a2 t109 x8_1 t109 (t109.length : Int) x27_1 = some r) ∧ Aside0 (kq ≤ k) ∧ Aside0 (Kd.R k26 26 w' w.heap.size (fun _ => True) (.slice Ao16 t109.length co16) t109) ∧ Aside0 (Kd.R (Kd.int .u8) 5 w' w.heap.size (fun _ => True) v8 x8_1) ∧ Aside0 (Kd.R k26 26 w' w.heap.size (fun _ => True) (.slice Ao16 t109.length co16) t109) ∧ Aside0 (w'.heap[gb101]? = some (.cells #[] 78 (0, 0))) ∧ Aside0 (Below w.heap.size w w'))
 case atStart => exact ⟨(t112), (0), (by first | rfl | (simp; done) | (simp [*]; done)), H', ⟨Nat.le_refl _⟩, ⟨by (with_reducible repeat (first | apply Kd.R_alloc | apply Kd.R_drewN | apply Kd.R_drew)); exact HO111.out⟩, ⟨by (with_reducible repeat (first | apply Kd.R_alloc | apply Kd.R_drewN | apply Kd.R_drew)); exact HO114.out⟩, ⟨by (with_reducible repeat (first | apply Kd.R_alloc | apply Kd.R_drewN | apply Kd.R_drew)); exact HO111.out⟩, ⟨by (with_reducible repeat (first | refine blk_drewN ?_ _ | refine blk_drew ?_ | refine blk_alloc ?_ _)); exact BK101.out⟩, ⟨by repeat (first | (with_reducible first | exact HB.out | apply below_alloc | apply pw_below_drewN | apply below_drew1 | refine below_set ?_ GE101.out) | exact HB.out)⟩⟩
 case round =>
  clear H'
  try clear c1
  try clear p2
  try clear c3
  try clear c7
  obtain ⟨x8_1, x27_1, rfl, HA, HK1, HO_7, HO_8, HO_25, BK101, HB⟩ := hrel
  cases gk with
  | zero => exact absurd HA.out (by simp [page_dict_encode.l0])
  | succ k1 =>
   have H := HA.out
   clear HA
   simp only [page_dict_encode.l0] at H
   by_cases c18 : x27_1 < (t109.length : Int)
   ·rw [if_pos c18] at H
    have c18b0 : decide (x27_1 < (t109.length : Int)) = true := decide_eq_true c18
    clear c18
    by_cases c19 : 0 ≤ x27_1
    rotate_left
    ·rw [if_neg c19] at H
     exact absurd H (by simp)
    rw [if_pos c19] at H
    have c19b0 : decide (0 ≤ x27_1) = true := decide_eq_true c19
    clear c19
    by_cases c20 : x27_1 < (t109.length : Int)
    rotate_left
    ·rw [if_neg c20] at H
     exact absurd H (by simp)
    rw [if_pos c20] at H
    have c20b0 : decide (x27_1 < (t109.length : Int)) = true := decide_eq_true c20
    clear c20
    replace H := Option.bind_eq_some_iff.mp H
    obtain ⟨t117, A210, H⟩ := H
    (try dsimp only at H)
    have A21 := Aside0.mk A210
    clear A210
    have H' := Aside0.mk H
    clear H
    have p115 : 0 ≤ (x27_1 : Int) := of_decide_eq_true (by first | (with_reducible assumption) | assumption)
    have q115 : x27_1 < (t109.length : Int) := of_decide_eq_true (by first | (with_reducible assumption) | assumption)
    obtain ⟨ad115, e115, hx115_0, hx115_1, hx115_2⟩ := at_T26 (Kd.R_reads' HO_25.out).2.2 x27_1 p115 q115
    cases e115
    replace p115 := eq_true p115
    replace q115 := eq_true q115
    go_wp2_with (first | ((with_reducible refine gate_dst (N := 10) rfl ?_); refine box_event ?hg (N := 10) ?hd (cs := #[.bool false, .int .i64 0, .string (⟨#[]⟩ : ByteArray)]) (t := 26) ?hr ?_; (case hd => rfl); (case hg => rfl); (case hr => first | (go_simp; done) | (go_simp; rfl)); intro gb116 hg w22 hbox hb; have n0_ := Aside0.mk (Kd.R_below (Kd.R_elderB (xR HO_7.out) gb116 (Nat.le_of_eq hg.symm)) hb); have n1_ := Aside0.mk (Kd.R_below (xR HO_8.out) hb); have n2_ := Aside0.mk (Kd.R_below (Kd.R_elderB (xR HO_25.out) gb116 (Nat.le_of_eq hg.symm)) hb); have n3_ := Aside0.mk (blk_below (xB BK101.out) hb); have n4_ := Aside0.mk (below_step (xS HB.out (ge GE101.out g0)) hb); have n5_ := Aside0.mk (hbox); have n7_ := Aside0.mk ((by rw [hg]; exact (below_size (xS HB.out (ge GE101.out g0))) : w.heap.size ≤ gb116)); have n8_ := Aside0.mk ((by rw [hg]; exact Nat.ne_of_lt (blk_lt (xB BK101.out)) : gb101 ≠ gb116)); have n9_ := Aside0.mk ((by rw [hg]; exact Nat.ne_of_gt (blk_lt (xB BK101.out)) : gb116 ≠ gb101)); clear HO_7 HO_8 HO_25 BK101 HB; revert n0_ n1_ n2_ n3_ n4_ n5_ n7_ n8_ n9_; intro HO_7 HO_8 HO_25 BK101 HB BK116 GE116 NB101_116 NB116_101; clear hb hbox hg; have hnb23 := NB116_101.out; have hnc23 := NB101_116.out; have hcz24_0 : w22.cell? ⟨gb116, 0, none⟩ = some (.bool false) := (blk_cell BK116.out 0).trans rfl; have hcz24_1 : w22.cell? ⟨gb116, 1, none⟩ = some (.int .i64 0) := (blk_cell BK116.out 1).trans rfl; have hcz24_2 : w22.cell? ⟨gb116, 2, none⟩ = some (.string (⟨#[]⟩ : ByteArray)) := (blk_cell BK116.out 2).trans rfl; have hfz24_0 := blk_frozen BK116.out 0; have hfz24_1 := blk_frozen BK116.out 1; have hfz24_2 := blk_frozen BK116.out 2; obtain ⟨Ao25, co25, eo25⟩ := Kd.R_slice HO_8.out; subst eo25) | ((with_reducible refine gate_callee (f := 64) rfl ?_); refine goesL_ (some 34) rfl rfl Try.func64 (by kernel_rfl) rfl #[.slice Ao25 x8_1.length co25, .agg #[.bool ((rd_T26 t109 x27_1).f0), .int .i64 ((rd_T26 t109 x27_1).f1), .string ((rd_T26 t109 x27_1).f2)], .int .i64 a2] rfl (by (try simp only [List.map_toArray, List.map_cons, List.map_nil]) <;> rfl) ?_; (with_reducible refine (page_bare.calls k1 _ _ x8_1 ((rd_T26 t109 x27_1).f0) ((rd_T26 t109 x27_1).f1) ((rd_T26 t109 x27_1).f2) a2 t117 _ ?side1 ?side2 A21.out).mono ?_); (case side1 => refine (Kd.R_reads' (e := 5) (base := w.heap.size) (ok := fun k_ => True) (n := x8_1.length) (c := co25) ?_).2.2; exact (xT HO_8.out BK116.out (by decide))); (case side2 => exact (Kd.R_reads' HO_8.out).2.1); rintro e w26 ⟨v118, rfl, ho0, hb⟩; refine ⟨_, rfl, ?_⟩; have n0_ := Aside0.mk (Kd.R_below (xR (Kd.R_mono (Kd.R_far (p := ⟨gb116, 2, none⟩) (Kd.R_far (p := ⟨gb116, 1, none⟩) (Kd.R_far (p := ⟨gb116, 0, none⟩) (Kd.R_mono HO_7.out (fun k_ hk => (⟨hk, hk.2⟩ : _ ∧ k_ ≠ gb116))) (fun _ hk => hk.2) (.bool ((rd_T26 t109 x27_1).f0))) (fun _ hk => hk.2) (.int .i64 ((rd_T26 t109 x27_1).f1))) (fun _ hk => hk.2) (.string ((rd_T26 t109 x27_1).f2))) (fun _ h_ => h_.1))) hb); have n2_ := Aside0.mk (Kd.R_below (xR (Kd.R_mono (Kd.R_far (p := ⟨gb116, 2, none⟩) (Kd.R_far (p := ⟨gb116, 1, none⟩) (Kd.R_far (p := ⟨gb116, 0, none⟩) (Kd.R_mono HO_25.out (fun k_ hk => (⟨hk, hk.2⟩ : _ ∧ k_ ≠ gb116))) (fun _ hk => hk.2) (.bool ((rd_T26 t109 x27_1).f0))) (fun _ hk => hk.2) (.int .i64 ((rd_T26 t109 x27_1).f1))) (fun _ hk => hk.2) (.string ((rd_T26 t109 x27_1).f2))) (fun _ h_ => h_.1))) hb); have n3_ := Aside0.mk (Kd.R_lower (Kd.R_new' ho0 (Kd.R_lt (xT HO_8.out BK116.out (by decide)))) (below_size (xS HB.out (ge GE101.out (ge GE116.out g0))))); have n4_ := Aside0.mk (blk_below (xF BK101.out (ge NB101_116.out g0)) hb); have n6_ := Aside0.mk (below_step (xS HB.out (ge GE101.out (ge GE116.out g0))) hb); clear HO_7 HO_8 HO_25 BK101 BK116 HB; revert n0_ n2_ n3_ n4_ n6_; intro HO_7 HO_25 HO119 BK101 HB; (try clear hb); (try clear hk); (try clear ho0)))
    go_roundg k1
    case measure => have := HK1.out; omega
    case rel => exact ⟨(t117), (wrap64 (x27_1 + 1)), (by first | rfl | (simp; done) | (simp [*]; done)), H', ⟨by have := HK1.out; omega⟩, ⟨by (with_reducible repeat (first | apply Kd.R_alloc | apply Kd.R_drewN | apply Kd.R_drew)); exact Kd.R_mono HO_7.out (fun _ hk => trivial)⟩, ⟨by (with_reducible repeat (first | apply Kd.R_alloc | apply Kd.R_drewN | apply Kd.R_drew)); exact Kd.R_mono HO119.out (fun _ hk => trivial)⟩, ⟨by (with_reducible repeat (first | apply Kd.R_alloc | apply Kd.R_drewN | apply Kd.R_drew)); exact Kd.R_mono HO_25.out (fun _ hk => trivial)⟩, ⟨by (with_reducible repeat (first | refine blk_drewN ?_ _ | refine blk_drew ?_ | refine blk_alloc ?_ _)); exact BK101.out⟩, ⟨by repeat (first | (with_reducible first | exact HB.out | apply below_alloc | apply pw_below_drewN | apply below_drew1 | refine below_set ?_ GE101.out | refine below_set ?_ GE116.out) | exact HB.out)⟩⟩
   ·rw [if_neg c18] at H
    have c18b0 : decide (x27_1 < (t109.length : Int)) = false := decide_eq_false c18
    clear c18
    have H' := Aside0.mk H
    clear H
    go_wp2
    go_loopg [8, 38] k1 (fun kq v8 v38 w' => ∃ (x8_2 : List Int) (x38_2 : Int), v38 = .int .i64 x38_2 ∧ Aside0 (page_dict_encode.l1 kq t109 x8_2 l1 (l1.length : Int) x38_2 = some r) ∧ Aside0 (kq ≤ k1) ∧ Aside0 (Kd.R k26 26 w' w.heap.size (fun _ => True) (.slice Ao16 t109.length co16) t109) ∧ Aside0 (Kd.R (Kd.int .u8) 5 w' w.heap.size (fun _ => True) v8 x8_2) ∧ Aside0 (w'.heap[gb101]? = some (.cells #[] 78 (0, 0))) ∧ Aside0 (Below w.heap.size w w'))
    case atStart => exact ⟨(x8_1), (0), (by first | rfl | (simp; done) | (simp [*]; done)), H', ⟨Nat.le_refl _⟩, ⟨by (with_reducible repeat (first | apply Kd.R_alloc | apply Kd.R_drewN | apply Kd.R_drew)); exact HO_7.out⟩, ⟨by (with_reducible repeat (first | apply Kd.R_alloc | apply Kd.R_drewN | apply Kd.R_drew)); exact HO_8.out⟩, ⟨by (with_reducible repeat (first | refine blk_drewN ?_ _ | refine blk_drew ?_ | refine blk_alloc ?_ _)); exact BK101.out⟩, ⟨by repeat (first | (with_reducible first | exact HB.out | apply below_alloc | apply pw_below_drewN | apply below_drew1 | refine below_set ?_ GE101.out) | exact HB.out)⟩⟩
    case round =>
     clear H'
     try clear c1
     try clear p1
     try clear q1
     try clear hx1
     try clear c2
     try clear p2
     try clear c3
     try clear c6
     try clear p6
     try clear c7
     try clear p11
     try clear q11
     try clear hx11
     try clear c18
     try clear c18b0
     try clear c19
     try clear c19b0
     try clear c20
     try clear c20b0
     try clear c23
     try clear hcz24_0
     try clear hcz24_1
     try clear hcz24_2
     try clear hfz24_0
     try clear hfz24_1
     try clear hfz24_2
     try clear hx115_0
     try clear hx115_1
     try clear hx115_2
     try clear p115
     try clear p2
     try clear q115
     obtain ⟨x8_2, x38_2, rfl, HA, HK2, HO_7, HO_8, BK101, HB⟩ := hrel
     cases gk with
     | zero => exact absurd HA.out (by simp [page_dict_encode.l1])
     | succ k2 =>
      have H := HA.out
      clear HA
      simp only [page_dict_encode.l1] at H
      by_cases c27 : x38_2 < (l1.length : Int)
      rotate_left
      ·rw [if_neg c27] at H
       have c27b0 : decide (x38_2 < (l1.length : Int)) = false := decide_eq_false c27
       clear c27
       obtain rfl := Option.some.inj H
       go_wp2
       go_ret
       exact ⟨_, by first | rfl | simp [*], by (with_reducible repeat (first | apply Kd.R_alloc | apply Kd.R_drewN | apply Kd.R_drew)); exact HO_8.out, by repeat (first | (with_reducible first | exact HB.out | apply below_alloc | apply pw_below_drewN | apply below_drew1 | refine below_set ?_ GE101.out) | exact HB.out)⟩
      rw [if_pos c27] at H
      have c27b0 : decide (x38_2 < (l1.length : Int)) = true := decide_eq_true c27
      clear c27
      by_cases c28 : 0 ≤ x38_2
      rotate_left
      ·rw [if_neg c28] at H
       exact absurd H (by simp)
      rw [if_pos c28] at H
      have c28b0 : decide (0 ≤ x38_2) = true := decide_eq_true c28
      clear c28
      by_cases c29 : x38_2 < (l1.length : Int)
      rotate_left
      ·rw [if_neg c29] at H
       exact absurd H (by simp)
      rw [if_pos c29] at H
      have c29b0 : decide (x38_2 < (l1.length : Int)) = true := decide_eq_true c29
      clear c29
      obtain ⟨bq30, hbq30⟩ : ∃ b_ : Bool, b_ = ((rd_T26 l1 x38_2).f0) := ⟨_, rfl⟩
      replace H : (if (bq30 = true) then ((wire_U.f k2 x8_2 0).bind fun t122 => (page_dict_encode.l1 k2 t109 t122 l1 (l1.length : Int) (wrap64 (x38_2 + 1)))) else ((slices_BinarySearchFunc_api_Value_api_Value_api_Value.f k2 t109 (bq30) ((rd_T26 l1 x38_2).f1) ((rd_T26 l1 x38_2).f2)).bind fun bt125 => ((wire_U.f k2 x8_2 (IntKind.u64.wrap (wrap64 (bt125.1 + 1)))).bind fun t127 => (page_dict_encode.l1 k2 t109 t127 l1 (l1.length : Int) (wrap64 (x38_2 + 1)))))) = some r := by rw [← hbq30] at H; exact H
      have Nbq30 := Aside0.mk hbq30
      clear hbq30
      by_cases c31 : (bq30 = true)
      ·subst c31
       rw [if_pos rfl] at H
       replace H := Option.bind_eq_some_iff.mp H
       obtain ⟨t122, A320, H⟩ := H
       (try dsimp only at H)
       have A32 := Aside0.mk A320
       clear A320
       have H' := Aside0.mk H
       clear H
       have p120 : 0 ≤ (x38_2 : Int) := of_decide_eq_true (by first | (with_reducible assumption) | assumption)
       have q120 : x38_2 < (l1.length : Int) := of_decide_eq_true (by first | (with_reducible assumption) | assumption)
       obtain ⟨ad120, e120, hx120_0, hx120_1, hx120_2⟩ := at_T26 HR1.out x38_2 p120 q120
       (try rw [← Nbq30.out] at hx120_0)
       cases e120
       replace hx120_0 := (HB.out.cell (World.block_lt_of_cell? w _ hx120_0)).trans hx120_0
       replace hx120_1 := (HB.out.cell (World.block_lt_of_cell? w _ hx120_1)).trans hx120_1
       replace hx120_2 := (HB.out.cell (World.block_lt_of_cell? w _ hx120_2)).trans hx120_2
       replace p120 := eq_true p120
       replace q120 := eq_true q120
       go_wp2_with (first | ((with_reducible refine gate_dst (N := 12) rfl ?_); refine box_event ?hg (N := 12) ?hd (cs := #[.bool false, .int .i64 0, .string (⟨#[]⟩ : ByteArray)]) (t := 26) ?hr ?_; (case hd => rfl); (case hg => rfl); (case hr => first | (go_simp; done) | (go_simp; rfl)); intro gb121 hg w33 hbox hb; have n0_ := Aside0.mk (Kd.R_below (Kd.R_elderB (xR HO_7.out) gb121 (Nat.le_of_eq hg.symm)) hb); have n1_ := Aside0.mk (Kd.R_below (xR HO_8.out) hb); have n2_ := Aside0.mk (blk_below (xB BK101.out) hb); have n3_ := Aside0.mk (below_step (xS HB.out (ge GE101.out g0)) hb); have n4_ := Aside0.mk (hbox); have n6_ := Aside0.mk ((by rw [hg]; exact (below_size (xS HB.out (ge GE101.out g0))) : w.heap.size ≤ gb121)); have n7_ := Aside0.mk ((by rw [hg]; exact Nat.ne_of_lt (blk_lt (xB BK101.out)) : gb101 ≠ gb121)); have n8_ := Aside0.mk ((by rw [hg]; exact Nat.ne_of_gt (blk_lt (xB BK101.out)) : gb121 ≠ gb101)); clear HO_7 HO_8 BK101 HB; revert n0_ n1_ n2_ n3_ n4_ n6_ n7_ n8_; intro HO_7 HO_8 BK101 HB BK121 GE121 NB101_121 NB121_101; clear hb hbox hg; have hnb34 := NB121_101.out; have hnc34 := NB101_121.out; have hcz35_0 : w33.cell? ⟨gb121, 0, none⟩ = some (.bool false) := (blk_cell BK121.out 0).trans rfl; have hcz35_1 : w33.cell? ⟨gb121, 1, none⟩ = some (.int .i64 0) := (blk_cell BK121.out 1).trans rfl; have hcz35_2 : w33.cell? ⟨gb121, 2, none⟩ = some (.string (⟨#[]⟩ : ByteArray)) := (blk_cell BK121.out 2).trans rfl; have hfz35_0 := blk_frozen BK121.out 0; have hfz35_1 := blk_frozen BK121.out 1; have hfz35_2 := blk_frozen BK121.out 2; obtain ⟨Ao36, co36, eo36⟩ := Kd.R_slice HO_8.out; subst eo36) | ((with_reducible refine gate_callee (f := 35) rfl ?_); refine goesL_ (some 56) rfl rfl Try.func35 (by kernel_rfl) rfl #[.slice Ao36 x8_2.length co36, .int .u64 0] rfl (by (try simp only [List.map_toArray, List.map_cons, List.map_nil]) <;> rfl) ?_; (with_reducible refine (wire_U.calls k2 _ _ x8_2 0 t122 _ ?side1 ?side2 A32.out).mono ?_); (case side1 => refine (Kd.R_reads' (e := 5) (base := w.heap.size) (ok := fun k_ => True) (n := x8_2.length) (c := co36) ?_).2.2; exact (xT HO_8.out BK121.out (by decide))); (case side2 => exact (Kd.R_reads' HO_8.out).2.1); rintro e w37 ⟨v123, rfl, ho0, hb⟩; refine ⟨_, rfl, ?_⟩; have n0_ := Aside0.mk (Kd.R_below (xR (Kd.R_mono (Kd.R_far (p := ⟨gb121, 2, none⟩) (Kd.R_far (p := ⟨gb121, 1, none⟩) (Kd.R_far (p := ⟨gb121, 0, none⟩) (Kd.R_mono HO_7.out (fun k_ hk => (⟨hk, hk.2⟩ : _ ∧ k_ ≠ gb121))) (fun _ hk => hk.2) (.bool true)) (fun _ hk => hk.2) (.int .i64 ((rd_T26 l1 x38_2).f1))) (fun _ hk => hk.2) (.string ((rd_T26 l1 x38_2).f2))) (fun _ h_ => h_.1))) hb); have n2_ := Aside0.mk (Kd.R_lower (Kd.R_new' ho0 (Kd.R_lt (xT HO_8.out BK121.out (by decide)))) (below_size (xS HB.out (ge GE101.out (ge GE121.out g0))))); have n3_ := Aside0.mk (blk_below (xF BK101.out (ge NB101_121.out g0)) hb); have n5_ := Aside0.mk (below_step (xS HB.out (ge GE101.out (ge GE121.out g0))) hb); clear HO_7 HO_8 BK101 BK121 HB; revert n0_ n2_ n3_ n5_; intro HO_7 HO124 BK101 HB; (try clear hb); (try clear hk); (try clear ho0)))
       go_roundg k2
       case measure => have := HK1.out; have := HK2.out; omega
       case rel => exact ⟨(t122), (wrap64 (x38_2 + 1)), (by first | rfl | (simp; done) | (simp [*]; done)), H', ⟨by have := HK1.out; have := HK2.out; omega⟩, ⟨by (with_reducible repeat (first | apply Kd.R_alloc | apply Kd.R_drewN | apply Kd.R_drew)); exact Kd.R_mono HO_7.out (fun _ hk => trivial)⟩, ⟨by (with_reducible repeat (first | apply Kd.R_alloc | apply Kd.R_drewN | apply Kd.R_drew)); exact Kd.R_mono HO124.out (fun _ hk => trivial)⟩, ⟨by (with_reducible repeat (first | refine blk_drewN ?_ _ | refine blk_drew ?_ | refine blk_alloc ?_ _)); exact BK101.out⟩, ⟨by repeat (first | (with_reducible first | exact HB.out | apply below_alloc | apply pw_below_drewN | apply below_drew1 | refine below_set ?_ GE101.out | refine below_set ?_ GE121.out) | exact HB.out)⟩⟩
      ·replace c31 := Bool.eq_false_iff.mpr c31
       subst c31
       rw [if_neg (show ¬ (false = true) by decide)] at H
       replace H := Option.bind_eq_some_iff.mp H
       obtain ⟨⟨t125, t126⟩, A380, H⟩ := H
       (try dsimp only at H)
       have A38 := Aside0.mk A380
       clear A380
       replace H := Option.bind_eq_some_iff.mp H
       obtain ⟨t127, A390, H⟩ := H
       (try dsimp only at H)
       have A39 := Aside0.mk A390
       clear A390
       have H' := Aside0.mk H
       clear H
       have p120 : 0 ≤ (x38_2 : Int) := of_decide_eq_true (by first | (with_reducible assumption) | assumption)
       have q120 : x38_2 < (l1.length : Int) := of_decide_eq_true (by first | (with_reducible assumption) | assumption)
       obtain ⟨ad120, e120, hx120_0, hx120_1, hx120_2⟩ := at_T26 HR1.out x38_2 p120 q120
       (try rw [← Nbq30.out] at hx120_0)
       cases e120
       replace hx120_0 := (HB.out.cell (World.block_lt_of_cell? w _ hx120_0)).trans hx120_0
       replace hx120_1 := (HB.out.cell (World.block_lt_of_cell? w _ hx120_1)).trans hx120_1
       replace hx120_2 := (HB.out.cell (World.block_lt_of_cell? w _ hx120_2)).trans hx120_2
       replace p120 := eq_true p120
       replace q120 := eq_true q120
       go_wp2_with (first | ((with_reducible refine gate_dst (N := 12) rfl ?_); refine box_event ?hg (N := 12) ?hd (cs := #[.bool false, .int .i64 0, .string (⟨#[]⟩ : ByteArray)]) (t := 26) ?hr ?_; (case hd => rfl); (case hg => rfl); (case hr => first | (go_simp; done) | (go_simp; rfl)); intro gb121 hg w40 hbox hb; have n0_ := Aside0.mk (Kd.R_below (Kd.R_elderB (xR HO_7.out) gb121 (Nat.le_of_eq hg.symm)) hb); have n1_ := Aside0.mk (Kd.R_below (xR HO_8.out) hb); have n2_ := Aside0.mk (blk_below (xB BK101.out) hb); have n3_ := Aside0.mk (below_step (xS HB.out (ge GE101.out g0)) hb); have n4_ := Aside0.mk (hbox); have n6_ := Aside0.mk ((by rw [hg]; exact (below_size (xS HB.out (ge GE101.out g0))) : w.heap.size ≤ gb121)); have n7_ := Aside0.mk ((by rw [hg]; exact Nat.ne_of_lt (blk_lt (xB BK101.out)) : gb101 ≠ gb121)); have n8_ := Aside0.mk ((by rw [hg]; exact Nat.ne_of_gt (blk_lt (xB BK101.out)) : gb121 ≠ gb101)); clear HO_7 HO_8 BK101 HB; revert n0_ n1_ n2_ n3_ n4_ n6_ n7_ n8_; intro HO_7 HO_8 BK101 HB BK121 GE121 NB101_121 NB121_101; clear hb hbox hg; have hnb41 := NB121_101.out; have hnc41 := NB101_121.out; have hcz42_0 : w40.cell? ⟨gb121, 0, none⟩ = some (.bool false) := (blk_cell BK121.out 0).trans rfl; have hcz42_1 : w40.cell? ⟨gb121, 1, none⟩ = some (.int .i64 0) := (blk_cell BK121.out 1).trans rfl; have hcz42_2 : w40.cell? ⟨gb121, 2, none⟩ = some (.string (⟨#[]⟩ : ByteArray)) := (blk_cell BK121.out 2).trans rfl; have hfz42_0 := blk_frozen BK121.out 0; have hfz42_1 := blk_frozen BK121.out 1; have hfz42_2 := blk_frozen BK121.out 2) | ((with_reducible refine gate_callee (f := 80) rfl ?_); refine goesL_ (some 48) rfl rfl Try.func80 (by kernel_rfl) rfl #[.slice Ao16 t109.length co16, .agg #[.bool false, .int .i64 ((rd_T26 l1 x38_2).f1), .string ((rd_T26 l1 x38_2).f2)], .func (.func 78) #[] #[]] rfl (by (try simp only [List.map_toArray, List.map_cons, List.map_nil]) <;> rfl) ?_; (with_reducible refine (slices_BinarySearchFunc_api_Value_api_Value_api_Value.calls k2 _ _ t109 false ((rd_T26 l1 x38_2).f1) ((rd_T26 l1 x38_2).f2)  t125 t126 _ ?side1 ?side2 A38.out).mono ?_); (case side1 => refine (Kd.R_reads' (e := 26) (base := w.heap.size) (ok := fun k_ => (True ∧ k_ ≠ gb121)) (n := t109.length) (c := co16) ?_).2.2; exact (xR (Kd.R_mono (Kd.R_far (p := ⟨gb121, 2, none⟩) (Kd.R_far (p := ⟨gb121, 1, none⟩) (Kd.R_far (p := ⟨gb121, 0, none⟩) (Kd.R_mono HO_7.out (fun k_ hk => (⟨hk, hk.2⟩ : _ ∧ k_ ≠ gb121))) (fun _ hk => hk.2) (.bool false)) (fun _ hk => hk.2) (.int .i64 ((rd_T26 l1 x38_2).f1))) (fun _ hk => hk.2) (.string ((rd_T26 l1 x38_2).f2))) (fun _ h_ => h_.1)))); (case side2 => exact (Kd.R_reads' HO_7.out).2.1); rintro e w43 ⟨rfl, hb⟩; refine ⟨_, rfl, ?_⟩; have n0_ := Aside0.mk (Kd.R_below (xR (Kd.R_mono (Kd.R_far (p := ⟨gb121, 2, none⟩) (Kd.R_far (p := ⟨gb121, 1, none⟩) (Kd.R_far (p := ⟨gb121, 0, none⟩) (Kd.R_mono HO_7.out (fun k_ hk => (⟨hk, hk.2⟩ : _ ∧ k_ ≠ gb121))) (fun _ hk => hk.2) (.bool false)) (fun _ hk => hk.2) (.int .i64 ((rd_T26 l1 x38_2).f1))) (fun _ hk => hk.2) (.string ((rd_T26 l1 x38_2).f2))) (fun _ h_ => h_.1))) hb); have n1_ := Aside0.mk (Kd.R_below (xT HO_8.out BK121.out (by decide)) hb); have n2_ := Aside0.mk (blk_below (xF BK101.out (ge NB101_121.out g0)) hb); have n4_ := Aside0.mk (below_step (xS HB.out (ge GE101.out (ge GE121.out g0))) hb); clear HO_7 HO_8 BK101 BK121 HB; revert n0_ n1_ n2_ n4_; intro HO_7 HO_8 BK101 HB; (try clear hb); (try clear hk); obtain ⟨Ao44, co44, eo44⟩ := Kd.R_slice HO_8.out; subst eo44) | ((with_reducible refine gate_callee (f := 35) rfl ?_); refine goesL_ (some 56) rfl rfl Try.func35 (by kernel_rfl) rfl #[.slice Ao44 x8_2.length co44, .int .u64 (IntKind.u64.wrap (wrap64 (t125 + 1)))] rfl (by (try simp only [List.map_toArray, List.map_cons, List.map_nil]) <;> rfl) ?_; (with_reducible refine (wire_U.calls k2 _ _ x8_2 (IntKind.u64.wrap (wrap64 (t125 + 1))) t127 _ ?side1 ?side2 A39.out).mono ?_); (case side1 => exact xC (Kd.R_reads' HO_8.out).2.2); (case side2 => exact (Kd.R_reads' HO_8.out).2.1); rintro e w45 ⟨v128, rfl, ho0, hb⟩; refine ⟨_, rfl, ?_⟩; have n0_ := Aside0.mk (Kd.R_below (xR HO_7.out) hb); have n2_ := Aside0.mk (Kd.R_lower (Kd.R_new' ho0 (Kd.R_lt (xR HO_8.out))) (below_size (xS HB.out (ge GE101.out (ge GE121.out g0))))); have n3_ := Aside0.mk (blk_below (xB BK101.out) hb); have n5_ := Aside0.mk (below_step (xS HB.out (ge GE101.out (ge GE121.out g0))) hb); clear HO_7 HO_8 BK101 HB; revert n0_ n2_ n3_ n5_; intro HO_7 HO129 BK101 HB; (try clear hb); (try clear ho0)))
       go_roundg k2
       case measure => have := HK1.out; have := HK2.out; omega
       case rel => exact ⟨(t127), (wrap64 (x38_2 + 1)), (by first | rfl | (simp; done) | (simp [*]; done)), H', ⟨by have := HK1.out; have := HK2.out; omega⟩, ⟨by (with_reducible repeat (first | apply Kd.R_alloc | apply Kd.R_drewN | apply Kd.R_drew)); exact Kd.R_mono HO_7.out (fun _ hk => trivial)⟩, ⟨by (with_reducible repeat (first | apply Kd.R_alloc | apply Kd.R_drewN | apply Kd.R_drew)); exact Kd.R_mono HO129.out (fun _ hk => trivial)⟩, ⟨by (with_reducible repeat (first | refine blk_drewN ?_ _ | refine blk_drew ?_ | refine blk_alloc ?_ _)); exact BK101.out⟩, ⟨by repeat (first | (with_reducible first | exact HB.out | apply below_alloc | apply pw_below_drewN | apply below_drew1 | refine below_set ?_ GE101.out | refine below_set ?_ GE121.out) | exact HB.out)⟩⟩
def page_plain_encode.l0 : Nat → Int → List Int → List (S26) → Int → Int → Option (List Int)
 | 0, _, _, _, _, _ => none
 | k + 1, x2, x7, x14, x15, x16 => if x16 < x15 then (if 0 ≤ x16 then (if x16 < (x14.length : Int) then (if ((rd_T26 x14 x16).f0 = true) then (page_plain_encode.l0 k x2 x7 x14 x15 (wrap64 (x16 + 1))) else ((page_bare.f k x7 ((rd_T26 x14 x16).f0) ((rd_T26 x14 x16).f1) ((rd_T26 x14 x16).f2) x2).bind fun t107 => (page_plain_encode.l0 k x2 t107 x14 x15 (wrap64 (x16 + 1))))) else (none)) else (none)) else (some x7)
def page_plain_encode.f (k : Nat)  (l1 : List (S26)) (a2 : Int) : Option (List Int) := (page_masked_mask.f k l1).bind fun t102 => (page_plain_encode.l0 k a2 t102 l1 (l1.length : Int) 0)
theorem page_plain_encode.mono_l : ∀ k, (∀ y0 y1 y2 y3 y4, LeO (page_plain_encode.l0 k y0 y1 y2 y3 y4) (page_plain_encode.l0 (k + 1) y0 y1 y2 y3 y4))
 | 0 => fun _ _ _ _ _ r h => by simp [page_plain_encode.l0] at h
 | k + 1 => by
  have ih0 := page_plain_encode.mono_l k
  ·intro y0 y1 y2 y3 y4
   unfold page_plain_encode.l0
   repeat' first
   | (with_reducible exact ih0 _ _ _ _ _)
   | (with_reducible exact page_bare.mono _ _ _ _ _ _)
   | (with_reducible exact page_masked_mask.mono _ _)
   | (with_reducible exact LeO.refl _)
   | (with_reducible exact LeO.none _)
   | (with_reducible refine LeO.ite ?_ ?_)
   | (with_reducible refine LeO.bind ?_ (fun _ => ?_))
   | exact ih0 _ _ _ _ _
   | exact page_bare.mono _ _ _ _ _ _
   | exact page_masked_mask.mono _ _
   | exact LeO.none _
   | refine LeO.ite ?_ ?_
   | refine LeO.bind ?_ (fun _ => ?_)
theorem page_plain_encode.mono : ∀ a0 a1 k, LeO (page_plain_encode.f k a0 a1) (page_plain_encode.f (k + 1) a0 a1) := by
 intro a0 a1 k
 have ih0 := page_plain_encode.mono_l k
 unfold page_plain_encode.f
 repeat' first
   | (with_reducible exact ih0 _ _ _ _ _)
   | (with_reducible exact page_bare.mono _ _ _ _ _ _)
   | (with_reducible exact page_masked_mask.mono _ _)
   | (with_reducible exact LeO.refl _)
   | (with_reducible exact LeO.none _)
   | (with_reducible refine LeO.ite ?_ ?_)
   | (with_reducible refine LeO.bind ?_ (fun _ => ?_))
   | exact ih0 _ _ _ _ _
   | exact page_bare.mono _ _ _ _ _ _
   | exact page_masked_mask.mono _ _
   | exact LeO.none _
   | refine LeO.ite ?_ ?_
   | refine LeO.bind ?_ (fun _ => ?_)
set_option maxHeartbeats 8000000 in
set_option maxRecDepth 100000 in
theorem page_plain_encode.calls (k : Nat)  (A1 : Option Addr) (c1 : Nat) (l1 : List (S26)) (a2 : Int) (r : List Int) (w : World) (hr1 : Kd.C k26 w A1 l1.length l1) (hc1 : l1.length ≤ c1) (h : page_plain_encode.f k l1 a2 = some r) :
  Calls Try.prog 62 #[.agg #[], .slice A1 l1.length c1, .int .i64 a2] w fun e w' => ∃ v0_ : Value, e = .returned (v0_) ∧ Kd.R (Kd.int .u8) 5 w' w.heap.size (fun _ => True) v0_ r ∧ Below w.heap.size w w' := by
 have hu77 := Try.underlying77
 have hu75 := Try.underlying75
 have hu26 := Try.underlying26
 have HR1 := Aside0.mk hr1
 have HC1 := Aside0.mk hc1
 clear hr1 hc1
 have HB := Aside0.mk (Below.refl w.heap.size w)
 have H : ((page_masked_mask.f k l1).bind fun t102 => (page_plain_encode.l0 k a2 t102 l1 (l1.length : Int) 0)) = some r := h
 clear h
 replace H := Option.bind_eq_some_iff.mp H
 obtain ⟨t102, A40, H⟩ := H
 (try dsimp only at H)
 have A4 := Aside0.mk A40
 clear A40
 have H' := Aside0.mk H
 clear H
 go_enter Try.func62, Try.ntmps62
 go_wp2_with (first | ((with_reducible refine gate_dst (N := 3) rfl ?_); refine box_event ?hg (N := 3) ?hd (cs := #[]) (t := 77) ?hr ?_; (case hd => rfl); (case hg => rfl); (case hr => first | (go_simp; done) | (go_simp; rfl)); intro gb101 hg w5 hbox hb; have n0_ := Aside0.mk (below_step (xW HB.out) hb); have n1_ := Aside0.mk (hbox); have n3_ := Aside0.mk ((by rw [hg]; exact (below_size (xW HB.out)) : w.heap.size ≤ gb101)); clear HB; revert n0_ n1_ n3_; intro HB BK101 GE101; clear hb hbox hg) | ((with_reducible refine gate_callee (f := 61) rfl ?_); refine goesL_ (some 13) rfl rfl Try.func61 (by kernel_rfl) rfl #[.agg #[], .slice A1 l1.length c1] rfl (by (try simp only [List.map_toArray, List.map_cons, List.map_nil]) <;> rfl) ?_; (with_reducible refine (page_masked_mask.calls k  _ _ l1 t102 _ ?side1 ?side2 A4.out).mono ?_); (case side1 => exact xC (Kd.C_below HR1.out HB.out)); (case side2 => exact HC1.out); rintro e w7 ⟨v103, rfl, ho0, hb⟩; refine ⟨_, rfl, ?_⟩; have n0_ := Aside0.mk (Kd.R_lower ho0 (below_size (xS HB.out (ge GE101.out g0)))); have n1_ := Aside0.mk (blk_below (xB BK101.out) hb); have n2_ := Aside0.mk (below_step (xS HB.out (ge GE101.out g0)) hb); clear BK101 HB; revert n0_ n1_ n2_; intro HO104 BK101 HB; (try clear hb); (try clear ho0)))
 rw [part_plain _ BK101.out]
 simp only [Result.andThen]
 rw [Oper.upon_value]
 go_wp2_with (first | ((with_reducible refine gate_dst (N := 3) rfl ?_); refine box_event ?hg (N := 3) ?hd (cs := #[]) (t := 77) ?hr ?_; (case hd => rfl); (case hg => rfl); (case hr => first | (go_simp; done) | (go_simp; rfl)); intro gb101 hg w5 hbox hb; have n0_ := Aside0.mk (below_step (xW HB.out) hb); have n1_ := Aside0.mk (hbox); have n3_ := Aside0.mk ((by rw [hg]; exact (below_size (xW HB.out)) : w.heap.size ≤ gb101)); clear HB; revert n0_ n1_ n3_; intro HB BK101 GE101; clear hb hbox hg) | ((with_reducible refine gate_callee (f := 61) rfl ?_); refine goesL_ (some 13) rfl rfl Try.func61 (by kernel_rfl) rfl #[.agg #[], .slice A1 l1.length c1] rfl (by (try simp only [List.map_toArray, List.map_cons, List.map_nil]) <;> rfl) ?_; (with_reducible refine (page_masked_mask.calls k  _ _ l1 t102 _ ?side1 ?side2 A4.out).mono ?_); (case side1 => exact xC (Kd.C_below HR1.out HB.out)); (case side2 => exact HC1.out); rintro e w7 ⟨v103, rfl, ho0, hb⟩; refine ⟨_, rfl, ?_⟩; have n0_ := Aside0.mk (Kd.R_lower ho0 (below_size (xS HB.out (ge GE101.out g0)))); have n1_ := Aside0.mk (blk_below (xB BK101.out) hb); have n2_ := Aside0.mk (below_step (xS HB.out (ge GE101.out g0)) hb); clear BK101 HB; revert n0_ n1_ n2_; intro HO104 BK101 HB; (try clear hb); (try clear ho0)))
 go_loopg [7, 16] k (fun kq v7 v16 w' => ∃ (x7_1 : List Int) (x16_1 : Int), v16 = .int .i64 x16_1 ∧ Aside0 (page_plain_encode.l0 kq a2 x7_1 l1 (l1.length : Int) x16_1 = some r) ∧ Aside0 (kq ≤ k) ∧ Aside0 (Kd.R (Kd.int .u8) 5 w' w.heap.size (fun _ => True) v7 x7_1) ∧ Aside0 (w'.heap[gb101]? = some (.cells #[] 77 (0, 0))) ∧ Aside0 (Below w.heap.size w w'))
 case atStart => exact ⟨(t102), (0), (by first | rfl | (simp; done) | (simp [*]; done)), H', ⟨Nat.le_refl _⟩, ⟨by (with_reducible repeat (first | apply Kd.R_alloc | apply Kd.R_drewN | apply Kd.R_drew)); exact HO104.out⟩, ⟨by (with_reducible repeat (first | refine blk_drewN ?_ _ | refine blk_drew ?_ | refine blk_alloc ?_ _)); exact BK101.out⟩, ⟨by repeat (first | (with_reducible first | exact HB.out | apply below_alloc | apply pw_below_drewN | apply below_drew1 | refine below_set ?_ GE101.out) | exact HB.out)⟩⟩
 case round =>
  clear H'
  try clear c1
  try clear p2
  try clear c6
  obtain ⟨x7_1, x16_1, rfl, HA, HK1, HO_7, BK101, HB⟩ := hrel
  cases gk with
  | zero => exact absurd HA.out (by simp [page_plain_encode.l0])
  | succ k1 =>
   have H := HA.out
   clear HA
   simp only [page_plain_encode.l0] at H
   by_cases c8 : x16_1 < (l1.length : Int)
   rotate_left
   ·rw [if_neg c8] at H
    have c8b0 : decide (x16_1 < (l1.length : Int)) = false := decide_eq_false c8
    clear c8
    obtain rfl := Option.some.inj H
    go_wp2
    go_ret
    exact ⟨_, by first | rfl | simp [*], by (with_reducible repeat (first | apply Kd.R_alloc | apply Kd.R_drewN | apply Kd.R_drew)); exact HO_7.out, by repeat (first | (with_reducible first | exact HB.out | apply below_alloc | apply pw_below_drewN | apply below_drew1 | refine below_set ?_ GE101.out) | exact HB.out)⟩
   rw [if_pos c8] at H
   have c8b0 : decide (x16_1 < (l1.length : Int)) = true := decide_eq_true c8
   clear c8
   by_cases c9 : 0 ≤ x16_1
   rotate_left
   ·rw [if_neg c9] at H
    exact absurd H (by simp)
   rw [if_pos c9] at H
   have c9b0 : decide (0 ≤ x16_1) = true := decide_eq_true c9
   clear c9
   by_cases c10 : x16_1 < (l1.length : Int)
   rotate_left
   ·rw [if_neg c10] at H
    exact absurd H (by simp)
   rw [if_pos c10] at H
   have c10b0 : decide (x16_1 < (l1.length : Int)) = true := decide_eq_true c10
   clear c10
   obtain ⟨bq11, hbq11⟩ : ∃ b_ : Bool, b_ = ((rd_T26 l1 x16_1).f0) := ⟨_, rfl⟩
   replace H : (if (bq11 = true) then (page_plain_encode.l0 k1 a2 x7_1 l1 (l1.length : Int) (wrap64 (x16_1 + 1))) else ((page_bare.f k1 x7_1 (bq11) ((rd_T26 l1 x16_1).f1) ((rd_T26 l1 x16_1).f2) a2).bind fun t107 => (page_plain_encode.l0 k1 a2 t107 l1 (l1.length : Int) (wrap64 (x16_1 + 1))))) = some r := by rw [← hbq11] at H; exact H
   have Nbq11 := Aside0.mk hbq11
   clear hbq11
   by_cases c12 : (bq11 = true)
   ·subst c12
    rw [if_pos rfl] at H
    have H' := Aside0.mk H
    clear H
    have p105 : 0 ≤ (x16_1 : Int) := of_decide_eq_true (by first | (with_reducible assumption) | assumption)
    have q105 : x16_1 < (l1.length : Int) := of_decide_eq_true (by first | (with_reducible assumption) | assumption)
    obtain ⟨ad105, e105, hx105_0, hx105_1, hx105_2⟩ := at_T26 HR1.out x16_1 p105 q105
    (try rw [← Nbq11.out] at hx105_0)
    cases e105
    replace hx105_0 := (HB.out.cell (World.block_lt_of_cell? w _ hx105_0)).trans hx105_0
    replace hx105_1 := (HB.out.cell (World.block_lt_of_cell? w _ hx105_1)).trans hx105_1
    replace hx105_2 := (HB.out.cell (World.block_lt_of_cell? w _ hx105_2)).trans hx105_2
    replace p105 := eq_true p105
    replace q105 := eq_true q105
    go_wp2_with (first | ((with_reducible refine gate_dst (N := 9) rfl ?_); refine box_event ?hg (N := 9) ?hd (cs := #[.bool false, .int .i64 0, .string (⟨#[]⟩ : ByteArray)]) (t := 26) ?hr ?_; (case hd => rfl); (case hg => rfl); (case hr => first | (go_simp; done) | (go_simp; rfl)); intro gb106 hg w13 hbox hb; have n0_ := Aside0.mk (Kd.R_below (xR HO_7.out) hb); have n1_ := Aside0.mk (blk_below (xB BK101.out) hb); have n2_ := Aside0.mk (below_step (xS HB.out (ge GE101.out g0)) hb); have n3_ := Aside0.mk (hbox); have n5_ := Aside0.mk ((by rw [hg]; exact (below_size (xS HB.out (ge GE101.out g0))) : w.heap.size ≤ gb106)); have n6_ := Aside0.mk ((by rw [hg]; exact Nat.ne_of_lt (blk_lt (xB BK101.out)) : gb101 ≠ gb106)); have n7_ := Aside0.mk ((by rw [hg]; exact Nat.ne_of_gt (blk_lt (xB BK101.out)) : gb106 ≠ gb101)); clear HO_7 BK101 HB; revert n0_ n1_ n2_ n3_ n5_ n6_ n7_; intro HO_7 BK101 HB BK106 GE106 NB101_106 NB106_101; clear hb hbox hg; have hnb14 := NB106_101.out; have hnc14 := NB101_106.out; have hcz15_0 : w13.cell? ⟨gb106, 0, none⟩ = some (.bool false) := (blk_cell BK106.out 0).trans rfl; have hcz15_1 : w13.cell? ⟨gb106, 1, none⟩ = some (.int .i64 0) := (blk_cell BK106.out 1).trans rfl; have hcz15_2 : w13.cell? ⟨gb106, 2, none⟩ = some (.string (⟨#[]⟩ : ByteArray)) := (blk_cell BK106.out 2).trans rfl; have hfz15_0 := blk_frozen BK106.out 0; have hfz15_1 := blk_frozen BK106.out 1; have hfz15_2 := blk_frozen BK106.out 2))
    go_roundg k1
    case measure => have := HK1.out; omega
    case rel => exact ⟨(x7_1), (wrap64 (x16_1 + 1)), (by first | rfl | (simp; done) | (simp [*]; done)), H', ⟨by have := HK1.out; omega⟩, ⟨by (with_reducible repeat (first | apply Kd.R_alloc | apply Kd.R_drewN | apply Kd.R_drew)); exact Kd.R_mono (Kd.R_far (p := ⟨gb106, 2, none⟩) (Kd.R_far (p := ⟨gb106, 1, none⟩) (Kd.R_far (p := ⟨gb106, 0, none⟩) (Kd.R_types HO_7.out BK106.out (by decide)) (fun _ hk => hk.2) (.bool true)) (fun _ hk => hk.2) (.int .i64 ((rd_T26 l1 x16_1).f1))) (fun _ hk => hk.2) (.string ((rd_T26 l1 x16_1).f2))) (fun _ hk => trivial)⟩, ⟨by (with_reducible repeat (first | refine blk_drewN ?_ _ | refine blk_drew ?_ | refine blk_alloc ?_ _)); refine blk_far ?_ NB101_106.out _; (with_reducible repeat (first | refine blk_drewN ?_ _ | refine blk_drew ?_ | refine blk_alloc ?_ _)); refine blk_far ?_ NB101_106.out _; (with_reducible repeat (first | refine blk_drewN ?_ _ | refine blk_drew ?_ | refine blk_alloc ?_ _)); refine blk_far ?_ NB101_106.out _; (with_reducible repeat (first | refine blk_drewN ?_ _ | refine blk_drew ?_ | refine blk_alloc ?_ _)); exact BK101.out⟩, ⟨by repeat (first | (with_reducible first | exact HB.out | apply below_alloc | apply pw_below_drewN | apply below_drew1 | refine below_set ?_ GE101.out | refine below_set ?_ GE106.out) | exact HB.out)⟩⟩
   ·replace c12 := Bool.eq_false_iff.mpr c12
    subst c12
    rw [if_neg (show ¬ (false = true) by decide)] at H
    replace H := Option.bind_eq_some_iff.mp H
    obtain ⟨t107, A160, H⟩ := H
    (try dsimp only at H)
    have A16 := Aside0.mk A160
    clear A160
    have H' := Aside0.mk H
    clear H
    have p105 : 0 ≤ (x16_1 : Int) := of_decide_eq_true (by first | (with_reducible assumption) | assumption)
    have q105 : x16_1 < (l1.length : Int) := of_decide_eq_true (by first | (with_reducible assumption) | assumption)
    obtain ⟨ad105, e105, hx105_0, hx105_1, hx105_2⟩ := at_T26 HR1.out x16_1 p105 q105
    (try rw [← Nbq11.out] at hx105_0)
    cases e105
    replace hx105_0 := (HB.out.cell (World.block_lt_of_cell? w _ hx105_0)).trans hx105_0
    replace hx105_1 := (HB.out.cell (World.block_lt_of_cell? w _ hx105_1)).trans hx105_1
    replace hx105_2 := (HB.out.cell (World.block_lt_of_cell? w _ hx105_2)).trans hx105_2
    replace p105 := eq_true p105
    replace q105 := eq_true q105
    go_wp2_with (first | ((with_reducible refine gate_dst (N := 9) rfl ?_); refine box_event ?hg (N := 9) ?hd (cs := #[.bool false, .int .i64 0, .string (⟨#[]⟩ : ByteArray)]) (t := 26) ?hr ?_; (case hd => rfl); (case hg => rfl); (case hr => first | (go_simp; done) | (go_simp; rfl)); intro gb106 hg w17 hbox hb; have n0_ := Aside0.mk (Kd.R_below (xR HO_7.out) hb); have n1_ := Aside0.mk (blk_below (xB BK101.out) hb); have n2_ := Aside0.mk (below_step (xS HB.out (ge GE101.out g0)) hb); have n3_ := Aside0.mk (hbox); have n5_ := Aside0.mk ((by rw [hg]; exact (below_size (xS HB.out (ge GE101.out g0))) : w.heap.size ≤ gb106)); have n6_ := Aside0.mk ((by rw [hg]; exact Nat.ne_of_lt (blk_lt (xB BK101.out)) : gb101 ≠ gb106)); have n7_ := Aside0.mk ((by rw [hg]; exact Nat.ne_of_gt (blk_lt (xB BK101.out)) : gb106 ≠ gb101)); clear HO_7 BK101 HB; revert n0_ n1_ n2_ n3_ n5_ n6_ n7_; intro HO_7 BK101 HB BK106 GE106 NB101_106 NB106_101; clear hb hbox hg; have hnb18 := NB106_101.out; have hnc18 := NB101_106.out; have hcz19_0 : w17.cell? ⟨gb106, 0, none⟩ = some (.bool false) := (blk_cell BK106.out 0).trans rfl; have hcz19_1 : w17.cell? ⟨gb106, 1, none⟩ = some (.int .i64 0) := (blk_cell BK106.out 1).trans rfl; have hcz19_2 : w17.cell? ⟨gb106, 2, none⟩ = some (.string (⟨#[]⟩ : ByteArray)) := (blk_cell BK106.out 2).trans rfl; have hfz19_0 := blk_frozen BK106.out 0; have hfz19_1 := blk_frozen BK106.out 1; have hfz19_2 := blk_frozen BK106.out 2; obtain ⟨Ao20, co20, eo20⟩ := Kd.R_slice HO_7.out; subst eo20) | ((with_reducible refine gate_callee (f := 64) rfl ?_); refine goesL_ (some 26) rfl rfl Try.func64 (by kernel_rfl) rfl #[.slice Ao20 x7_1.length co20, .agg #[.bool false, .int .i64 ((rd_T26 l1 x16_1).f1), .string ((rd_T26 l1 x16_1).f2)], .int .i64 a2] rfl (by (try simp only [List.map_toArray, List.map_cons, List.map_nil]) <;> rfl) ?_; (with_reducible refine (page_bare.calls k1 _ _ x7_1 false ((rd_T26 l1 x16_1).f1) ((rd_T26 l1 x16_1).f2) a2 t107 _ ?side1 ?side2 A16.out).mono ?_); (case side1 => refine (Kd.R_reads' (e := 5) (base := w.heap.size) (ok := fun k_ => True) (n := x7_1.length) (c := co20) ?_).2.2; exact (xT HO_7.out BK106.out (by decide))); (case side2 => exact (Kd.R_reads' HO_7.out).2.1); rintro e w21 ⟨v108, rfl, ho0, hb⟩; refine ⟨_, rfl, ?_⟩; have n1_ := Aside0.mk (Kd.R_lower (Kd.R_new' ho0 (Kd.R_lt (xT HO_7.out BK106.out (by decide)))) (below_size (xS HB.out (ge GE101.out (ge GE106.out g0))))); have n2_ := Aside0.mk (blk_below (xF BK101.out (ge NB101_106.out g0)) hb); have n4_ := Aside0.mk (below_step (xS HB.out (ge GE101.out (ge GE106.out g0))) hb); clear HO_7 BK101 BK106 HB; revert n1_ n2_ n4_; intro HO109 BK101 HB; (try clear hb); (try clear ho0)))
    go_roundg k1
    case measure => have := HK1.out; omega
    case rel => exact ⟨(t107), (wrap64 (x16_1 + 1)), (by first | rfl | (simp; done) | (simp [*]; done)), H', ⟨by have := HK1.out; omega⟩, ⟨by (with_reducible repeat (first | apply Kd.R_alloc | apply Kd.R_drewN | apply Kd.R_drew)); exact Kd.R_mono HO109.out (fun _ hk => trivial)⟩, ⟨by (with_reducible repeat (first | refine blk_drewN ?_ _ | refine blk_drew ?_ | refine blk_alloc ?_ _)); exact BK101.out⟩, ⟨by repeat (first | (with_reducible first | exact HB.out | apply below_alloc | apply pw_below_drewN | apply below_drew1 | refine below_set ?_ GE101.out | refine below_set ?_ GE106.out) | exact HB.out)⟩⟩
def slices_Clone_byte_byte.f (l0 : List Int) : Option (List Int) := if l0.length * 1 ≤ 140737488355328 then some l0 else none
set_option maxHeartbeats 8000000 in
set_option maxRecDepth 100000 in
theorem slices_Clone_byte_byte.calls (A0 : Option Addr) (c0 : Nat) (l0 : List Int) (r : List Int) (w : World) (hr0 : Kd.C (Kd.int .u8) w A0 l0.length l0) (hc0 : l0.length ≤ c0) (h : slices_Clone_byte_byte.f l0 = some r) :
    Calls Try.prog 113 #[.slice A0 l0.length c0] w fun e w' => ∃ v0_ : Value, e = .returned (v0_) ∧ Kd.R (Kd.int .u8) 5 w' w.heap.size (fun _ => True) v0_ r ∧ Below w.heap.size w w' := by
  unfold slices_Clone_byte_byte.f at h
  split at h
  · rename_i hb
    injection h with h
    subst h
    have hq := fun (W : World) => run_eql_slice_nil (P := Try.prog) W 32 5 A0 l0.length c0 Try.underlying32
    rcases A0 with _ | ad
    · have h0 : l0.length = 0 := by
        rcases Nat.eq_zero_or_pos l0.length with h | h
        · exact h
        · obtain ⟨ad, h, _⟩ := hr0.2.2 h
          cases h
      obtain rfl : l0 = [] := List.eq_nil_of_length_eq_zero h0
      simp only [Option.isNone_none, List.length_nil] at hq ⊢
      clear hr0 hc0 h0 hb
      go_enter Try.func113, Try.ntmps113
      go_wp2
      go_ret
      exact ⟨_, rfl, Kd.R_nil _ _ _ _ _, Below.refl _ _⟩
    · simp only [Option.isNone_some] at hq
      have HR0 := Aside0.mk hr0
      have HC0 := Aside0.mk hc0
      clear hr0 hc0
      have HB := Aside0.mk (Below.refl w.heap.size w)
      have LM := Aside0.mk hb
      clear hb
      go_enter Try.func113, Try.ntmps113
      go_wp2_with (first | ((with_reducible refine gate_dst (N := 5) rfl ?_); refine Kd.R_lit (Kd.int .u8) _ 5 ?hg (N := 5) ?hd (xs := ([] : List Int)) (inner := []) (ok := fun _ => True) (okp := fun _ => True) ?hr ?hp (fun _ hk => hk) trivial (Below.refl _ _) (Nat.le_refl _) (by simp) ?_; (case hd => rfl); (case hg => rfl); (case hr => first | (go_simp; done) | (go_simp; rfl)); (case hp => exact (Reps.none _ _)); intro v235 w5 ho6 hb hg_ hnew_; clear hg_ hnew_; have n0_ := Aside0.mk (Kd.R_lower ho6 (below_size (by repeat (first | (with_reducible first | exact HB.out | apply below_alloc | apply pw_below_drewN | apply below_drew1) | exact HB.out)))); have n1_ := Aside0.mk (below_step (by repeat (first | (with_reducible first | exact HB.out | apply below_alloc | apply pw_below_drewN | apply below_drew1) | exact HB.out)) hb); clear HB; have HO236 := n0_; have HB := n1_; clear n0_ n1_; clear hb ho6) | ((with_reducible refine gate_builtin (b := .append) (xs := #[.tmp 5, .tmp 6]) rfl ?_); at_builtin; refine Kd.R_append_rows (Kd.int .u8) (w0 := w) w.heap.size rfl (.tmp 5) (.tmp 6) 32 5 (.int .u8 0) 1 rfl Try.underlying32 info5 rfl (by decide) (by omega) v235 [] l0 _ _ _ (fun _ => True) (fun _ => False) rfl rfl ?aO ?aR (fun _ _ h => h) (fun _ h => h.elim) ?aF ?aB ?aS ?aL ?_; (case aR => repeat (first | exact (Kd.C_below HR0.out HB.out) | (with_reducible refine Kd.C_alloc ?_ _) | (with_reducible refine Kd.C_drewN ?_ _) | (with_reducible refine Kd.C_drew ?_))); (case aB => exact (by repeat (first | (with_reducible first | exact HB.out | apply below_alloc | apply pw_below_drewN | apply below_drew1) | exact HB.out))); (case aF => exact (fun _ _ => trivial)); (case aO => exact (by (with_reducible repeat (first | apply Kd.R_alloc | apply Kd.R_drewN | apply Kd.R_drew)); exact HO236.out)); (case aS => exact (below_size (by repeat (first | (with_reducible first | exact HB.out | apply below_alloc | apply pw_below_drewN | apply below_drew1) | exact HB.out)))); (case aL => have := LM.out; simp only [List.length_nil]; omega); intro v238 w7 ho hb hg hat; have n0_ := Aside0.mk (hb); have n1_ := Aside0.mk (ho); clear HB; clear HO236; have HB := n0_; have HO239 := n1_; clear n0_ n1_; clear ho hb hg hat))
      go_ret
      exact ⟨_, rfl, by simpa using HO239.out, HB.out⟩
  · exact absurd h (by simp)
end
end Go.Proofs.Ytnfdhgfpjamphaa.X
