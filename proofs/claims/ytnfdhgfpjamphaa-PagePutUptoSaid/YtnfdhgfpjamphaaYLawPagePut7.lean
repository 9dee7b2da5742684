/- The law LawPagePut: its walk and its proof, part 8 of 14. -/
import Derived.Test.YtnfdhgfpjamphaaYLawPagePut0
import Derived.Test.YtnfdhgfpjamphaaYLawPagePut6
namespace Go.Proofs.Ytnfdhgfpjamphaa.X
section
open Go.RowKit Go.Proofs.YtnfdhgfpjamphaaW.PrintWords Go.Proofs.YtnfdhgfpjamphaaW.PrintLast Go.Proofs.YtnfdhgfpjamphaaW.PrintMore
attribute [local go_sem] max2_int min2_int max_two min_two max_three min_three max_four min_four   -- for this text's walks alone
set_option linter.unusedVariables false
set_option linter.unusedSimpArgs false
mutual
def page_dict_parse.j0 : Nat → List Int → Int → Int → Int → Int → Bool → Option ((List (S26)) × Bool)
 | 0, _, _, _, _, _, _ => none
 | k + 1, x1, x2, x3, x10, x11, x35 => if x35 = true then (some (([] : List (S26)), false)) else (page_dict_parse.l0 k x1 x2 x3 x10 x11 (([(⟨true, 0, (⟨#[]⟩ : ByteArray)⟩ : S26)] : List (S26))) x10 0)
def page_dict_parse.l0 : Nat → List Int → Int → Int → Int → Int → List (S26) → Int → Int → Option ((List (S26)) × Bool)
 | 0, _, _, _, _, _, _, _, _ => none
 | k + 1, x1, x2, x3, x10, x11, x13, x38, x39 => if x39 < x38 then ((page_read.f k x1 x11 x3).bind fun bt108 => (if bt108.2.2.2.2 = true then (if x13.length < 4398046511104 then (page_dict_parse.l0 k x1 x2 x3 x10 bt108.2.2.2.1 (x13 ++ [(⟨bt108.1, bt108.2.1, bt108.2.2.1⟩ : S26)]) x38 (IntKind.u64.wrap (x39 + 1))) else (none)) else (some (([] : List (S26)), false)))) else (if 0 ≤ x2 then (if (x2 : Int).toNat ≤ 8796093022208 then ((some (List.replicate (x2 : Int).toNat z26 : List (S26))).bind fun y117 => (page_dict_parse.l1 k x1 x10 x11 x13 y117 (y117.length : Int) 0)) else (none)) else (none))
def page_dict_parse.l1 : Nat → List Int → Int → Int → List (S26) → List (S26) → Int → Int → Option ((List (S26)) × Bool)
 | 0, _, _, _, _, _, _, _ => none
 | k + 1, x1, x10, x11, x13, x17, x60, x61 => if x61 < x60 then ((wire_ReadU.f k x1 x11).bind fun bt120 => (if bt120.2.2 = 0 then (if bt120.1 > x10 then (some (([] : List (S26)), false)) else (if 0 ≤ bt120.1 then (if bt120.1 < (x13.length : Int) then (if 0 ≤ x61 then (if x61 < (x17.length : Int) then (page_dict_parse.l1 k x1 x10 bt120.2.1 x13 (x17.set (x61 : Int).toNat (⟨(rd_T26 x13 bt120.1).f0, (rd_T26 x13 bt120.1).f1, (rd_T26 x13 bt120.1).f2⟩ : S26)) x60 (wrap64 (x61 + 1))) else (none)) else (none)) else (none)) else (none))) else (some (([] : List (S26)), false)))) else (some (x17, true))
end
def page_dict_parse.f (k : Nat)  (l1 : List Int) (a2 : Int) (a3 : Int) : Option ((List (S26)) × Bool) := (wire_ReadU.f k l1 0).bind fun bt102 => (if bt102.2.2 = 0 then (page_dict_parse.j0 k l1 a2 a3 bt102.1 bt102.2.1 (decide (bt102.1 > (IntKind.u64.wrap (a2))))) else (page_dict_parse.j0 k l1 a2 a3 bt102.1 bt102.2.1 true))
theorem page_dict_parse.mono_l : ∀ k, (∀ y0 y1 y2 y3 y4 y5, LeO (page_dict_parse.j0 k y0 y1 y2 y3 y4 y5) (page_dict_parse.j0 (k + 1) y0 y1 y2 y3 y4 y5)) ∧ (∀ y0 y1 y2 y3 y4 y5 y6 y7, LeO (page_dict_parse.l0 k y0 y1 y2 y3 y4 y5 y6 y7) (page_dict_parse.l0 (k + 1) y0 y1 y2 y3 y4 y5 y6 y7)) ∧ (∀ y0 y1 y2 y3 y4 y5 y6, LeO (page_dict_parse.l1 k y0 y1 y2 y3 y4 y5 y6) (page_dict_parse.l1 (k + 1) y0 y1 y2 y3 y4 y5 y6))
 | 0 => ⟨fun _ _ _ _ _ _ r h => by simp [page_dict_parse.j0] at h, fun _ _ _ _ _ _ _ _ r h => by simp [page_dict_parse.l0] at h, fun _ _ _ _ _ _ _ r h => by simp [page_dict_parse.l1] at h⟩
 | k + 1 => by
  obtain ⟨ih0, ih1, ih2⟩ := page_dict_parse.mono_l k
  refine ⟨?_, ?_, ?_⟩
  ·intro y0 y1 y2 y3 y4 y5
   unfold page_dict_parse.j0
   repeat' first
   | (with_reducible exact ih0 _ _ _ _ _ _)
   | (with_reducible exact ih1 _ _ _ _ _ _ _ _)
   | (with_reducible exact ih2 _ _ _ _ _ _ _)
   | (with_reducible exact page_read.mono _ _ _ _)
   | (with_reducible exact wire_ReadU.mono _ _ _)
   | (with_reducible exact LeO.refl _)
   | (with_reducible exact LeO.none _)
   | (with_reducible refine LeO.ite ?_ ?_)
   | (with_reducible refine LeO.bind ?_ (fun _ => ?_))
   | exact ih0 _ _ _ _ _ _
   | exact ih1 _ _ _ _ _ _ _ _
   | exact ih2 _ _ _ _ _ _ _
   | exact page_read.mono _ _ _ _
   | exact wire_ReadU.mono _ _ _
   | exact LeO.none _
   | refine LeO.ite ?_ ?_
   | refine LeO.bind ?_ (fun _ => ?_)
  ·intro y0 y1 y2 y3 y4 y5 y6 y7
   unfold page_dict_parse.l0
   repeat' first
   | (with_reducible exact ih0 _ _ _ _ _ _)
   | (with_reducible exact ih1 _ _ _ _ _ _ _ _)
   | (with_reducible exact ih2 _ _ _ _ _ _ _)
   | (with_reducible exact page_read.mono _ _ _ _)
   | (with_reducible exact wire_ReadU.mono _ _ _)
   | (with_reducible exact LeO.refl _)
   | (with_reducible exact LeO.none _)
   | (with_reducible refine LeO.ite ?_ ?_)
   | (with_reducible refine LeO.bind ?_ (fun _ => ?_))
   | exact ih0 _ _ _ _ _ _
   | exact ih1 _ _ _ _ _ _ _ _
   | exact ih2 _ _ _ _ _ _ _
   | exact page_read.mono _ _ _ _
   | exact wire_ReadU.mono _ _ _
   | exact LeO.none _
   | refine LeO.ite ?_ ?_
   | refine LeO.bind ?_ (fun _ => ?_)
  ·intro y0 y1 y2 y3 y4 y5 y6
   unfold page_dict_parse.l1
   repeat' first
   | (with_reducible exact ih0 _ _ _ _ _ _)
   | (with_reducible exact ih1 _ _ _ _ _ _ _ _)
   | (with_reducible exact ih2 _ _ _ _ _ _ _)
   | (with_reducible exact page_read.mono _ _ _ _)
   | (with_reducible exact wire_ReadU.mono _ _ _)
   | (with_reducible exact LeO.refl _)
   | (with_reducible exact LeO.none _)
   | (with_reducible refine LeO.ite ?_ ?_)
   | (with_reducible refine LeO.bind ?_ (fun _ => ?_))
   | exact ih0 _ _ _ _ _ _
   | exact ih1 _ _ _ _ _ _ _ _
   | exact ih2 _ _ _ _ _ _ _
   | exact page_read.mono _ _ _ _
   | exact wire_ReadU.mono _ _ _
   | exact LeO.none _
   | refine LeO.ite ?_ ?_
   | refine LeO.bind ?_ (fun _ => ?_)
theorem page_dict_parse.mono : ∀ a0 a1 a2 k, LeO (page_dict_parse.f k a0 a1 a2) (page_dict_parse.f (k + 1) a0 a1 a2) := by
 intro a0 a1 a2 k
 obtain ⟨ih0, ih1, ih2⟩ := page_dict_parse.mono_l k
 unfold page_dict_parse.f
 repeat' first
   | (with_reducible exact ih0 _ _ _ _ _ _)
   | (with_reducible exact ih1 _ _ _ _ _ _ _ _)
   | (with_reducible exact ih2 _ _ _ _ _ _ _)
   | (with_reducible exact page_read.mono _ _ _ _)
   | (with_reducible exact wire_ReadU.mono _ _ _)
   | (with_reducible exact LeO.refl _)
   | (with_reducible exact LeO.none _)
   | (with_reducible refine LeO.ite ?_ ?_)
   | (with_reducible refine LeO.bind ?_ (fun _ => ?_))
   | exact ih0 _ _ _ _ _ _
   | exact ih1 _ _ _ _ _ _ _ _
   | exact ih2 _ _ _ _ _ _ _
   | exact page_read.mono _ _ _ _
   | exact wire_ReadU.mono _ _ _
   | exact LeO.none _
   | refine LeO.ite ?_ ?_
   | refine LeO.bind ?_ (fun _ => ?_)
set_option maxHeartbeats 8000000 in
set_option maxRecDepth 100000 in
theorem page_dict_parse.calls (k : Nat)  (A1 : Option Addr) (c1 : Nat) (l1 : List Int) (a2 : Int) (a3 : Int) (r1 : List (S26)) (r2 : Bool) (w : World) (hr1 : Kd.C (Kd.int .u8) w A1 l1.length l1) (hc1 : l1.length ≤ c1) (h : page_dict_parse.f k l1 a2 a3 = some (r1, r2)) :
  Calls Try.prog 73 #[.agg #[], .slice A1 l1.length c1, .int .i64 a2, .int .i64 a3] w fun e w' => ∃ v0_ : Value, e = .returned (.tuple #[v0_, .bool r2]) ∧ Kd.R k26 26 w' w.heap.size (fun _ => True) v0_ r1 ∧ Below w.heap.size w w' := by
 have hu78 := Try.underlying78
 have hu26 := Try.underlying26
 have HR1 := Aside0.mk hr1
 have HC1 := Aside0.mk hc1
 clear hr1 hc1
 have HB := Aside0.mk (Below.refl w.heap.size w)
 have H : ((wire_ReadU.f k l1 0).bind fun bt102 => (if bt102.2.2 = 0 then (page_dict_parse.j0 k l1 a2 a3 bt102.1 bt102.2.1 (decide (bt102.1 > (IntKind.u64.wrap (a2))))) else (page_dict_parse.j0 k l1 a2 a3 bt102.1 bt102.2.1 true))) = some (r1, r2) := h
 clear h
 replace H := Option.bind_eq_some_iff.mp H
 obtain ⟨⟨t102, t103, t104⟩, A50, H⟩ := H
 (try dsimp only at H)
 have A5 := Aside0.mk A50
 clear A50
 have HC6 := Aside0.mk H
 clear H
 go_enter Try.func73, Try.ntmps73
 go_upto_region 2 with (first | ((with_reducible refine gate_dst (N := 4) rfl ?_); refine box_event ?hg (N := 4) ?hd (cs := #[]) (t := 78) ?hr ?_; (case hd => rfl); (case hg => rfl); (case hr => first | (go_simp; done) | (go_simp; rfl)); intro gb101 hg w7 hbox hb; have n0_ := Aside0.mk (below_step (xW HB.out) hb); have n1_ := Aside0.mk (hbox); have n2_ := Aside0.mk ((by rw [hg]; exact (below_size (xW HB.out)) : w.heap.size ≤ gb101)); have n3_ := Aside0.mk ((by rw [hg]; exact (below_size (xW HB.out)) : w.heap.size ≤ gb101)); clear HB; revert n0_ n1_ n2_ n3_; intro HB BK101 GW101 GE101; clear hb hbox hg) | ((with_reducible refine gate_callee (f := 30) rfl ?_); refine goesL_ (some 24) rfl rfl Try.func30 (by kernel_rfl) rfl #[.slice A1 l1.length c1, .int .i64 0] rfl (by (try simp only [List.map_toArray, List.map_cons, List.map_nil]) <;> rfl) ?_; (with_reducible refine (wire_ReadU.calls k _ _ l1 0 t102 t103 t104 _ ?side1 ?side2 A5.out).mono ?_); (case side1 => exact xC (Kd.C_below HR1.out HB.out)); (case side2 => exact HC1.out); rintro e w' ⟨rfl, ⟨nd, rfl⟩⟩; refine ⟨_, rfl, ?_⟩))
 (try simp only [Act.put, List.setIfInBounds_toArray, List.set_cons_zero, List.set_cons_succ])
 go_cut [35] (fun v35 wc => ∃ (kq : Nat) (x35_5 : Bool), v35 = .bool x35_5 ∧ Aside0 (page_dict_parse.j0 kq l1 a2 a3 t102 t103 x35_5 = some (r1, r2)) ∧ Aside0 (kq ≤ k) ∧ Aside0 (wc.heap[gb101]? = some (.cells #[] 78 (0, 0))) ∧ Aside0 (Below w.heap.size w wc))
 case first =>
  have H := HC6.out
  clear HC6
  by_cases c8 : t104 = 0
  rotate_left
  ·rw [if_neg c8] at H
   have c8b0 : (t104 == 0) = false := beq_eq_false_iff_ne.mpr c8
   have c8b1 : (t104 != 0) = true := bne_iff_ne.mpr c8
   (first | rw [c8b0] | (simp only [i64_w, i32_w]; rw [c8b0]) | skip)
   have H' := Aside0.mk H
   clear H
   go_wp2
   go_meet
   case rel => exact ⟨_, (true), (by first | rfl | (simp; done) | (simp [*]; done)), H', ⟨by first | omega | exact Nat.le_refl _⟩, ⟨by (with_reducible repeat (first | refine blk_drewN ?_ _ | refine blk_drew ?_ | refine blk_alloc ?_ _)); exact BK101.out⟩, ⟨by repeat (first | (with_reducible first | exact HB.out | apply below_alloc | apply pw_below_drewN | apply below_drew1 | refine below_set ?_ GE101.out) | exact HB.out)⟩⟩
  rw [if_pos c8] at H
  have c8b0 : (t104 == 0) = true := beq_iff_eq.mpr c8
  have c8b1 : (t104 != 0) = false := bne_eq_false_iff_eq.mpr c8
  clear c8
  (first | rw [c8b0] | (simp only [i64_w, i32_w]; rw [c8b0]) | skip)
  have H' := Aside0.mk H
  clear H
  go_wp2
  go_meet
  case rel => exact ⟨_, (decide (t102 > (IntKind.u64.wrap (a2)))), (by first | rfl | (simp; done) | (simp [*]; done)), H', ⟨by first | omega | exact Nat.le_refl _⟩, ⟨by (with_reducible repeat (first | refine blk_drewN ?_ _ | refine blk_drew ?_ | refine blk_alloc ?_ _)); exact BK101.out⟩, ⟨by repeat (first | (with_reducible first | exact HB.out | apply below_alloc | apply pw_below_drewN | apply below_drew1 | refine below_set ?_ GE101.out) | exact HB.out)⟩⟩
 case rest =>
  clear HC6
  try clear c1
  try clear p2
  try clear c3
  try clear c7
  try clear c8
  try clear c8b0
  try clear c8b1
  obtain ⟨kq, x35_5, rfl, HA, HJ5, BK101, HB⟩ := hcut
  cases kq with
  | zero => exact absurd HA.out (by simp [page_dict_parse.j0])
  | succ kj5 =>
   have H := HA.out
   clear HA
   simp only [page_dict_parse.j0] at H
   by_cases c9 : x35_5 = true
   ·subst c9
    rw [if_pos rfl] at H
    simp only [Option.some.injEq, Prod.mk.injEq] at H
    obtain ⟨rfl, rfl⟩ := H
    go_wp2
    go_ret2
    exact ⟨_, by first | rfl | simp [*], by first | exact Kd.R_nil _ _ _ _ _ | exact Kd.N_nil _ _ _ _ _ | exact Kd.V_nil _ _ _ _ _ | exact Kd.Q_nil _ _ _ _ _ | exact Kd.S_nil _ _ _ _ _, by repeat (first | (with_reducible first | exact HB.out | apply below_alloc | apply pw_below_drewN | apply below_drew1 | refine below_set ?_ GE101.out) | exact HB.out)⟩
   ·replace c9 := Bool.eq_false_iff.mpr c9
    subst c9
    rw [if_neg (show ¬ (false = true) by decide)] at H
    obtain ⟨y105, hy105⟩ : ∃ y_ : List (S26), y_ = (([(⟨true, 0, (⟨#[]⟩ : ByteArray)⟩ : S26)] : List (S26))) := ⟨_, rfl⟩
    replace H : (page_dict_parse.l0 kj5 l1 a2 a3 t102 t103 y105 t102 0) = some (r1, r2) := by first | (rw [hy105]; with_reducible exact H) | (have H2_ := (Option.bind_some _ _).symm.trans H; rw [hy105]; with_reducible exact H2_) | (have H2_ := (Option.bind_some _ _).symm.trans H; with_reducible exact H2_) | with_reducible exact H | (rw [hy105]; exact H) | exact H
    have Ny105 := Aside0.mk hy105
    clear hy105
    have H' := Aside0.mk H
    clear H
    go_wp2_with (first | ((with_reducible refine gate_dst (N := 37) rfl ?_); refine Kd.R_lit k26 _ 26 ?hg (N := 37) ?hd (xs := ([(⟨true, 0, (⟨#[]⟩ : ByteArray)⟩ : S26)] : List (S26))) (inner := [.bool true, .int .i64 0, .string (⟨#[]⟩ : ByteArray)]) (ok := fun _ => True) (okp := fun _ => True) ?hr ?hp (fun _ hk => hk) trivial (Below.refl _ _) (Nat.le_refl _) (by simp) ?_; (case hd => rfl); (case hg => rfl); (case hr => first | (go_simp; done) | (go_simp; rfl)); (case hp => exact (Reps.c3 (show Kd.M k26 _ _ _ (⟨true, 0, (⟨#[]⟩ : ByteArray)⟩ : S26) [.bool true, .int .i64 0, .string (⟨#[]⟩ : ByteArray)] from (k26_mkM _ _ _ (⟨true, 0, (⟨#[]⟩ : ByteArray)⟩ : S26) )) (Reps.none _ _))); intro v106 w10 ho11 hb hg_ hnew_; clear hg_ hnew_; (first | rw [← Ny105.out] at ho11 | (simp only [Int.reduceToNat] at ho11; rw [← Ny105.out] at ho11)); have n0_ := Aside0.mk (Kd.R_lower ho11 (below_size (xS HB.out (ge GE101.out g0)))); have n1_ := Aside0.mk (blk_below (xB BK101.out) hb); have n2_ := Aside0.mk (below_step (xS HB.out (ge GE101.out g0)) hb); clear BK101 HB; revert n0_ n1_ n2_; intro HO107 BK101 HB; clear hb ho11))
    go_loopg [11, 13, 39] kj5 (fun kq v11 v13 v39 w' => ∃ (x11_2 : Int) (x13_2 : List (S26)) (x39_2 : Int), v11 = .int .i64 x11_2 ∧ v39 = .int .u64 x39_2 ∧ Aside0 (page_dict_parse.l0 kq l1 a2 a3 t102 x11_2 x13_2 t102 x39_2 = some (r1, r2)) ∧ Aside0 (kq ≤ kj5) ∧ Aside0 (Kd.R k26 26 w' w.heap.size (fun _ => True) v13 x13_2) ∧ Aside0 (w'.heap[gb101]? = some (.cells #[] 78 (0, 0))) ∧ Aside0 (Below w.heap.size w w'))
    case atStart => exact ⟨(t103), (y105), (0), (by first | rfl | (simp; done) | (simp [*]; done)), (by first | rfl | (simp; done) | (simp [*]; done)), H', ⟨Nat.le_refl _⟩, ⟨by (with_reducible repeat (first | apply Kd.R_alloc | apply Kd.R_drewN | apply Kd.R_drew)); exact HO107.out⟩, ⟨by (with_reducible repeat (first | refine blk_drewN ?_ _ | refine blk_drew ?_ | refine blk_alloc ?_ _)); exact BK101.out⟩, ⟨by repeat (first | (with_reducible first | exact HB.out | apply below_alloc | apply pw_below_drewN | apply below_drew1 | refine below_set ?_ GE101.out) | exact HB.out)⟩⟩
    case round =>
     clear H'
     try clear c1
     try clear p2
     try clear c3
     try clear c7
     try clear c8
     try clear c8b0
     try clear c8b1
     try clear c9
     try clear p2
     obtain ⟨x11_2, x13_2, x39_2, rfl, rfl, HA, HK2, HO_13, BK101, HB⟩ := hrel
     cases gk with
     | zero => exact absurd HA.out (by simp [page_dict_parse.l0])
     | succ k2 =>
      have H := HA.out
      clear HA
      simp only [page_dict_parse.l0] at H
      by_cases c12 : x39_2 < t102
      ·rw [if_pos c12] at H
       have c12b0 : decide (x39_2 < t102) = true := decide_eq_true c12
       clear c12
       replace H := Option.bind_eq_some_iff.mp H
       obtain ⟨⟨t108, t109, t110, t111, t112⟩, A130, H⟩ := H
       (try dsimp only at H)
       have A13 := Aside0.mk A130
       clear A130
       by_cases c14 : t112 = true
       rotate_left
       ·replace c14 := Bool.eq_false_iff.mpr c14
        subst c14
        rw [if_neg (show ¬ (false = true) by decide)] at H
        simp only [Option.some.injEq, Prod.mk.injEq] at H
        obtain ⟨rfl, rfl⟩ := H
        go_wp2_with (first | ((with_reducible refine gate_callee (f := 68) rfl ?_); refine goesL_ (some 45) rfl rfl Try.func68 (by kernel_rfl) rfl #[.slice A1 l1.length c1, .int .i64 x11_2, .int .i64 a3] rfl (by (try simp only [List.map_toArray, List.map_cons, List.map_nil]) <;> rfl) ?_; (with_reducible refine (page_read.calls k2 _ _ l1 x11_2 a3 t108 t109 t110 t111 false _ ?side1 ?side2 A13.out).mono ?_); (case side1 => exact xC (Kd.C_below HR1.out HB.out)); (case side2 => exact HC1.out); rintro e w21 ⟨rfl, hb⟩; refine ⟨_, rfl, ?_⟩; have n1_ := Aside0.mk (blk_below (xB BK101.out) hb); have n2_ := Aside0.mk (below_step (xS HB.out (ge GE101.out g0)) hb); clear BK101 HB; revert n1_ n2_; intro BK101 HB; (try clear hb)) | ((with_reducible refine gate_dst (N := 14) rfl ?_); refine box_event ?hg (N := 14) ?hd (cs := #[.bool false, .int .i64 0, .string (⟨#[]⟩ : ByteArray)]) (t := 26) ?hr ?_; (case hd => rfl); (case hg => rfl); (case hr => first | (go_simp; done) | (go_simp; rfl)); intro gb113 hg w22 hbox hb; have n2_ := Aside0.mk (below_step (xS HB.out (ge GE101.out g0)) hb); have n3_ := Aside0.mk (hbox); have n5_ := Aside0.mk ((by rw [hg]; exact (below_size (xS HB.out (ge GE101.out g0))) : w.heap.size ≤ gb113)); have n6_ := Aside0.mk ((by rw [hg]; exact Nat.ne_of_lt (blk_lt (xB BK101.out)) : gb101 ≠ gb113)); have n7_ := Aside0.mk ((by rw [hg]; exact Nat.ne_of_gt (blk_lt (xB BK101.out)) : gb113 ≠ gb101)); clear BK101 HB; revert n2_ n3_ n5_ n6_ n7_; intro HB BK113 GE113 NB101_113 NB113_101; clear hb hbox hg; have hnb23 := NB113_101.out; have hnc23 := NB101_113.out; have hcz24_0 : w22.cell? ⟨gb113, 0, none⟩ = some (.bool false) := (blk_cell BK113.out 0).trans rfl; have hcz24_1 : w22.cell? ⟨gb113, 1, none⟩ = some (.int .i64 0) := (blk_cell BK113.out 1).trans rfl; have hcz24_2 : w22.cell? ⟨gb113, 2, none⟩ = some (.string (⟨#[]⟩ : ByteArray)) := (blk_cell BK113.out 2).trans rfl; have hfz24_0 := blk_frozen BK113.out 0; have hfz24_1 := blk_frozen BK113.out 1; have hfz24_2 := blk_frozen BK113.out 2))
        go_ret2
        exact ⟨_, by first | rfl | simp [*], by first | exact Kd.R_nil _ _ _ _ _ | exact Kd.N_nil _ _ _ _ _ | exact Kd.V_nil _ _ _ _ _ | exact Kd.Q_nil _ _ _ _ _ | exact Kd.S_nil _ _ _ _ _, by repeat (first | (with_reducible first | exact HB.out | apply below_alloc | apply pw_below_drewN | apply below_drew1 | refine below_set ?_ GE101.out | refine below_set ?_ GE113.out) | exact HB.out)⟩
       subst c14
       rw [if_pos rfl] at H
       by_cases c15 : x13_2.length < 4398046511104
       rotate_left
       ·rw [if_neg c15] at H
        exact absurd H (by simp)
       rw [if_pos c15] at H
       have LMc15 := Aside0.mk c15
       clear c15
       obtain ⟨y114, hy114⟩ : ∃ y_ : List (S26), y_ = (x13_2 ++ [(⟨t108, t109, t110⟩ : S26)]) := ⟨_, rfl⟩
       replace H : (page_dict_parse.l0 k2 l1 a2 a3 t102 t111 y114 t102 (IntKind.u64.wrap (x39_2 + 1))) = some (r1, r2) := by first | (rw [hy114]; with_reducible exact H) | (have H2_ := (Option.bind_some _ _).symm.trans H; rw [hy114]; with_reducible exact H2_) | (have H2_ := (Option.bind_some _ _).symm.trans H; with_reducible exact H2_) | with_reducible exact H | (rw [hy114]; exact H) | exact H
       have Ny114 := Aside0.mk hy114
       clear hy114
       have H' := Aside0.mk H
       clear H
       go_wp2_with (first | ((with_reducible refine gate_callee (f := 68) rfl ?_); refine goesL_ (some 45) rfl rfl Try.func68 (by kernel_rfl) rfl #[.slice A1 l1.length c1, .int .i64 x11_2, .int .i64 a3] rfl (by (try simp only [List.map_toArray, List.map_cons, List.map_nil]) <;> rfl) ?_; (with_reducible refine (page_read.calls k2 _ _ l1 x11_2 a3 t108 t109 t110 t111 true _ ?side1 ?side2 A13.out).mono ?_); (case side1 => exact xC (Kd.C_below HR1.out HB.out)); (case side2 => exact HC1.out); rintro e w16 ⟨rfl, hb⟩; refine ⟨_, rfl, ?_⟩; have n0_ := Aside0.mk (Kd.R_below (xR HO_13.out) hb); have n1_ := Aside0.mk (blk_below (xB BK101.out) hb); have n2_ := Aside0.mk (below_step (xS HB.out (ge GE101.out g0)) hb); clear HO_13 BK101 HB; revert n0_ n1_ n2_; intro HO_13 BK101 HB; (try clear hb)) | ((with_reducible refine gate_dst (N := 14) rfl ?_); refine box_event ?hg (N := 14) ?hd (cs := #[.bool false, .int .i64 0, .string (⟨#[]⟩ : ByteArray)]) (t := 26) ?hr ?_; (case hd => rfl); (case hg => rfl); (case hr => first | (go_simp; done) | (go_simp; rfl)); intro gb113 hg w17 hbox hb; have n0_ := Aside0.mk (Kd.R_below (Kd.R_elderB (xR HO_13.out) gb113 (Nat.le_of_eq hg.symm)) hb); have n1_ := Aside0.mk (blk_below (xB BK101.out) hb); have n2_ := Aside0.mk (below_step (xS HB.out (ge GE101.out g0)) hb); have n3_ := Aside0.mk (hbox); have n5_ := Aside0.mk ((by rw [hg]; exact (below_size (xS HB.out (ge GE101.out g0))) : w.heap.size ≤ gb113)); have n6_ := Aside0.mk ((by rw [hg]; exact Nat.ne_of_lt (blk_lt (xB BK101.out)) : gb101 ≠ gb113)); have n7_ := Aside0.mk ((by rw [hg]; exact Nat.ne_of_gt (blk_lt (xB BK101.out)) : gb113 ≠ gb101)); clear HO_13 BK101 HB; revert n0_ n1_ n2_ n3_ n5_ n6_ n7_; intro HO_13 BK101 HB BK113 GE113 NB101_113 NB113_101; clear hb hbox hg; have hnb18 := NB113_101.out; have hnc18 := NB101_113.out; have hcz19_0 : w17.cell? ⟨gb113, 0, none⟩ = some (.bool false) := (blk_cell BK113.out 0).trans rfl; have hcz19_1 : w17.cell? ⟨gb113, 1, none⟩ = some (.int .i64 0) := (blk_cell BK113.out 1).trans rfl; have hcz19_2 : w17.cell? ⟨gb113, 2, none⟩ = some (.string (⟨#[]⟩ : ByteArray)) := (blk_cell BK113.out 2).trans rfl; have hfz19_0 := blk_frozen BK113.out 0; have hfz19_1 := blk_frozen BK113.out 1; have hfz19_2 := blk_frozen BK113.out 2) | ((with_reducible refine gate_builtin (b := .append) (xs := #[.tmp 51, .tmp 53]) rfl ?_); at_builtin; refine Kd.R_append k26 (w0 := w) w.heap.size rfl (.tmp 51) (.tmp 53) 22 26 (.agg #[(.bool false), (.int .i64 0), (.string ⟨#[]⟩)]) 32 rfl Try.underlying22 info26 rfl (by decide) (by omega) u13 x13_2 (⟨t108, t109, t110⟩ : S26) [.bool t108, .int .i64 t109, .string t110] (fun k_ => k_ ≠ gb113) (fun _ => False) rfl (by first | (go_simp; done) | (go_simp; rfl)) ?aP (fun _ hk => hk.elim) ?aF ?aO ?aB ?aS ?aL ?_; (case aP => exact k26_mkM _ _ _ (⟨t108, t109, t110⟩ : S26)); (case aB => exact (xS HB.out (ge GE101.out (ge GE113.out g0)))); (case aF => exact (fun k_ hk => Kd.freshB (g := gb113) (o := .cells #[.bool t108, .int .i64 t109, .string t110] 26 (0, 0)) (xP BK113.out g0 rfl) k_ hk)); (case aO => exact (xR (Kd.R_mono (Kd.R_far (p := ⟨gb113, 2, none⟩) (Kd.R_far (p := ⟨gb113, 1, none⟩) (Kd.R_far (p := ⟨gb113, 0, none⟩) (Kd.R_mono HO_13.out (fun k_ hk => (⟨hk, hk.2⟩ : _ ∧ k_ ≠ gb113))) (fun _ hk => hk.2) (.bool t108)) (fun _ hk => hk.2) (.int .i64 t109)) (fun _ hk => hk.2) (.string t110)) (fun _ hk => hk.1.2)))); (case aS => exact (below_size (xS HB.out (ge GE101.out (ge GE113.out g0))))); (case aL => have := LMc15.out; omega); intro v115 w20 ho hb hg hat; rw [← Ny114.out] at ho; have n0_ := Aside0.mk (blk_grown (g := gb101) (o := .cells #[] 78 (0, 0)) (xF BK101.out (ge NB101_113.out g0)) hg (Kd.R_ne HO_13.out BK101.out (by decide))); have n2_ := Aside0.mk (hb); have n3_ := Aside0.mk (ho); clear BK101 BK113 HB HO_13; revert n0_ n2_ n3_; intro BK101 HB HO116; clear ho hb hg hat))
       go_roundg k2
       case measure => have := HJ5.out; have := HK2.out; omega
       case rel => exact ⟨(t111), (y114), (IntKind.u64.wrap (x39_2 + 1)), (by first | rfl | (simp; done) | (simp [*]; done)), (by first | rfl | (simp; done) | (simp [*]; done)), H', ⟨by have := HJ5.out; have := HK2.out; omega⟩, ⟨by (with_reducible repeat (first | apply Kd.R_alloc | apply Kd.R_drewN | apply Kd.R_drew)); exact Kd.R_mono HO116.out (fun _ hk => trivial)⟩, ⟨by (with_reducible repeat (first | refine blk_drewN ?_ _ | refine blk_drew ?_ | refine blk_alloc ?_ _)); exact BK101.out⟩, ⟨by repeat (first | (with_reducible first | exact HB.out | apply below_alloc | apply pw_below_drewN | apply below_drew1 | refine below_set ?_ GE101.out | refine below_set ?_ GE113.out) | exact HB.out)⟩⟩
      ·rw [if_neg c12] at H
       have c12b0 : decide (x39_2 < t102) = false := decide_eq_false c12
       clear c12
       by_cases c25 : 0 ≤ a2
       rotate_left
       ·rw [if_neg c25] at H
        exact absurd H (by simp)
       rw [if_pos c25] at H
       have c25b0 := eq_true c25
       have c25b1 : decide (0 ≤ a2) = true := decide_eq_true c25
       clear c25
       by_cases c26 : (a2 : Int).toNat ≤ 8796093022208
       rotate_left
       ·rw [if_neg c26] at H
        exact absurd H (by simp)
       rw [if_pos c26] at H
       have c26b0 := eq_true c26
       have c26b1 : decide ((a2 : Int).toNat ≤ 8796093022208) = true := decide_eq_true c26
       clear c26
       obtain ⟨y117, hy117⟩ : ∃ y_ : List (S26), y_ = (List.replicate (a2 : Int).toNat z26) := ⟨_, rfl⟩
       replace H : (page_dict_parse.l1 k2 l1 t102 x11_2 x13_2 y117 (y117.length : Int) 0) = some (r1, r2) := by first | (rw [hy117]; with_reducible exact H) | (have H2_ := (Option.bind_some _ _).symm.trans H; rw [hy117]; with_reducible exact H2_) | (have H2_ := (Option.bind_some _ _).symm.trans H; with_reducible exact H2_) | with_reducible exact H | (rw [hy117]; exact H) | exact H
       have Ny117 := Aside0.mk hy117
       clear hy117
       have H' := Aside0.mk H
       clear H
       go_wp2_with (first | ((with_reducible refine gate_dst (N := 58) rfl ?_); refine Kd.R_make k26 _ 26 rfl (N := 58) rfl 22 _ _ rfl a2 rfl rfl Try.underlying22 (.agg #[(.bool false), (.int .i64 0), (.string ⟨#[]⟩)]) 32 info26 rfl (by decide) (by omega) z26 (ok := fun _ => True) (okp := fun _ => True) (k26_mkM _ _ _ z26 ) (fun _ hk => hk) trivial (of_decide_eq_true (by first | (with_reducible assumption) | assumption)) (Nat.le_trans (Nat.mul_le_mul_right _ (of_decide_eq_true (by first | (with_reducible assumption) | assumption) : a2.toNat ≤ 8796093022208)) (by omega)) (Below.refl _ _) (Nat.le_refl _) ?_; intro v118 w27 ho28 hb hg_ hnew_; clear hg_ hnew_; (first | rw [← Ny117.out] at ho28 | (simp only [Int.reduceToNat] at ho28; rw [← Ny117.out] at ho28)); have n0_ := Aside0.mk (Kd.R_elder' (xR HO_13.out) (Kd.R_base ho28) hb); have n1_ := Aside0.mk (Kd.R_lower (Kd.R_new' ho28 (Kd.R_lt (xR HO_13.out))) (below_size (xS HB.out (ge GE101.out g0)))); have n2_ := Aside0.mk (blk_below (xB BK101.out) hb); have n3_ := Aside0.mk (below_step (xS HB.out (ge GE101.out g0)) hb); clear HO_13 BK101 HB; revert n0_ n1_ n2_ n3_; intro HO_13 HO119 BK101 HB; clear hb ho28; obtain ⟨Ao29, co29, eo29⟩ := Kd.R_slice HO119.out; subst eo29))
       go_loopg [11, 61] k2 (fun kq v11 v61 w' => ∃ (x11_3 : Int) (x17_3 : List (S26)) (x61_3 : Int), v11 = .int .i64 x11_3 ∧ v61 = .int .i64 x61_3 ∧ Aside0 (page_dict_parse.l1 kq l1 t102 x11_3 x13_2 x17_3 (y117.length : Int) x61_3 = some (r1, r2)) ∧ Aside0 (kq ≤ k2) ∧ Aside0 (Kd.R k26 26 w' w.heap.size (fun k_ => some k_ ≠ ((.slice Ao29 y117.length co29) : Value).ownBlock) u13 x13_2) ∧ Aside0 (Kd.R k26 26 w' w.heap.size (fun k_ => some k_ ≠ (u13 : Value).ownBlock) (.slice Ao29 y117.length co29) x17_3) ∧ Aside0 (w'.heap[gb101]? = some (.cells #[] 78 (0, 0))) ∧ Aside0 (Below w.heap.size w w'))
       case atStart => exact ⟨(x11_2), (y117), (0), (by first | rfl | (simp; done) | (simp [*]; done)), (by first | rfl | (simp; done) | (simp [*]; done)), H', ⟨Nat.le_refl _⟩, ⟨by (with_reducible repeat (first | apply Kd.R_alloc | apply Kd.R_drewN | apply Kd.R_drew)); exact Kd.R_mono HO_13.out (fun _ hk => hk.2)⟩, ⟨by (with_reducible repeat (first | apply Kd.R_alloc | apply Kd.R_drewN | apply Kd.R_drew)); exact Kd.R_mono HO119.out (fun _ hk => hk.2)⟩, ⟨by (with_reducible repeat (first | refine blk_drewN ?_ _ | refine blk_drew ?_ | refine blk_alloc ?_ _)); exact BK101.out⟩, ⟨by repeat (first | (with_reducible first | exact HB.out | apply below_alloc | apply pw_below_drewN | apply below_drew1 | refine below_set ?_ GE101.out) | exact HB.out)⟩⟩
       case round =>
        clear H'
        try clear c1
        try clear c2
        try clear p2
        try clear c3
        try clear c6
        try clear c7
        try clear c8
        try clear c8b0
        try clear c8b1
        try clear c9
        try clear c12
        try clear c12b0
        try clear c14
        try clear c15
        try clear c18
        try clear c23
        try clear c25
        try clear c25b0
        try clear c25b1
        try clear c26
        try clear c26b0
        try clear c26b1
        try clear hcz19_0
        try clear hcz19_1
        try clear hcz19_2
        try clear hcz24_0
        try clear hcz24_1
        try clear hcz24_2
        try clear hfz19_0
        try clear hfz19_1
        try clear hfz19_2
        try clear hfz24_0
        try clear hfz24_1
        try clear hfz24_2
        try clear p2
        obtain ⟨x11_3, x17_3, x61_3, rfl, rfl, HA, HK3, HO_13, HO_17, BK101, HB⟩ := hrel
        have hl17_3 := (Kd.R_reads' HO_17.out).1
        rw [hl17_3] at HO_17
        (try simp only [hl17_3])
        (try simp only [hl17_3] at BK101)
        (try simp only [hl17_3] at HO_13)
        cases gk with
        | zero => exact absurd HA.out (by simp [page_dict_parse.l1])
        | succ k3 =>
         have H := HA.out
         clear HA
         simp only [page_dict_parse.l1] at H
         by_cases c30 : x61_3 < (y117.length : Int)
         rotate_left
         ·rw [if_neg c30] at H
          have c30b0 : decide (x61_3 < (y117.length : Int)) = false := decide_eq_false c30
          (try (have c30b0h0 := c30b0; rw [hl17_3] at c30b0h0))
          clear c30
          simp only [Option.some.injEq, Prod.mk.injEq] at H
          obtain ⟨rfl, rfl⟩ := H
          go_wp2
          go_ret2
          exact ⟨_, by first | rfl | simp [*], by (with_reducible repeat (first | apply Kd.R_alloc | apply Kd.R_drewN | apply Kd.R_drew)); exact Kd.R_mono HO_17.out (fun _ hk => trivial), by repeat (first | (with_reducible first | exact HB.out | apply below_alloc | apply pw_below_drewN | apply below_drew1 | refine below_set ?_ GE101.out) | exact HB.out)⟩
         rw [if_pos c30] at H
         have c30b0 : decide (x61_3 < (y117.length : Int)) = true := decide_eq_true c30
         (try (have c30b0h0 := c30b0; rw [hl17_3] at c30b0h0))
         clear c30
         replace H := Option.bind_eq_some_iff.mp H
         obtain ⟨⟨t120, t121, t122⟩, A310, H⟩ := H
         (try dsimp only at H)
         have A31 := Aside0.mk A310
         clear A310
         by_cases c32 : t122 = 0
         rotate_left
         ·rw [if_neg c32] at H
          have c32b0 : (t122 == 0) = false := beq_eq_false_iff_ne.mpr c32
          have c32b1 : (t122 != 0) = true := bne_iff_ne.mpr c32
          simp only [Option.some.injEq, Prod.mk.injEq] at H
          obtain ⟨rfl, rfl⟩ := H
          go_wp2_with (first | ((with_reducible refine gate_callee (f := 30) rfl ?_); refine goesL_ (some 67) rfl rfl Try.func30 (by kernel_rfl) rfl #[.slice A1 l1.length c1, .int .i64 x11_3] rfl (by (try simp only [List.map_toArray, List.map_cons, List.map_nil]) <;> rfl) ?_; (with_reducible refine (wire_ReadU.calls k3 _ _ l1 x11_3 t120 t121 t122 _ ?side1 ?side2 A31.out).mono ?_); (case side1 => exact xC (Kd.C_below HR1.out HB.out)); (case side2 => exact HC1.out); rintro e w' ⟨rfl, ⟨nd, rfl⟩⟩; refine ⟨_, rfl, ?_⟩))
          go_ret2
          exact ⟨_, by first | rfl | simp [*], by first | exact Kd.R_nil _ _ _ _ _ | exact Kd.N_nil _ _ _ _ _ | exact Kd.V_nil _ _ _ _ _ | exact Kd.Q_nil _ _ _ _ _ | exact Kd.S_nil _ _ _ _ _, by repeat (first | (with_reducible first | exact HB.out | apply below_alloc | apply pw_below_drewN | apply below_drew1 | refine below_set ?_ GE101.out) | exact HB.out)⟩
         rw [if_pos c32] at H
         have c32b0 : (t122 == 0) = true := beq_iff_eq.mpr c32
         have c32b1 : (t122 != 0) = false := bne_eq_false_iff_eq.mpr c32
         clear c32
         by_cases c33 : t120 > t102
         ·rw [if_pos c33] at H
          have c33b0 : decide (t102 < t120) = true := decide_eq_true c33
          clear c33
          simp only [Option.some.injEq, Prod.mk.injEq] at H
          obtain ⟨rfl, rfl⟩ := H
          go_wp2_with (first | ((with_reducible refine gate_callee (f := 30) rfl ?_); refine goesL_ (some 67) rfl rfl Try.func30 (by kernel_rfl) rfl #[.slice A1 l1.length c1, .int .i64 x11_3] rfl (by (try simp only [List.map_toArray, List.map_cons, List.map_nil]) <;> rfl) ?_; (with_reducible refine (wire_ReadU.calls k3 _ _ l1 x11_3 t120 t121 t122 _ ?side1 ?side2 A31.out).mono ?_); (case side1 => exact xC (Kd.C_below HR1.out HB.out)); (case side2 => exact HC1.out); rintro e w' ⟨rfl, ⟨nd, rfl⟩⟩; refine ⟨_, rfl, ?_⟩))
          go_ret2
          exact ⟨_, by first | rfl | simp [*], by first | exact Kd.R_nil _ _ _ _ _ | exact Kd.N_nil _ _ _ _ _ | exact Kd.V_nil _ _ _ _ _ | exact Kd.Q_nil _ _ _ _ _ | exact Kd.S_nil _ _ _ _ _, by repeat (first | (with_reducible first | exact HB.out | apply below_alloc | apply pw_below_drewN | apply below_drew1 | refine below_set ?_ GE101.out) | exact HB.out)⟩
         ·rw [if_neg c33] at H
          have c33b0 : decide (t102 < t120) = false := decide_eq_false c33
          clear c33
          by_cases c34 : 0 ≤ t120
          rotate_left
          ·rw [if_neg c34] at H
           exact absurd H (by simp)
          rw [if_pos c34] at H
          have c34b0 : decide (0 ≤ t120) = true := decide_eq_true c34
          clear c34
          by_cases c35 : t120 < (x13_2.length : Int)
          rotate_left
          ·rw [if_neg c35] at H
           exact absurd H (by simp)
          rw [if_pos c35] at H
          have c35b0 : decide (t120 < (x13_2.length : Int)) = true := decide_eq_true c35
          (try (have c35b0h0 := c35b0; rw [hl17_3] at c35b0h0))
          clear c35
          by_cases c36 : 0 ≤ x61_3
          rotate_left
          ·rw [if_neg c36] at H
           exact absurd H (by simp)
          rw [if_pos c36] at H
          have c36b0 : decide (0 ≤ x61_3) = true := decide_eq_true c36
          clear c36
          by_cases c37 : x61_3 < (x17_3.length : Int)
          rotate_left
          ·rw [if_neg c37] at H
           exact absurd H (by simp)
          rw [if_pos c37] at H
          have c37b0 : decide (x61_3 < (x17_3.length : Int)) = true := decide_eq_true c37
          (try (have c37b0h0 := c37b0; rw [hl17_3] at c37b0h0))
          clear c37
          obtain ⟨y124, hy124⟩ : ∃ y_ : List (S26), y_ = (x17_3.set (x61_3 : Int).toNat (⟨(rd_T26 x13_2 t120).f0, (rd_T26 x13_2 t120).f1, (rd_T26 x13_2 t120).f2⟩ : S26)) := ⟨_, rfl⟩
          replace H : (page_dict_parse.l1 k3 l1 t102 t121 x13_2 y124 (y117.length : Int) (wrap64 (x61_3 + 1))) = some (r1, r2) := by first | (rw [hy124]; with_reducible exact H) | (have H2_ := (Option.bind_some _ _).symm.trans H; rw [hy124]; with_reducible exact H2_) | (have H2_ := (Option.bind_some _ _).symm.trans H; with_reducible exact H2_) | with_reducible exact H | (rw [hy124]; exact H) | exact H
          have Ny124 := Aside0.mk hy124
          clear hy124
          have H' := Aside0.mk H
          clear H
          go_wp2_with (first | ((with_reducible refine gate_callee (f := 30) rfl ?_); refine goesL_ (some 67) rfl rfl Try.func30 (by kernel_rfl) rfl #[.slice A1 l1.length c1, .int .i64 x11_3] rfl (by (try simp only [List.map_toArray, List.map_cons, List.map_nil]) <;> rfl) ?_; (with_reducible refine (wire_ReadU.calls k3 _ _ l1 x11_3 t120 t121 t122 _ ?side1 ?side2 A31.out).mono ?_); (case side1 => exact xC (Kd.C_below HR1.out HB.out)); (case side2 => exact HC1.out); rintro e w' ⟨rfl, ⟨nd, rfl⟩⟩; refine ⟨_, rfl, ?_⟩; (try (rw [drewN_self wr]; generalize hq_ : World.drewN wr _ = wr; have n0_ : Aside0 (Kd.R k26 26 wr w.heap.size (fun k_ => some k_ ≠ (.slice Ao29 x17_3.length co29 : Value).ownBlock) u13 x13_2) := ⟨by rw [← hq_]; exact (xR HO_13.out)⟩; have n1_ : Aside0 (Kd.R k26 26 wr w.heap.size (fun k_ => some k_ ≠ (u13 : Value).ownBlock) (.slice Ao29 x17_3.length co29) x17_3) := ⟨by rw [← hq_]; exact (xR HO_17.out)⟩; have n2_ : Aside0 (wr.heap[gb101]? = some (.cells #[] 78 (0, 0))) := ⟨by rw [← hq_]; exact (xB BK101.out)⟩; have n3_ : Aside0 (Below w.heap.size w wr) := ⟨by rw [← hq_]; exact (xS HB.out (ge GE101.out g0))⟩; clear HO_13 HO_17 BK101 HB hq_; revert n0_ n1_ n2_ n3_; intro HO_13 HO_17 BK101 HB)); obtain ⟨Ao39, co39, eo39⟩ := Kd.R_slice HO_13.out; subst eo39; have p123 : 0 ≤ (t120 : Int) := of_decide_eq_true (by first | (with_reducible assumption) | assumption); have q123 : t120 < (x13_2.length : Int) := of_decide_eq_true (by first | (with_reducible assumption) | assumption); obtain ⟨ad123, e123, hx123_0, hx123_1, hx123_2⟩ := at_T26 (Kd.R_reads' HO_13.out).2.2 t120 p123 q123; cases e123; replace p123 := eq_true p123; replace q123 := eq_true q123; have p38 : 0 ≤ (x61_3 : Int) := of_decide_eq_true (by first | (with_reducible assumption) | assumption); have q38 : (x61_3 : Int) < ((x17_3.length : Int) : Int) := of_decide_eq_true (by first | (with_reducible assumption) | assumption); obtain ⟨go38, co38, eo38, gb38, gl38, cl38, HG38⟩ := Kd.R_form HO_17.out (by omega); (first | cases eo38 | (injection eo38 with ea_ en_ ec_; (first | subst ea_ | (injection ea_ with ea_; subst ea_)); subst ec_; clear en_)); have GB38 := Aside0.mk gb38; have GG38 := Aside0.mk HG38; clear gb38 gl38 HG38; obtain ⟨ce38, hcl38, hM38, hcc38, hfr38⟩ := Kd.R_elem HO_17.out z26 (x61_3 : Int) p38 q38; obtain rfl := k26_openM hM38; have hx38_0 : wr.cell? ⟨go38, (x61_3 : Int).toNat * 3, none⟩ = some (.bool ((rd_T26 x17_3 x61_3).f0)) := hcc38 0 _ rfl; have hx38_1 : wr.cell? ⟨go38, (x61_3 : Int).toNat * 3 + 1, none⟩ = some (.int .i64 ((rd_T26 x17_3 x61_3).f1)) := hcc38 1 _ rfl; have hx38_2 : wr.cell? ⟨go38, (x61_3 : Int).toNat * 3 + 2, none⟩ = some (.string ((rd_T26 x17_3 x61_3).f2)) := hcc38 2 _ rfl; have hf38_0 : wr.frozen? ⟨go38, (x61_3 : Int).toNat * 3, none⟩ = false := hfr38 0; have hf38_1 : wr.frozen? ⟨go38, (x61_3 : Int).toNat * 3 + 1, none⟩ = false := hfr38 1; have hf38_2 : wr.frozen? ⟨go38, (x61_3 : Int).toNat * 3 + 2, none⟩ = false := hfr38 2; clear hcl38 hcc38 hfr38 hM38; replace p38 := eq_true p38; replace q38 := eq_true q38; have HX40 := Aside0.mk (show Kd.R k26 26 wr w.heap.size (fun k_ => some k_ ≠ (.slice (some ad123) x13_2.length co39 : Value).ownBlock) (.slice (some ⟨go38, 0, none⟩) x17_3.length co29) x17_3 from (xR HO_17.out)); obtain ⟨ce40, hcl40, hM40, hcc40, hfr40⟩ := Kd.R_elem HX40.out z26 (x61_3 : Int) (of_decide_eq_true (by first | (with_reducible assumption) | assumption)) (by have h_ : (x61_3 : Int) < ((x17_3.length : Int) : Int) := of_decide_eq_true (by first | (with_reducible assumption) | assumption); first | exact h_ | (have e_ := (Kd.R_reads' HO_17.out).1; omega) | simpa using h_); obtain rfl := k26_openM hM40; have HP40 := Kd.R_seg HX40.out (x61_3 : Int) (of_decide_eq_true (by first | (with_reducible assumption) | assumption)) (by have h_ : (x61_3 : Int) < ((x17_3.length : Int) : Int) := of_decide_eq_true (by first | (with_reducible assumption) | assumption); first | exact h_ | (have e_ := (Kd.R_reads' HO_17.out).1; omega) | simpa using h_) (seg := [.bool ((rd_T26 x13_2 t120).f0), .int .i64 ((rd_T26 x13_2 t120).f1), .string ((rd_T26 x13_2 t120).f2)]) (j := 0) hcl40 hcc40 (show 3 ≤ 3 from by decide) (x' := (⟨(rd_T26 x13_2 t120).f0, (rd_T26 x13_2 t120).f1, (rd_T26 x13_2 t120).f2⟩ : S26)) (k26_mkM _ _ _ (⟨(rd_T26 x13_2 t120).f0, (rd_T26 x13_2 t120).f1, (rd_T26 x13_2 t120).f2⟩ : S26) ) (fun _ hk => hk); have hx40_0 := hcc40 0 _ rfl; (try simp only [show (k26).sz = 3 from rfl, Nat.mul_one, Nat.add_zero] at hx40_0); have hf40_0 := hfr40 0; (try simp only [show (k26).sz = 3 from rfl, Nat.mul_one, Nat.add_zero] at hf40_0); have hx40_1 := hcc40 1 _ rfl; (try simp only [show (k26).sz = 3 from rfl, Nat.mul_one, Nat.add_zero] at hx40_1); have hf40_1 := hfr40 1; (try simp only [show (k26).sz = 3 from rfl, Nat.mul_one, Nat.add_zero] at hf40_1); have hx40_2 := hcc40 2 _ rfl; (try simp only [show (k26).sz = 3 from rfl, Nat.mul_one, Nat.add_zero] at hx40_2); have hf40_2 := hfr40 2; (try simp only [show (k26).sz = 3 from rfl, Nat.mul_one, Nat.add_zero] at hf40_2); clear hcl40 hcc40 hfr40 hM40) | ((with_reducible refine gate_store (t := 26) (p := 85) rfl ?_); refine store_event (t := 26) (p := 85) (v := ?vo_w41) (w1 := (((wr.setCell ⟨go38, (x61_3 : Int).toNat * 3, none⟩ (.bool ((rd_T26 x13_2 t120).f0))).setCell ⟨go38, (x61_3 : Int).toNat * 3 + 1, none⟩ (.int .i64 ((rd_T26 x13_2 t120).f1))).setCell ⟨go38, (x61_3 : Int).toNat * 3 + 2, none⟩ (.string ((rd_T26 x13_2 t120).f2)))) ?hg ?ho ?hn ?hr ?_; (case ho => rfl); (case hg => rfl); (case hn => rfl); (case hr => first | (go_simp; done) | (go_simp; rfl)); intro w41 hw; have hg : wr.grownBy w41 (some go38) := (by rw [hw]; exact HP40.2); have hp_ : Kd.R k26 26 w41 w.heap.size (fun k_ => some k_ ≠ (.slice (some ad123) x13_2.length co39 : Value).ownBlock) (.slice (some ⟨go38, 0, none⟩) x17_3.length co29) y124 := (by rw [hw, Ny124.out]; exact HP40.1); clear HP40; have n0_ := Aside0.mk (Kd.R_after (v := (.slice (some ⟨go38, 0, none⟩) x17_3.length co29)) (v1 := (.slice (some ⟨go38, 0, none⟩) x17_3.length co29)) (ok := (fun _ => True)) (xR (Kd.R_mono HO_13.out (fun _ hk => ⟨trivial, hk⟩))) hg (.inl rfl)); have n1_ := Aside0.mk (hp_); have n2_ := Aside0.mk (blk_grown (g := gb101) (o := .cells #[] 78 (0, 0)) (xB BK101.out) hg (Kd.R_ne HO_17.out BK101.out (by decide))); have n3_ := Aside0.mk ((by rw [hw]; exact below_set (below_set (below_set (HB.out) GB38.out) GB38.out) GB38.out : Below w.heap.size w w41)); clear HO_13 HO_17 BK101 HB; revert n0_ n1_ n2_ n3_; intro HO_13 HO_17 BK101 HB; clear hg hw hp_))
          (try simp only [← hl17_3])
          go_roundg k3
          case measure => have := HJ5.out; have := HK2.out; have := HK3.out; omega
          case rel => exact ⟨(t121), (y124), (wrap64 (x61_3 + 1)), (by first | rfl | (simp; done) | (simp [*]; done)), (by first | rfl | (simp; done) | (simp [*]; done)), H', ⟨by have := HJ5.out; have := HK2.out; have := HK3.out; omega⟩, ⟨by (try simp only [hl17_3]); (with_reducible repeat (first | apply Kd.R_alloc | apply Kd.R_drewN | apply Kd.R_drew)); exact Kd.R_mono HO_13.out (fun _ hk => hk.2)⟩, ⟨by (try simp only [hl17_3]); (with_reducible repeat (first | apply Kd.R_alloc | apply Kd.R_drewN | apply Kd.R_drew)); exact HO_17.out⟩, ⟨by (try simp only [hl17_3]); (with_reducible repeat (first | refine blk_drewN ?_ _ | refine blk_drew ?_ | refine blk_alloc ?_ _)); exact BK101.out⟩, ⟨by repeat (first | (with_reducible first | exact HB.out | apply below_alloc | apply pw_below_drewN | apply below_drew1 | refine below_set ?_ GE101.out) | exact HB.out)⟩⟩
def page_masked_values.l0 : Nat → List Int → Int → Int → List (S26) → Int → Int → Option ((List (S26)) × Bool)
 | 0, _, _, _, _, _, _ => none
 | k + 1, x1, x3, x10, x11, x26, x27 => if x27 < x26 then (if 0 ≤ (wrap64 (Int.tdiv x27 8)) then (if (wrap64 (Int.tdiv x27 8)) < (x1.length : Int) then (if 0 ≤ (Int.tmod x27 8) then (if (Go.bits .and .u8 (shr .u8 (rd x1 (wrap64 (Int.tdiv x27 8))) (Int.tmod x27 8)) 1) = 1 then (if 0 ≤ x27 then (if x27 < (x11.length : Int) then (page_masked_values.l0 k x1 x3 x10 (x11.set (x27 : Int).toNat (⟨true, (rd_T26 x11 x27).f1, (rd_T26 x11 x27).f2⟩ : S26)) x26 (wrap64 (x27 + 1))) else (none)) else (none)) else ((page_read.f k x1 x10 x3).bind fun bt107 => (if bt107.2.2.2.2 = true then (if 0 ≤ x27 then (if x27 < (x11.length : Int) then (page_masked_values.l0 k x1 x3 bt107.2.2.2.1 (x11.set (x27 : Int).toNat (⟨bt107.1, bt107.2.1, bt107.2.2.1⟩ : S26)) x26 (wrap64 (x27 + 1))) else (none)) else (none)) else (some (([] : List (S26)), false))))) else (none)) else (none)) else (none)) else (some (x11, true))
def page_masked_values.f (k : Nat)  (l1 : List Int) (a2 : Int) (a3 : Int) : Option ((List (S26)) × Bool) := if (wrap64 (Int.tdiv (wrap64 (a2 + 7)) 8)) > (l1.length : Int) then (some (([] : List (S26)), false)) else (if 0 ≤ a2 then (if (a2 : Int).toNat ≤ 8796093022208 then ((some (List.replicate (a2 : Int).toNat z26 : List (S26))).bind fun y102 => (page_masked_values.l0 k l1 a3 (wrap64 (Int.tdiv (wrap64 (a2 + 7)) 8)) y102 (y102.length : Int) 0)) else (none)) else (none))
theorem page_masked_values.mono_l : ∀ k, (∀ y0 y1 y2 y3 y4 y5, LeO (page_masked_values.l0 k y0 y1 y2 y3 y4 y5) (page_masked_values.l0 (k + 1) y0 y1 y2 y3 y4 y5))
 | 0 => fun _ _ _ _ _ _ r h => by simp [page_masked_values.l0] at h
 | k + 1 => by
  have ih0 := page_masked_values.mono_l k
  ·intro y0 y1 y2 y3 y4 y5
   unfold page_masked_values.l0
   repeat' first
   | (with_reducible exact ih0 _ _ _ _ _ _)
   | (with_reducible exact page_read.mono _ _ _ _)
   | (with_reducible exact LeO.refl _)
   | (with_reducible exact LeO.none _)
   | (with_reducible refine LeO.ite ?_ ?_)
   | (with_reducible refine LeO.bind ?_ (fun _ => ?_))
   | exact ih0 _ _ _ _ _ _
   | exact page_read.mono _ _ _ _
   | exact LeO.none _
   | refine LeO.ite ?_ ?_
   | refine LeO.bind ?_ (fun _ => ?_)
theorem page_masked_values.mono : ∀ a0 a1 a2 k, LeO (page_masked_values.f k a0 a1 a2) (page_masked_values.f (k + 1) a0 a1 a2) := by
 intro a0 a1 a2 k
 have ih0 := page_masked_values.mono_l k
 unfold page_masked_values.f
 repeat' first
   | (with_reducible exact ih0 _ _ _ _ _ _)
   | (with_reducible exact page_read.mono _ _ _ _)
   | (with_reducible exact LeO.refl _)
   | (with_reducible exact LeO.none _)
   | (with_reducible refine LeO.ite ?_ ?_)
   | (with_reducible refine LeO.bind ?_ (fun _ => ?_))
   | exact ih0 _ _ _ _ _ _
   | exact page_read.mono _ _ _ _
   | exact LeO.none _
   | refine LeO.ite ?_ ?_
   | refine LeO.bind ?_ (fun _ => ?_)
set_option maxHeartbeats 8000000 in
set_option maxRecDepth 100000 in
theorem page_masked_values.calls (k : Nat)  (A1 : Option Addr) (c1 : Nat) (l1 : List Int) (a2 : Int) (a3 : Int) (r1 : List (S26)) (r2 : Bool) (w : World) (hr1 : Kd.C (Kd.int .u8) w A1 l1.length l1) (hc1 : l1.length ≤ c1) (h : page_masked_values.f k l1 a2 a3 = some (r1, r2)) :
  Calls Try.prog 65 #[.agg #[], .slice A1 l1.length c1, .int .i64 a2, .int .i64 a3] w fun e w' => ∃ v0_ : Value, e = .returned (.tuple #[v0_, .bool r2]) ∧ Kd.R k26 26 w' w.heap.size (fun _ => True) v0_ r1 ∧ Below w.heap.size w w' := by
 have hu75 := Try.underlying75
 have hu26 := Try.underlying26
 have HR1 := Aside0.mk hr1
 have HC1 := Aside0.mk hc1
 clear hr1 hc1
 have HB := Aside0.mk (Below.refl w.heap.size w)
 have H : (if (wrap64 (Int.tdiv (wrap64 (a2 + 7)) 8)) > (l1.length : Int) then (some (([] : List (S26)), false)) else (if 0 ≤ a2 then (if (a2 : Int).toNat ≤ 8796093022208 then ((some (List.replicate (a2 : Int).toNat z26 : List (S26))).bind fun y102 => (page_masked_values.l0 k l1 a3 (wrap64 (Int.tdiv (wrap64 (a2 + 7)) 8)) y102 (y102.length : Int) 0)) else (none)) else (none))) = some (r1, r2) := h
 clear h
 by_cases c5 : (wrap64 (Int.tdiv (wrap64 (a2 + 7)) 8)) > (l1.length : Int)
 ·rw [if_pos c5] at H
  have c5b0 : decide ((l1.length : Int) < (wrap64 (Int.tdiv (wrap64 (a2 + 7)) 8))) = true := decide_eq_true c5
  (try (have c5b0h0 := c5b0; rw [hl11_1] at c5b0h0))
  clear c5
  simp only [Option.some.injEq, Prod.mk.injEq] at H
  obtain ⟨rfl, rfl⟩ := H
  go_enter Try.func65, Try.ntmps65
  go_wp2_with (first | ((with_reducible refine gate_dst (N := 4) rfl ?_); refine box_event ?hg (N := 4) ?hd (cs := #[]) (t := 75) ?hr ?_; (case hd => rfl); (case hg => rfl); (case hr => first | (go_simp; done) | (go_simp; rfl)); intro gb101 hg w6 hbox hb; have n0_ := Aside0.mk (below_step (xW HB.out) hb); have n3_ := Aside0.mk ((by rw [hg]; exact (below_size (xW HB.out)) : w.heap.size ≤ gb101)); clear HB; revert n0_ n3_; intro HB GE101; clear hb hbox hg))
  go_ret2
  exact ⟨_, by first | rfl | simp [*], by first | exact Kd.R_nil _ _ _ _ _ | exact Kd.N_nil _ _ _ _ _ | exact Kd.V_nil _ _ _ _ _ | exact Kd.Q_nil _ _ _ _ _ | exact Kd.S_nil _ _ _ _ _, by repeat (first | (with_reducible first | exact HB.out | apply below_alloc | apply pw_below_drewN | apply below_drew1 | refine below_set ?_ GE101.out) | exact HB.out)⟩
 ·rw [if_neg c5] at H
  have c5b0 : decide ((l1.length : Int) < (wrap64 (Int.tdiv (wrap64 (a2 + 7)) 8))) = false := decide_eq_false c5
  (try (have c5b0h0 := c5b0; rw [hl11_1] at c5b0h0))
  clear c5
  by_cases c7 : 0 ≤ a2
  rotate_left
  ·rw [if_neg c7] at H
   exact absurd H (by simp)
  rw [if_pos c7] at H
  have c7b0 := eq_true c7
  have c7b1 : decide (0 ≤ a2) = true := decide_eq_true c7
  clear c7
  by_cases c8 : (a2 : Int).toNat ≤ 8796093022208
  rotate_left
  ·rw [if_neg c8] at H
   exact absurd H (by simp)
  rw [if_pos c8] at H
  have c8b0 := eq_true c8
  have c8b1 : decide ((a2 : Int).toNat ≤ 8796093022208) = true := decide_eq_true c8
  clear c8
  obtain ⟨y102, hy102⟩ : ∃ y_ : List (S26), y_ = (List.replicate (a2 : Int).toNat z26) := ⟨_, rfl⟩
  replace H : (page_masked_values.l0 k l1 a3 (wrap64 (Int.tdiv (wrap64 (a2 + 7)) 8)) y102 (y102.length : Int) 0) = some (r1, r2) := by first | (rw [hy102]; with_reducible exact H) | (have H2_ := (Option.bind_some _ _).symm.trans H; rw [hy102]; with_reducible exact H2_) | (have H2_ := (Option.bind_some _ _).symm.trans H; with_reducible exact H2_) | with_reducible exact H | (rw [hy102]; exact H) | exact H
  have Ny102 := Aside0.mk hy102
  clear hy102
  have H' := Aside0.mk H
  clear H
  go_enter Try.func65, Try.ntmps65
  go_wp2_with (first | ((with_reducible refine gate_dst (N := 4) rfl ?_); refine box_event ?hg (N := 4) ?hd (cs := #[]) (t := 75) ?hr ?_; (case hd => rfl); (case hg => rfl); (case hr => first | (go_simp; done) | (go_simp; rfl)); intro gb101 hg w9 hbox hb; have n0_ := Aside0.mk (below_step (xW HB.out) hb); have n1_ := Aside0.mk (hbox); have n3_ := Aside0.mk ((by rw [hg]; exact (below_size (xW HB.out)) : w.heap.size ≤ gb101)); clear HB; revert n0_ n1_ n3_; intro HB BK101 GE101; clear hb hbox hg) | ((with_reducible refine gate_dst (N := 24) rfl ?_); refine Kd.R_make k26 _ 26 rfl (N := 24) rfl 22 _ _ rfl a2 rfl rfl Try.underlying22 (.agg #[(.bool false), (.int .i64 0), (.string ⟨#[]⟩)]) 32 info26 rfl (by decide) (by omega) z26 (ok := fun _ => True) (okp := fun _ => True) (k26_mkM _ _ _ z26 ) (fun _ hk => hk) trivial (of_decide_eq_true (by first | (with_reducible assumption) | assumption)) (Nat.le_trans (Nat.mul_le_mul_right _ (of_decide_eq_true (by first | (with_reducible assumption) | assumption) : a2.toNat ≤ 8796093022208)) (by omega)) (Below.refl _ _) (Nat.le_refl _) ?_; intro v103 w10 ho11 hb hg_ hnew_; clear hg_ hnew_; (first | rw [← Ny102.out] at ho11 | (simp only [Int.reduceToNat] at ho11; rw [← Ny102.out] at ho11)); have n0_ := Aside0.mk (Kd.R_lower ho11 (below_size (xS HB.out (ge GE101.out g0)))); have n1_ := Aside0.mk (blk_below (xB BK101.out) hb); have n2_ := Aside0.mk (below_step (xS HB.out (ge GE101.out g0)) hb); clear BK101 HB; revert n0_ n1_ n2_; intro HO104 BK101 HB; clear hb ho11; obtain ⟨Ao12, co12, eo12⟩ := Kd.R_slice HO104.out; subst eo12))
  go_loopg [10, 27] k (fun kq v10 v27 w' => ∃ (x10_1 : Int) (x11_1 : List (S26)) (x27_1 : Int), v10 = .int .i64 x10_1 ∧ v27 = .int .i64 x27_1 ∧ Aside0 (page_masked_values.l0 kq l1 a3 x10_1 x11_1 (y102.length : Int) x27_1 = some (r1, r2)) ∧ Aside0 (kq ≤ k) ∧ Aside0 (Kd.R k26 26 w' w.heap.size (fun _ => True) (.slice Ao12 y102.length co12) x11_1) ∧ Aside0 (w'.heap[gb101]? = some (.cells #[] 75 (0, 0))) ∧ Aside0 (Below w.heap.size w w'))
  case atStart => exact ⟨(wrap64 (Int.tdiv (wrap64 (a2 + 7)) 8)), (y102), (0), (by first | rfl | (simp; done) | (simp [*]; done)), (by first | rfl | (simp; done) | (simp [*]; done)), H', ⟨Nat.le_refl _⟩, ⟨by (with_reducible repeat (first | apply Kd.R_alloc | apply Kd.R_drewN | apply Kd.R_drew)); exact HO104.out⟩, ⟨by (with_reducible repeat (first | refine blk_drewN ?_ _ | refine blk_drew ?_ | refine blk_alloc ?_ _)); exact BK101.out⟩, ⟨by repeat (first | (with_reducible first | exact HB.out | apply below_alloc | apply pw_below_drewN | apply below_drew1 | refine below_set ?_ GE101.out) | exact HB.out)⟩⟩
  case round =>
   clear H'
   try clear c1
   try clear p2
   try clear c5
   try clear c5b0
   try clear c6
   try clear p6
   try clear c7
   try clear c7b0
   try clear c7b1
   try clear c8
   try clear c8b0
   try clear c8b1
   obtain ⟨x10_1, x11_1, x27_1, rfl, rfl, HA, HK1, HO_11, BK101, HB⟩ := hrel
   have hl11_1 := (Kd.R_reads' HO_11.out).1
   rw [hl11_1] at HO_11
   (try simp only [hl11_1])
   (try simp only [hl11_1] at BK101)
   cases gk with
   | zero => exact absurd HA.out (by simp [page_masked_values.l0])
   | succ k1 =>
    have H := HA.out
    clear HA
    simp only [page_masked_values.l0] at H
    by_cases c13 : x27_1 < (y102.length : Int)
    rotate_left
    ·rw [if_neg c13] at H
     have c13b0 : decide (x27_1 < (y102.length : Int)) = false := decide_eq_false c13
     (try (have c13b0h0 := c13b0; rw [hl11_1] at c13b0h0))
     clear c13
     simp only [Option.some.injEq, Prod.mk.injEq] at H
     obtain ⟨rfl, rfl⟩ := H
     go_wp2
     go_ret2
     exact ⟨_, by first | rfl | simp [*], by (with_reducible repeat (first | apply Kd.R_alloc | apply Kd.R_drewN | apply Kd.R_drew)); exact HO_11.out, by repeat (first | (with_reducible first | exact HB.out | apply below_alloc | apply pw_below_drewN | apply below_drew1 | refine below_set ?_ GE101.out) | exact HB.out)⟩
    rw [if_pos c13] at H
    have c13b0 : decide (x27_1 < (y102.length : Int)) = true := decide_eq_true c13
    (try (have c13b0h0 := c13b0; rw [hl11_1] at c13b0h0))
    clear c13
    obtain ⟨ji14, hji14⟩ : ∃ j_ : Int, (wrap64 (Int.tdiv x27_1 8)) = j_ := ⟨_, rfl⟩
    replace H : (if 0 ≤ (ji14) then (if (ji14) < (l1.length : Int) then (if 0 ≤ (Int.tmod x27_1 8) then (if (Go.bits .and .u8 (shr .u8 (rd l1 (ji14)) (Int.tmod x27_1 8)) 1) = 1 then (if 0 ≤ x27_1 then (if x27_1 < (x11_1.length : Int) then (page_masked_values.l0 k1 l1 a3 x10_1 (x11_1.set (x27_1 : Int).toNat (⟨true, (rd_T26 x11_1 x27_1).f1, (rd_T26 x11_1 x27_1).f2⟩ : S26)) (y102.length : Int) (wrap64 (x27_1 + 1))) else (none)) else (none)) else ((page_read.f k1 l1 x10_1 a3).bind fun bt107 => (if bt107.2.2.2.2 = true then (if 0 ≤ x27_1 then (if x27_1 < (x11_1.length : Int) then (page_masked_values.l0 k1 l1 a3 bt107.2.2.2.1 (x11_1.set (x27_1 : Int).toNat (⟨bt107.1, bt107.2.1, bt107.2.2.1⟩ : S26)) (y102.length : Int) (wrap64 (x27_1 + 1))) else (none)) else (none)) else (some (([] : List (S26)), false))))) else (none)) else (none)) else (none)) = some (r1, r2) := by first | (rw [hji14] at H; exact H) | (simp only [hji14] at H ⊢; exact H)
    have hji14w : (IntKind.i64.wrap (Int.tdiv x27_1 8)) = ji14 := (i64_w _).trans hji14
    by_cases c15 : 0 ≤ (ji14)
    rotate_left
    ·rw [if_neg c15] at H
     exact absurd H (by simp)
    rw [if_pos c15] at H
    have c15b0 : decide (0 ≤ (ji14)) = true := decide_eq_true c15
    clear c15
    by_cases c16 : (ji14) < (l1.length : Int)
    rotate_left
    ·rw [if_neg c16] at H
     exact absurd H (by simp)
    rw [if_pos c16] at H
    have c16b0 : decide ((ji14) < (l1.length : Int)) = true := decide_eq_true c16
    (try (have c16b0h0 := c16b0; rw [hl11_1] at c16b0h0))
    clear c16
    obtain ⟨ji17, hji17⟩ : ∃ j_ : Int, (Int.tmod x27_1 8) = j_ := ⟨_, rfl⟩
    replace H : (if 0 ≤ (ji17) then (if (Go.bits .and .u8 (shr .u8 (rd l1 (ji14)) (ji17)) 1) = 1 then (if 0 ≤ x27_1 then (if x27_1 < (x11_1.length : Int) then (page_masked_values.l0 k1 l1 a3 x10_1 (x11_1.set (x27_1 : Int).toNat (⟨true, (rd_T26 x11_1 x27_1).f1, (rd_T26 x11_1 x27_1).f2⟩ : S26)) (y102.length : Int) (wrap64 (x27_1 + 1))) else (none)) else (none)) else ((page_read.f k1 l1 x10_1 a3).bind fun bt107 => (if bt107.2.2.2.2 = true then (if 0 ≤ x27_1 then (if x27_1 < (x11_1.length : Int) then (page_masked_values.l0 k1 l1 a3 bt107.2.2.2.1 (x11_1.set (x27_1 : Int).toNat (⟨bt107.1, bt107.2.1, bt107.2.2.1⟩ : S26)) (y102.length : Int) (wrap64 (x27_1 + 1))) else (none)) else (none)) else (some (([] : List (S26)), false))))) else (none)) = some (r1, r2) := by first | (rw [hji17] at H; exact H) | (simp only [hji17] at H ⊢; exact H)
    by_cases c18 : 0 ≤ (ji17)
    rotate_left
    ·rw [if_neg c18] at H
     exact absurd H (by simp)
    rw [if_pos c18] at H
    have c18b0 := eq_true c18
    have c18b1 : decide (0 ≤ (ji17)) = true := decide_eq_true c18
    clear c18
    obtain ⟨ji19, hji19⟩ : ∃ j_ : Int, (shr .u8 (rd l1 (ji14)) (ji17)) = j_ := ⟨_, rfl⟩
    replace H : (if (Go.bits .and .u8 (ji19) 1) = 1 then (if 0 ≤ x27_1 then (if x27_1 < (x11_1.length : Int) then (page_masked_values.l0 k1 l1 a3 x10_1 (x11_1.set (x27_1 : Int).toNat (⟨true, (rd_T26 x11_1 x27_1).f1, (rd_T26 x11_1 x27_1).f2⟩ : S26)) (y102.length : Int) (wrap64 (x27_1 + 1))) else (none)) else (none)) else ((page_read.f k1 l1 x10_1 a3).bind fun bt107 => (if bt107.2.2.2.2 = true then (if 0 ≤ x27_1 then (if x27_1 < (x11_1.length : Int) then (page_masked_values.l0 k1 l1 a3 bt107.2.2.2.1 (x11_1.set (x27_1 : Int).toNat (⟨bt107.1, bt107.2.1, bt107.2.2.1⟩ : S26)) (y102.length : Int) (wrap64 (x27_1 + 1))) else (none)) else (none)) else (some (([] : List (S26)), false))))) = some (r1, r2) := by first | (rw [hji19] at H; exact H) | (simp only [hji19] at H ⊢; exact H)
    have hji19_ : ((rd l1 (ji14)) / 2 ^ min (ji17).toNat 8) = ji19 := hji19
    have hji19z : (ji17) ≤ 8 → ((rd l1 (ji14)) / 2 ^ (ji17).toNat) = ji19 := shr_small hji19
    by_cases c20 : (Go.bits .and .u8 (ji19) 1) = 1
    ·rw [if_pos c20] at H
     have c20b0 : ((Go.bits .and .u8 (ji19) 1) == 1) = true := beq_iff_eq.mpr c20
     have c20b1 : ((Go.bits .and .u8 (ji19) 1) != 1) = false := bne_eq_false_iff_eq.mpr c20
     clear c20
     by_cases c21 : 0 ≤ x27_1
     rotate_left
     ·rw [if_neg c21] at H
      exact absurd H (by simp)
     rw [if_pos c21] at H
     have c21b0 : decide (0 ≤ x27_1) = true := decide_eq_true c21
     clear c21
     by_cases c22 : x27_1 < (x11_1.length : Int)
     rotate_left
     ·rw [if_neg c22] at H
      exact absurd H (by simp)
     rw [if_pos c22] at H
     have c22b0 : decide (x27_1 < (x11_1.length : Int)) = true := decide_eq_true c22
     (try (have c22b0h0 := c22b0; rw [hl11_1] at c22b0h0))
     clear c22
     obtain ⟨y106, hy106⟩ : ∃ y_ : List (S26), y_ = (x11_1.set (x27_1 : Int).toNat (⟨true, (rd_T26 x11_1 x27_1).f1, (rd_T26 x11_1 x27_1).f2⟩ : S26)) := ⟨_, rfl⟩
     replace H : (page_masked_values.l0 k1 l1 a3 x10_1 y106 (y102.length : Int) (wrap64 (x27_1 + 1))) = some (r1, r2) := by first | (rw [hy106]; with_reducible exact H) | (have H2_ := (Option.bind_some _ _).symm.trans H; rw [hy106]; with_reducible exact H2_) | (have H2_ := (Option.bind_some _ _).symm.trans H; with_reducible exact H2_) | with_reducible exact H | (rw [hy106]; exact H) | exact H
     have Ny106 := Aside0.mk hy106
     clear hy106
     have H' := Aside0.mk H
     clear H
     have p105 : 0 ≤ ((ji14) : Int) := of_decide_eq_true (by first | (with_reducible assumption) | assumption)
     have q105 : (ji14) < (l1.length : Int) := of_decide_eq_true (by first | (with_reducible assumption) | assumption)
     obtain ⟨ad105, e105, hx105_0⟩ := Kd.at_int HR1.out (ji14) p105 q105
     cases e105
     replace hx105_0 := (HB.out.cell (World.block_lt_of_cell? w _ hx105_0)).trans hx105_0
     replace p105 := eq_true p105
     replace q105 := eq_true q105
     have p23 : 0 ≤ (x27_1 : Int) := of_decide_eq_true (by first | (with_reducible assumption) | assumption)
     have q23 : (x27_1 : Int) < ((x11_1.length : Int) : Int) := of_decide_eq_true (by first | (with_reducible assumption) | assumption)
     obtain ⟨go23, co23, eo23, gb23, gl23, cl23, HG23⟩ := Kd.R_form HO_11.out (by omega)
     (first | cases eo23 | (injection eo23 with ea_ en_ ec_; (first | subst ea_ | (injection ea_ with ea_; subst ea_)); subst ec_; clear en_))
     have GB23 := Aside0.mk gb23
     have GG23 := Aside0.mk HG23
     clear gb23 gl23 HG23
     obtain ⟨ce23, hcl23, hM23, hcc23, hfr23⟩ := Kd.R_elem HO_11.out z26 (x27_1 : Int) p23 q23
     obtain rfl := k26_openM hM23
     have hx23_0 : wr.cell? ⟨go23, (x27_1 : Int).toNat * 3, none⟩ = some (.bool ((rd_T26 x11_1 x27_1).f0)) := hcc23 0 _ rfl
     have hx23_1 : wr.cell? ⟨go23, (x27_1 : Int).toNat * 3 + 1, none⟩ = some (.int .i64 ((rd_T26 x11_1 x27_1).f1)) := hcc23 1 _ rfl
     have hx23_2 : wr.cell? ⟨go23, (x27_1 : Int).toNat * 3 + 2, none⟩ = some (.string ((rd_T26 x11_1 x27_1).f2)) := hcc23 2 _ rfl
     have hf23_0 : wr.frozen? ⟨go23, (x27_1 : Int).toNat * 3, none⟩ = false := hfr23 0
     have hf23_1 : wr.frozen? ⟨go23, (x27_1 : Int).toNat * 3 + 1, none⟩ = false := hfr23 1
     have hf23_2 : wr.frozen? ⟨go23, (x27_1 : Int).toNat * 3 + 2, none⟩ = false := hfr23 2
     clear hcl23 hcc23 hfr23 hM23
     replace p23 := eq_true p23
     replace q23 := eq_true q23
     have HX24 := Aside0.mk (show Kd.R k26 26 wr w.heap.size (fun _ => True) (.slice (some ⟨go23, 0, none⟩) x11_1.length co12) x11_1 from (xR HO_11.out))
     obtain ⟨ce24, hcl24, hM24, hcc24, hfr24⟩ := Kd.R_elem HX24.out z26 (x27_1 : Int) (of_decide_eq_true (by first | (with_reducible assumption) | assumption)) (by have h_ : (x27_1 : Int) < ((x11_1.length : Int) : Int) := of_decide_eq_true (by first | (with_reducible assumption) | assumption); first | exact h_ | (have e_ := (Kd.R_reads' HO_11.out).1; omega) | simpa using h_)
     obtain rfl := k26_openM hM24
     have HP24 := Kd.R_seg HX24.out (x27_1 : Int) (of_decide_eq_true (by first | (with_reducible assumption) | assumption)) (by have h_ : (x27_1 : Int) < ((x11_1.length : Int) : Int) := of_decide_eq_true (by first | (with_reducible assumption) | assumption); first | exact h_ | (have e_ := (Kd.R_reads' HO_11.out).1; omega) | simpa using h_) (seg := [.bool true]) (j := 0) hcl24 hcc24 (show 1 ≤ 3 from by decide) (x' := (⟨true, (rd_T26 x11_1 x27_1).f1, (rd_T26 x11_1 x27_1).f2⟩ : S26)) (k26_mkM _ _ _ (⟨true, (rd_T26 x11_1 x27_1).f1, (rd_T26 x11_1 x27_1).f2⟩ : S26) ) (fun _ hk => hk)
     have hx24_0 := hcc24 0 _ rfl
     (try simp only [show (k26).sz = 3 from rfl, Nat.mul_one, Nat.add_zero] at hx24_0)
     have hf24_0 := hfr24 0
     (try simp only [show (k26).sz = 3 from rfl, Nat.mul_one, Nat.add_zero] at hf24_0)
     clear hcl24 hcc24 hfr24 hM24
     go_wp2_with (first | ((with_reducible refine gate_store (t := 4) (p := 43) rfl ?_); refine store_event (t := 4) (p := 43) (v := ?vo_w25) (w1 := (wr.setCell ⟨go23, (x27_1 : Int).toNat * 3, none⟩ (.bool true))) ?hg ?ho ?hn ?hr ?_; (case ho => rfl); (case hg => rfl); (case hn => rfl); (case hr => first | (go_simp; done) | (go_simp; rfl)); intro w25 hw; have hg : wr.grownBy w25 (some go23) := (by rw [hw]; exact HP24.2); have hp_ : Kd.R k26 26 w25 w.heap.size (fun _ => True) (.slice (some ⟨go23, 0, none⟩) x11_1.length co12) y106 := (by rw [hw, Ny106.out]; exact HP24.1); clear HP24; have n0_ := Aside0.mk (hp_); have n1_ := Aside0.mk (blk_grown (g := gb101) (o := .cells #[] 75 (0, 0)) (xB BK101.out) hg (Kd.R_ne HO_11.out BK101.out (by decide))); have n2_ := Aside0.mk ((by rw [hw]; exact below_set (HB.out) GB23.out : Below w.heap.size w w25)); clear HO_11 BK101 HB; revert n0_ n1_ n2_; intro HO_11 BK101 HB; clear hg hw hp_))
     (try simp only [← hl11_1])
     go_roundg k1
     case measure => have := HK1.out; omega
     case rel => exact ⟨(x10_1), (y106), (wrap64 (x27_1 + 1)), (by first | rfl | (simp; done) | (simp [*]; done)), (by first | rfl | (simp; done) | (simp [*]; done)), H', ⟨by have := HK1.out; omega⟩, ⟨by (try simp only [hl11_1]); (with_reducible repeat (first | apply Kd.R_alloc | apply Kd.R_drewN | apply Kd.R_drew)); exact HO_11.out⟩, ⟨by (try simp only [hl11_1]); (with_reducible repeat (first | refine blk_drewN ?_ _ | refine blk_drew ?_ | refine blk_alloc ?_ _)); exact BK101.out⟩, ⟨by repeat (first | (with_reducible first | exact HB.out | apply below_alloc | apply pw_below_drewN | apply below_drew1 | refine below_set ?_ GE101.out) | exact HB.out)⟩⟩
    ·rw [if_neg c20] at H
     have c20b0 : ((Go.bits .and .u8 (ji19) 1) == 1) = false := beq_eq_false_iff_ne.mpr c20
     have c20b1 : ((Go.bits .and .u8 (ji19) 1) != 1) = true := bne_iff_ne.mpr c20
     replace H := Option.bind_eq_some_iff.mp H
     obtain ⟨⟨t107, t108, t109, t110, t111⟩, A260, H⟩ := H
     (try dsimp only at H)
     have A26 := Aside0.mk A260
     clear A260
     by_cases c27 : t111 = true
     ·subst c27
      rw [if_pos rfl] at H
      by_cases c28 : 0 ≤ x27_1
      rotate_left
      ·rw [if_neg c28] at H
       exact absurd H (by simp)
      rw [if_pos c28] at H
      have c28b0 : decide (0 ≤ x27_1) = true := decide_eq_true c28
      clear c28
      by_cases c29 : x27_1 < (x11_1.length : Int)
      rotate_left
      ·rw [if_neg c29] at H
       exact absurd H (by simp)
      rw [if_pos c29] at H
      have c29b0 : decide (x27_1 < (x11_1.length : Int)) = true := decide_eq_true c29
      (try (have c29b0h0 := c29b0; rw [hl11_1] at c29b0h0))
      clear c29
      obtain ⟨y113, hy113⟩ : ∃ y_ : List (S26), y_ = (x11_1.set (x27_1 : Int).toNat (⟨t107, t108, t109⟩ : S26)) := ⟨_, rfl⟩
      replace H : (page_masked_values.l0 k1 l1 a3 t110 y113 (y102.length : Int) (wrap64 (x27_1 + 1))) = some (r1, r2) := by first | (rw [hy113]; with_reducible exact H) | (have H2_ := (Option.bind_some _ _).symm.trans H; rw [hy113]; with_reducible exact H2_) | (have H2_ := (Option.bind_some _ _).symm.trans H; with_reducible exact H2_) | with_reducible exact H | (rw [hy113]; exact H) | exact H
      have Ny113 := Aside0.mk hy113
      clear hy113
      have H' := Aside0.mk H
      clear H
      have p105 : 0 ≤ ((ji14) : Int) := of_decide_eq_true (by first | (with_reducible assumption) | assumption)
      have q105 : (ji14) < (l1.length : Int) := of_decide_eq_true (by first | (with_reducible assumption) | assumption)
      obtain ⟨ad105, e105, hx105_0⟩ := Kd.at_int HR1.out (ji14) p105 q105
      cases e105
      replace hx105_0 := (HB.out.cell (World.block_lt_of_cell? w _ hx105_0)).trans hx105_0
      replace p105 := eq_true p105
      replace q105 := eq_true q105
      go_wp2_with (first | ((with_reducible refine gate_callee (f := 68) rfl ?_); refine goesL_ (some 48) rfl rfl Try.func68 (by kernel_rfl) rfl #[.slice (some ad105) l1.length c1, .int .i64 x10_1, .int .i64 a3] rfl (by (try simp only [List.map_toArray, List.map_cons, List.map_nil]) <;> rfl) ?_; (with_reducible refine (page_read.calls k1 _ _ l1 x10_1 a3 t107 t108 t109 t110 true _ ?side1 ?side2 A26.out).mono ?_); (case side1 => exact xC (Kd.C_below HR1.out HB.out)); (case side2 => exact HC1.out); rintro e w31 ⟨rfl, hb⟩; refine ⟨_, rfl, ?_⟩; have n0_ := Aside0.mk (Kd.R_below (xR HO_11.out) hb); have n1_ := Aside0.mk (blk_below (xB BK101.out) hb); have n2_ := Aside0.mk (below_step (xS HB.out (ge GE101.out g0)) hb); clear HO_11 BK101 HB; revert n0_ n1_ n2_; intro HO_11 BK101 HB; (try clear hb)) | ((with_reducible refine gate_dst (N := 13) rfl ?_); refine box_event ?hg (N := 13) ?hd (cs := #[.bool false, .int .i64 0, .string (⟨#[]⟩ : ByteArray)]) (t := 26) ?hr ?_; (case hd => rfl); (case hg => rfl); (case hr => first | (go_simp; done) | (go_simp; rfl)); intro gb112 hg w32 hbox hb; have n0_ := Aside0.mk (Kd.R_below (Kd.R_elderB (xR HO_11.out) gb112 (Nat.le_of_eq hg.symm)) hb); have n1_ := Aside0.mk (blk_below (xB BK101.out) hb); have n2_ := Aside0.mk (below_step (xS HB.out (ge GE101.out g0)) hb); have n3_ := Aside0.mk (hbox); have n5_ := Aside0.mk ((by rw [hg]; exact (below_size (xS HB.out (ge GE101.out g0))) : w.heap.size ≤ gb112)); have n6_ := Aside0.mk ((by rw [hg]; exact Nat.ne_of_lt (blk_lt (xB BK101.out)) : gb101 ≠ gb112)); have n7_ := Aside0.mk ((by rw [hg]; exact Nat.ne_of_gt (blk_lt (xB BK101.out)) : gb112 ≠ gb101)); clear HO_11 BK101 HB; revert n0_ n1_ n2_ n3_ n5_ n6_ n7_; intro HO_11 BK101 HB BK112 GE112 NB101_112 NB112_101; clear hb hbox hg; have hnb33 := NB112_101.out; have hnc33 := NB101_112.out; have hcz34_0 : w32.cell? ⟨gb112, 0, none⟩ = some (.bool false) := (blk_cell BK112.out 0).trans rfl; have hcz34_1 : w32.cell? ⟨gb112, 1, none⟩ = some (.int .i64 0) := (blk_cell BK112.out 1).trans rfl; have hcz34_2 : w32.cell? ⟨gb112, 2, none⟩ = some (.string (⟨#[]⟩ : ByteArray)) := (blk_cell BK112.out 2).trans rfl; have hfz34_0 := blk_frozen BK112.out 0; have hfz34_1 := blk_frozen BK112.out 1; have hfz34_2 := blk_frozen BK112.out 2) | ((with_reducible refine gate_store (t := 26) (p := 13) rfl ?_); refine store_event (t := 26) (p := 13) (v := ?vo_w35) (w1 := (((w32.setCell ⟨gb112, 0, none⟩ (.bool t107)).setCell ⟨gb112, 1, none⟩ (.int .i64 t108)).setCell ⟨gb112, 2, none⟩ (.string t109))) ?hg ?ho ?hn ?hr ?_; (case ho => rfl); (case hg => rfl); (case hn => rfl); (case hr => first | (go_simp; done) | (go_simp; rfl)); intro w35 hw; have n0_ : Aside0 (Kd.R k26 26 w35 w.heap.size (fun k_ => k_ ≠ gb112) (.slice Ao12 x11_1.length co12) x11_1) := ⟨(by rw [hw]; exact (xR (Kd.R_mono (Kd.R_far (p := ⟨gb112, 2, none⟩) (Kd.R_far (p := ⟨gb112, 1, none⟩) (Kd.R_far (p := ⟨gb112, 0, none⟩) (Kd.R_mono HO_11.out (fun k_ hk => (⟨hk, hk.2⟩ : _ ∧ k_ ≠ gb112))) (fun _ hk => hk.2) (.bool t107)) (fun _ hk => hk.2) (.int .i64 t108)) (fun _ hk => hk.2) (.string t109)) (fun _ hk => hk.1.2))))⟩; have n1_ : Aside0 (w35.heap[gb101]? = some (.cells #[] 75 (0, 0))) := ⟨(by rw [hw]; exact (xF BK101.out (ge NB101_112.out g0)))⟩; have n2_ : Aside0 (w35.heap[gb112]? = some (.cells #[.bool t107, .int .i64 t108, .string t109] 26 (0, 0))) := ⟨(by rw [hw]; exact (xP BK112.out g0 rfl))⟩; have n3_ : Aside0 (Below w.heap.size w w35) := ⟨(by rw [hw]; exact (xS HB.out (ge GE101.out (ge GE112.out g0))))⟩; clear hw HO_11 BK101 BK112 HB; revert n0_ n1_ n2_ n3_; intro HO_11 BK101 BK112 HB; have hcz36_0 : w35.cell? ⟨gb112, 0, none⟩ = some (.bool t107) := (blk_cell BK112.out 0).trans rfl; have hcz36_1 : w35.cell? ⟨gb112, 1, none⟩ = some (.int .i64 t108) := (blk_cell BK112.out 1).trans rfl; have hcz36_2 : w35.cell? ⟨gb112, 2, none⟩ = some (.string t109) := (blk_cell BK112.out 2).trans rfl; have hfz36_0 := blk_frozen BK112.out 0; have hfz36_1 := blk_frozen BK112.out 1; have hfz36_2 := blk_frozen BK112.out 2; have p30 : 0 ≤ (x27_1 : Int) := of_decide_eq_true (by first | (with_reducible assumption) | assumption); have q30 : (x27_1 : Int) < ((x11_1.length : Int) : Int) := of_decide_eq_true (by first | (with_reducible assumption) | assumption); obtain ⟨go30, co30, eo30, gb30, gl30, cl30, HG30⟩ := Kd.R_form HO_11.out (by omega); (first | cases eo30 | (injection eo30 with ea_ en_ ec_; (first | subst ea_ | (injection ea_ with ea_; subst ea_)); subst ec_; clear en_)); have GB30 := Aside0.mk gb30; have GG30 := Aside0.mk HG30; clear gb30 gl30 HG30; obtain ⟨ce30, hcl30, hM30, hcc30, hfr30⟩ := Kd.R_elem HO_11.out z26 (x27_1 : Int) p30 q30; obtain rfl := k26_openM hM30; have hx30_0 : w35.cell? ⟨go30, (x27_1 : Int).toNat * 3, none⟩ = some (.bool ((rd_T26 x11_1 x27_1).f0)) := hcc30 0 _ rfl; have hx30_1 : w35.cell? ⟨go30, (x27_1 : Int).toNat * 3 + 1, none⟩ = some (.int .i64 ((rd_T26 x11_1 x27_1).f1)) := hcc30 1 _ rfl; have hx30_2 : w35.cell? ⟨go30, (x27_1 : Int).toNat * 3 + 2, none⟩ = some (.string ((rd_T26 x11_1 x27_1).f2)) := hcc30 2 _ rfl; have hf30_0 : w35.frozen? ⟨go30, (x27_1 : Int).toNat * 3, none⟩ = false := hfr30 0; have hf30_1 : w35.frozen? ⟨go30, (x27_1 : Int).toNat * 3 + 1, none⟩ = false := hfr30 1; have hf30_2 : w35.frozen? ⟨go30, (x27_1 : Int).toNat * 3 + 2, none⟩ = false := hfr30 2; clear hcl30 hcc30 hfr30 hM30; replace p30 := eq_true p30; replace q30 := eq_true q30; have HX37 := Aside0.mk (show Kd.R k26 26 w35 w.heap.size (fun k_ => k_ ≠ gb112) (.slice (some ⟨go30, 0, none⟩) x11_1.length co12) x11_1 from (xR HO_11.out)); obtain ⟨ce37, hcl37, hM37, hcc37, hfr37⟩ := Kd.R_elem HX37.out z26 (x27_1 : Int) (of_decide_eq_true (by first | (with_reducible assumption) | assumption)) (by have h_ : (x27_1 : Int) < ((x11_1.length : Int) : Int) := of_decide_eq_true (by first | (with_reducible assumption) | assumption); first | exact h_ | (have e_ := (Kd.R_reads' HO_11.out).1; omega) | simpa using h_); obtain rfl := k26_openM hM37; have HP37 := Kd.R_seg HX37.out (x27_1 : Int) (of_decide_eq_true (by first | (with_reducible assumption) | assumption)) (by have h_ : (x27_1 : Int) < ((x11_1.length : Int) : Int) := of_decide_eq_true (by first | (with_reducible assumption) | assumption); first | exact h_ | (have e_ := (Kd.R_reads' HO_11.out).1; omega) | simpa using h_) (seg := [.bool t107, .int .i64 t108, .string t109]) (j := 0) hcl37 hcc37 (show 3 ≤ 3 from by decide) (x' := (⟨t107, t108, t109⟩ : S26)) (k26_mkM _ _ _ (⟨t107, t108, t109⟩ : S26) ) (fun _ hk => hk); have hx37_0 := hcc37 0 _ rfl; (try simp only [show (k26).sz = 3 from rfl, Nat.mul_one, Nat.add_zero] at hx37_0); have hf37_0 := hfr37 0; (try simp only [show (k26).sz = 3 from rfl, Nat.mul_one, Nat.add_zero] at hf37_0); have hx37_1 := hcc37 1 _ rfl; (try simp only [show (k26).sz = 3 from rfl, Nat.mul_one, Nat.add_zero] at hx37_1); have hf37_1 := hfr37 1; (try simp only [show (k26).sz = 3 from rfl, Nat.mul_one, Nat.add_zero] at hf37_1); have hx37_2 := hcc37 2 _ rfl; (try simp only [show (k26).sz = 3 from rfl, Nat.mul_one, Nat.add_zero] at hx37_2); have hf37_2 := hfr37 2; (try simp only [show (k26).sz = 3 from rfl, Nat.mul_one, Nat.add_zero] at hf37_2); clear hcl37 hcc37 hfr37 hM37) | ((with_reducible refine gate_store (t := 26) (p := 58) rfl ?_); refine store_event (t := 26) (p := 58) (v := ?vo_w38) (w1 := (((w35.setCell ⟨go30, (x27_1 : Int).toNat * 3, none⟩ (.bool t107)).setCell ⟨go30, (x27_1 : Int).toNat * 3 + 1, none⟩ (.int .i64 t108)).setCell ⟨go30, (x27_1 : Int).toNat * 3 + 2, none⟩ (.string t109))) ?hg ?ho ?hn ?hr ?_; (case ho => rfl); (case hg => rfl); (case hn => rfl); (case hr => first | (go_simp; done) | (go_simp; rfl)); intro w38 hw; have hg : w35.grownBy w38 (some go30) := (by rw [hw]; exact HP37.2); have hp_ : Kd.R k26 26 w38 w.heap.size (fun k_ => k_ ≠ gb112) (.slice (some ⟨go30, 0, none⟩) x11_1.length co12) y113 := (by rw [hw, Ny113.out]; exact HP37.1); clear HP37; have n0_ := Aside0.mk (hp_); have n1_ := Aside0.mk (blk_grown (g := gb101) (o := .cells #[] 75 (0, 0)) (xB BK101.out) hg (Kd.R_ne HO_11.out BK101.out (by decide))); have n3_ := Aside0.mk ((by rw [hw]; exact below_set (below_set (below_set (HB.out) GB30.out) GB30.out) GB30.out : Below w.heap.size w w38)); clear HO_11 BK101 HB; revert n0_ n1_ n3_; intro HO_11 BK101 HB; clear hg hw hp_))
      (try simp only [← hl11_1])
      go_roundg k1
      case measure => have := HK1.out; omega
      case rel => exact ⟨(t110), (y113), (wrap64 (x27_1 + 1)), (by first | rfl | (simp; done) | (simp [*]; done)), (by first | rfl | (simp; done) | (simp [*]; done)), H', ⟨by have := HK1.out; omega⟩, ⟨by (try simp only [hl11_1]); (with_reducible repeat (first | apply Kd.R_alloc | apply Kd.R_drewN | apply Kd.R_drew)); exact Kd.R_mono HO_11.out (fun _ hk => trivial)⟩, ⟨by (try simp only [hl11_1]); (with_reducible repeat (first | refine blk_drewN ?_ _ | refine blk_drew ?_ | refine blk_alloc ?_ _)); exact BK101.out⟩, ⟨by repeat (first | (with_reducible first | exact HB.out | apply below_alloc | apply pw_below_drewN | apply below_drew1 | refine below_set ?_ GE101.out | refine below_set ?_ GE112.out) | exact HB.out)⟩⟩
     ·replace c27 := Bool.eq_false_iff.mpr c27
      subst c27
      rw [if_neg (show ¬ (false = true) by decide)] at H
      simp only [Option.some.injEq, Prod.mk.injEq] at H
      obtain ⟨rfl, rfl⟩ := H
      have p105 : 0 ≤ ((ji14) : Int) := of_decide_eq_true (by first | (with_reducible assumption) | assumption)
      have q105 : (ji14) < (l1.length : Int) := of_decide_eq_true (by first | (with_reducible assumption) | assumption)
      obtain ⟨ad105, e105, hx105_0⟩ := Kd.at_int HR1.out (ji14) p105 q105
      cases e105
      replace hx105_0 := (HB.out.cell (World.block_lt_of_cell? w _ hx105_0)).trans hx105_0
      replace p105 := eq_true p105
      replace q105 := eq_true q105
      go_wp2_with (first | ((with_reducible refine gate_callee (f := 68) rfl ?_); refine goesL_ (some 48) rfl rfl Try.func68 (by kernel_rfl) rfl #[.slice (some ad105) l1.length c1, .int .i64 x10_1, .int .i64 a3] rfl (by (try simp only [List.map_toArray, List.map_cons, List.map_nil]) <;> rfl) ?_; (with_reducible refine (page_read.calls k1 _ _ l1 x10_1 a3 t107 t108 t109 t110 false _ ?side1 ?side2 A26.out).mono ?_); (case side1 => exact xC (Kd.C_below HR1.out HB.out)); (case side2 => exact HC1.out); rintro e w39 ⟨rfl, hb⟩; refine ⟨_, rfl, ?_⟩; have n1_ := Aside0.mk (blk_below (xB BK101.out) hb); have n2_ := Aside0.mk (below_step (xS HB.out (ge GE101.out g0)) hb); clear BK101 HB; revert n1_ n2_; intro BK101 HB; (try clear hb)) | ((with_reducible refine gate_dst (N := 13) rfl ?_); refine box_event ?hg (N := 13) ?hd (cs := #[.bool false, .int .i64 0, .string (⟨#[]⟩ : ByteArray)]) (t := 26) ?hr ?_; (case hd => rfl); (case hg => rfl); (case hr => first | (go_simp; done) | (go_simp; rfl)); intro gb112 hg w40 hbox hb; have n2_ := Aside0.mk (below_step (xS HB.out (ge GE101.out g0)) hb); have n3_ := Aside0.mk (hbox); have n5_ := Aside0.mk ((by rw [hg]; exact (below_size (xS HB.out (ge GE101.out g0))) : w.heap.size ≤ gb112)); have n6_ := Aside0.mk ((by rw [hg]; exact Nat.ne_of_lt (blk_lt (xB BK101.out)) : gb101 ≠ gb112)); have n7_ := Aside0.mk ((by rw [hg]; exact Nat.ne_of_gt (blk_lt (xB BK101.out)) : gb112 ≠ gb101)); clear BK101 HB; revert n2_ n3_ n5_ n6_ n7_; intro HB BK112 GE112 NB101_112 NB112_101; clear hb hbox hg; have hnb41 := NB112_101.out; have hnc41 := NB101_112.out; have hcz42_0 : w40.cell? ⟨gb112, 0, none⟩ = some (.bool false) := (blk_cell BK112.out 0).trans rfl; have hcz42_1 : w40.cell? ⟨gb112, 1, none⟩ = some (.int .i64 0) := (blk_cell BK112.out 1).trans rfl; have hcz42_2 : w40.cell? ⟨gb112, 2, none⟩ = some (.string (⟨#[]⟩ : ByteArray)) := (blk_cell BK112.out 2).trans rfl; have hfz42_0 := blk_frozen BK112.out 0; have hfz42_1 := blk_frozen BK112.out 1; have hfz42_2 := blk_frozen BK112.out 2))
      go_ret2
      exact ⟨_, by first | rfl | (simp [errW_none, errW_some] <;> rfl) | (simp only [← hji14, ← hji17, ← hji19]; first | rfl | (simp [errW_none, errW_some] <;> rfl)) | (simp [*, errW_none, errW_some] <;> rfl), by first | exact Kd.R_nil _ _ _ _ _ | exact Kd.N_nil _ _ _ _ _ | exact Kd.V_nil _ _ _ _ _ | exact Kd.Q_nil _ _ _ _ _ | exact Kd.S_nil _ _ _ _ _, by repeat (first | (with_reducible first | exact HB.out | apply below_alloc | apply pw_below_drewN | apply below_drew1 | refine below_set ?_ GE101.out | refine below_set ?_ GE112.out) | exact HB.out)⟩
def page_plain_parse.f (k : Nat)  (l1 : List Int) (a2 : Int) (a3 : Int) : Option ((List (S26)) × Bool) := (page_masked_values.f k l1 a2 a3).bind fun bt102 => (some (bt102.1, bt102.2))
theorem page_plain_parse.mono : ∀ a0 a1 a2 k, LeO (page_plain_parse.f k a0 a1 a2) (page_plain_parse.f (k + 1) a0 a1 a2) := by
 intro a0 a1 a2 k
 unfold page_plain_parse.f
 repeat' first
   | (with_reducible exact page_masked_values.mono _ _ _ _)
   | (with_reducible exact LeO.refl _)
   | (with_reducible exact LeO.none _)
   | (with_reducible refine LeO.ite ?_ ?_)
   | (with_reducible refine LeO.bind ?_ (fun _ => ?_))
   | exact page_masked_values.mono _ _ _ _
   | exact LeO.none _
   | refine LeO.ite ?_ ?_
   | refine LeO.bind ?_ (fun _ => ?_)
set_option maxHeartbeats 8000000 in
set_option maxRecDepth 100000 in
theorem page_plain_parse.calls (k : Nat)  (A1 : Option Addr) (c1 : Nat) (l1 : List Int) (a2 : Int) (a3 : Int) (r1 : List (S26)) (r2 : Bool) (w : World) (hr1 : Kd.C (Kd.int .u8) w A1 l1.length l1) (hc1 : l1.length ≤ c1) (h : page_plain_parse.f k l1 a2 a3 = some (r1, r2)) :
  Calls Try.prog 63 #[.agg #[], .slice A1 l1.length c1, .int .i64 a2, .int .i64 a3] w fun e w' => ∃ v0_ : Value, e = .returned (.tuple #[v0_, .bool r2]) ∧ Kd.R k26 26 w' w.heap.size (fun _ => True) v0_ r1 ∧ Below w.heap.size w w' := by
 have hu77 := Try.underlying77
 have hu75 := Try.underlying75
 have HR1 := Aside0.mk hr1
 have HC1 := Aside0.mk hc1
 clear hr1 hc1
 have HB := Aside0.mk (Below.refl w.heap.size w)
 have H : ((page_masked_values.f k l1 a2 a3).bind fun bt102 => (some (bt102.1, bt102.2))) = some (r1, r2) := h
 clear h
 replace H := Option.bind_eq_some_iff.mp H
 obtain ⟨⟨t102, t105⟩, A50, H⟩ := H
 replace H : (some (t102, t105)) = some (r1, r2) := H
 have A5 := Aside0.mk A50
 clear A50
 simp only [Option.some.injEq, Prod.mk.injEq] at H
 obtain ⟨rfl, rfl⟩ := H
 go_enter Try.func63, Try.ntmps63
 go_wp2_with (first | ((with_reducible refine gate_dst (N := 4) rfl ?_); refine box_event ?hg (N := 4) ?hd (cs := #[]) (t := 77) ?hr ?_; (case hd => rfl); (case hg => rfl); (case hr => first | (go_simp; done) | (go_simp; rfl)); intro gb101 hg w6 hbox hb; have n0_ := Aside0.mk (below_step (xW HB.out) hb); have n1_ := Aside0.mk (hbox); have n3_ := Aside0.mk ((by rw [hg]; exact (below_size (xW HB.out)) : w.heap.size ≤ gb101)); clear HB; revert n0_ n1_ n3_; intro HB BK101 GE101; clear hb hbox hg) | ((with_reducible refine gate_callee (f := 65) rfl ?_); refine goesL_ (some 15) rfl rfl Try.func65 (by kernel_rfl) rfl #[.agg #[], .slice A1 l1.length c1, .int .i64 a2, .int .i64 a3] rfl (by (try simp only [List.map_toArray, List.map_cons, List.map_nil]) <;> rfl) ?_; (with_reducible refine (page_masked_values.calls k  _ _ l1 a2 a3 t102 t105 _ ?side1 ?side2 A5.out).mono ?_); (case side1 => exact xC (Kd.C_below HR1.out HB.out)); (case side2 => exact HC1.out); rintro e w8 ⟨v103, rfl, ho0, hb⟩; refine ⟨_, rfl, ?_⟩; have n0_ := Aside0.mk (Kd.R_lower ho0 (below_size (xS HB.out (ge GE101.out g0)))); have n1_ := Aside0.mk (blk_below (xB BK101.out) hb); have n2_ := Aside0.mk (below_step (xS HB.out (ge GE101.out g0)) hb); clear BK101 HB; revert n0_ n1_ n2_; intro HO104 BK101 HB; (try clear hb); (try clear ho0)))
 rw [part_plain _ BK101.out]
 simp only [Result.andThen]
 rw [Oper.upon_value]
 go_wp2_with (first | ((with_reducible refine gate_dst (N := 4) rfl ?_); refine box_event ?hg (N := 4) ?hd (cs := #[]) (t := 77) ?hr ?_; (case hd => rfl); (case hg => rfl); (case hr => first | (go_simp; done) | (go_simp; rfl)); intro gb101 hg w6 hbox hb; have n0_ := Aside0.mk (below_step (xW HB.out) hb); have n3_ := Aside0.mk ((by rw [hg]; exact (below_size (xW HB.out)) : w.heap.size ≤ gb101)); clear HB; revert n0_ n3_; intro HB GE101; clear hb hbox hg) | ((with_reducible refine gate_callee (f := 65) rfl ?_); refine goesL_ (some 15) rfl rfl Try.func65 (by kernel_rfl) rfl #[.agg #[], .slice A1 l1.length c1, .int .i64 a2, .int .i64 a3] rfl (by (try simp only [List.map_toArray, List.map_cons, List.map_nil]) <;> rfl) ?_; (with_reducible refine (page_masked_values.calls k  _ _ l1 a2 a3 t102 t105 _ ?side1 ?side2 A5.out).mono ?_); (case side1 => exact xC (Kd.C_below HR1.out HB.out)); (case side2 => exact HC1.out); rintro e w8 ⟨v103, rfl, ho0, hb⟩; refine ⟨_, rfl, ?_⟩; have n0_ := Aside0.mk (Kd.R_lower ho0 (below_size (xS HB.out (ge GE101.out g0)))); have n2_ := Aside0.mk (below_step (xS HB.out (ge GE101.out g0)) hb); clear HB; revert n0_ n2_; intro HO104 HB; (try clear hb); (try clear ho0)))
 go_ret2
 exact ⟨_, by first | rfl | simp [*], by (with_reducible repeat (first | apply Kd.R_alloc | apply Kd.R_drewN | apply Kd.R_drew)); exact HO104.out, by repeat (first | (with_reducible first | exact HB.out | apply below_alloc | apply pw_below_drewN | apply below_drew1 | refine below_set ?_ GE101.out) | exact HB.out)⟩
end
end Go.Proofs.Ytnfdhgfpjamphaa.X
