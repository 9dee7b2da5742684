/- The law LawCanonical: its walk and its proof, part 5 of 8. -/
import Derived.Test.YtlcibkbpppijdaaDoorYLawCanonical0
import Derived.Test.YtlcibkbpppijdaaDoorYLawCanonical1
import Derived.Test.YtlcibkbpppijdaaDoorYLawCanonical3
namespace Go.Proofs.YtlcibkbpppijdaaDoor.X
section
open Go.RowKit Go.Proofs.YtlcibkbpppijdaaDoorW.PrintWords Go.Proofs.YtlcibkbpppijdaaDoorW.PrintLast Go.Proofs.YtlcibkbpppijdaaDoorW.PrintMore
attribute [local go_sem] max2_int min2_int max_two min_two max_three min_three max_four min_four   -- for this text's walks alone
set_option linter.unusedVariables false
set_option linter.unusedSimpArgs false
def value_Encode.f (k : Nat) (l0 : List Int) (a1_0 : Bool) (a1_1 : Int) (a1_2 : ByteArray) (a2 : Int) : Option (List Int) := (slices_Clone_byte_byte.f l0).bind fun t102 => ((value_Valid.f a1_0 a1_1 a1_2 a2).bind fun t105 => (if t105 = true then (if a1_0 = true then (if t102.length < 140737488355328 then (some (t102 ++ [0])) else (none)) else (if a2 = 4 then (if t102.length < 140737488355328 then ((wire_Text.f k (t102 ++ [1]) a1_2).bind fun t112 => (some t112)) else (none)) else (if t102.length < 140737488355328 then ((wire_S.f k (t102 ++ [1]) a1_1).bind fun t118 => (some t118)) else (none)))) else (some t102)))
set_option maxHeartbeats 8000000 in
set_option maxRecDepth 100000 in
theorem value_Encode.calls (k : Nat) (A0 : Option Addr) (c0 : Nat) (l0 : List Int) (a1_0 : Bool) (a1_1 : Int) (a1_2 : ByteArray) (a2 : Int) (r : List Int) (w : World) (hr0 : Kd.C (Kd.int .u8) w A0 l0.length l0) (hc0 : l0.length ≤ c0) (h : value_Encode.f k l0 a1_0 a1_1 a1_2 a2 = some r) :
  Calls Tryd.prog 10 #[.slice A0 l0.length c0, .agg #[.bool a1_0, .int .i64 a1_1, .string a1_2], .int .i64 a2] w fun e w' => ∃ v0_ : Value, e = .returned (v0_) ∧ Kd.R (Kd.int .u8) 5 w' w.heap.size (fun _ => True) v0_ r ∧ Below w.heap.size w w' := by
 have hu25 := Tryd.underlying25
 have HR0 := Aside0.mk hr0
 have HC0 := Aside0.mk hc0
 clear hr0 hc0
 have HB := Aside0.mk (Below.refl w.heap.size w)
 have H : ((slices_Clone_byte_byte.f l0).bind fun t102 => ((value_Valid.f a1_0 a1_1 a1_2 a2).bind fun t105 => (if t105 = true then (if a1_0 = true then (if t102.length < 140737488355328 then (some (t102 ++ [0])) else (none)) else (if a2 = 4 then (if t102.length < 140737488355328 then ((wire_Text.f k (t102 ++ [1]) a1_2).bind fun t112 => (some t112)) else (none)) else (if t102.length < 140737488355328 then ((wire_S.f k (t102 ++ [1]) a1_1).bind fun t118 => (some t118)) else (none)))) else (some t102)))) = some r := h
 clear h
 replace H := Option.bind_eq_some_iff.mp H
 obtain ⟨t102, A40, H⟩ := H
 (try dsimp only at H)
 have A4 := Aside0.mk A40
 clear A40
 replace H := Option.bind_eq_some_iff.mp H
 obtain ⟨t105, A50, H⟩ := H
 (try dsimp only at H)
 have A5 := Aside0.mk A50
 clear A50
 by_cases c6 : t105 = true
 rotate_left
 ·replace c6 := Bool.eq_false_iff.mpr c6
  subst c6
  rw [if_neg (show ¬ (false = true) by decide)] at H
  obtain rfl := Option.some.inj H
  go_enter Tryd.func10, Tryd.ntmps10
  go_wp2_with (first | ((with_reducible refine gate_dst (N := 4) rfl ?_); refine box_event ?hg (N := 4) ?hd (cs := #[.bool a1_0, .int .i64 a1_1, .string a1_2]) (t := 25) ?hr ?_; (case hd => rfl); (case hg => rfl); (case hr => first | (go_simp; done) | (go_simp; rfl)); intro gb101 hg w38 hbox hb; have n0_ := Aside0.mk (below_step (xW HB.out) hb); have n1_ := Aside0.mk (hbox); have n3_ := Aside0.mk ((by rw [hg]; exact (below_size (xW HB.out)) : w.heap.size ≤ gb101)); clear HB; revert n0_ n1_ n3_; intro HB BK101 GE101; clear hb hbox hg) | ((with_reducible refine gate_callee (f := 22) rfl ?_); refine goesL_ (some 9) rfl rfl Tryd.func22 (by kernel_rfl) rfl #[.slice A0 l0.length c0] rfl (by (try simp only [List.map_toArray, List.map_cons, List.map_nil]) <;> rfl) ?_; (with_reducible refine (slices_Clone_byte_byte.calls _ _ l0 t102 _ ?side1 ?side2 A4.out).mono ?_); (case side1 => exact xC (Kd.C_below HR0.out HB.out)); (case side2 => exact HC0.out); rintro e w39 ⟨v103, rfl, ho0, hb⟩; refine ⟨_, rfl, ?_⟩; have n0_ := Aside0.mk (Kd.R_lower ho0 (below_size (xS HB.out (ge GE101.out g0)))); have n1_ := Aside0.mk (blk_below (xB BK101.out) hb); have n2_ := Aside0.mk (below_step (xS HB.out (ge GE101.out g0)) hb); clear BK101 HB; revert n0_ n1_ n2_; intro HO104 BK101 HB; (try clear hb); (try clear ho0); have hcz40_0 : w39.cell? ⟨gb101, 0, none⟩ = some (.bool a1_0) := (blk_cell BK101.out 0).trans rfl; have hcz40_1 : w39.cell? ⟨gb101, 1, none⟩ = some (.int .i64 a1_1) := (blk_cell BK101.out 1).trans rfl; have hcz40_2 : w39.cell? ⟨gb101, 2, none⟩ = some (.string a1_2) := (blk_cell BK101.out 2).trans rfl; have hfz40_0 := blk_frozen BK101.out 0; have hfz40_1 := blk_frozen BK101.out 1; have hfz40_2 := blk_frozen BK101.out 2) | ((with_reducible refine gate_callee (f := 14) rfl ?_); refine goesL_ (some 13) rfl rfl Tryd.func14 (by kernel_rfl) rfl #[.agg #[.bool a1_0, .int .i64 a1_1, .string a1_2], .int .i64 a2] rfl (by (try simp only [List.map_toArray, List.map_cons, List.map_nil]) <;> rfl) ?_; (with_reducible refine (value_Valid.calls a1_0 a1_1 a1_2 a2 false _ A5.out).mono ?_); rintro e w41 ⟨rfl, hb⟩; refine ⟨_, rfl, ?_⟩; have n0_ := Aside0.mk (Kd.R_below (xR HO104.out) hb); have n2_ := Aside0.mk (below_step (xS HB.out (ge GE101.out g0)) hb); clear HO104 HB; revert n0_ n2_; intro HO104 HB; (try clear hb)))
  go_ret
  exact ⟨_, by first | rfl | simp [*], by (with_reducible repeat (first | apply Kd.R_alloc | apply Kd.R_drewN | apply Kd.R_drew)); exact HO104.out, by repeat (first | (with_reducible first | exact HB.out | apply below_alloc | apply pw_below_drewN | apply below_drew1 | refine below_set ?_ GE101.out) | exact HB.out)⟩
 subst c6
 rw [if_pos rfl] at H
 by_cases c7 : a1_0 = true
 ·subst c7
  rw [if_pos rfl] at H
  by_cases c8 : t102.length < 140737488355328
  rotate_left
  ·rw [if_neg c8] at H
   exact absurd H (by simp)
  rw [if_pos c8] at H
  have LMc8 := Aside0.mk c8
  clear c8
  obtain ⟨y106, hy106⟩ : ∃ y_ : List Int, y_ = (t102 ++ [0]) := ⟨_, rfl⟩
  replace H : (some y106) = some r := by first | (rw [hy106]; with_reducible exact H) | (have H2_ := (Option.bind_some _ _).symm.trans H; rw [hy106]; with_reducible exact H2_) | (have H2_ := (Option.bind_some _ _).symm.trans H; with_reducible exact H2_) | with_reducible exact H | (rw [hy106]; exact H) | exact H
  have Ny106 := Aside0.mk hy106
  clear hy106
  obtain rfl := Option.some.inj H
  go_enter Tryd.func10, Tryd.ntmps10
  go_wp2_with (first | ((with_reducible refine gate_dst (N := 4) rfl ?_); refine box_event ?hg (N := 4) ?hd (cs := #[.bool true, .int .i64 a1_1, .string a1_2]) (t := 25) ?hr ?_; (case hd => rfl); (case hg => rfl); (case hr => first | (go_simp; done) | (go_simp; rfl)); intro gb101 hg w9 hbox hb; have n0_ := Aside0.mk (below_step (xW HB.out) hb); have n1_ := Aside0.mk (hbox); have n3_ := Aside0.mk ((by rw [hg]; exact (below_size (xW HB.out)) : w.heap.size ≤ gb101)); clear HB; revert n0_ n1_ n3_; intro HB BK101 GE101; clear hb hbox hg) | ((with_reducible refine gate_callee (f := 22) rfl ?_); refine goesL_ (some 9) rfl rfl Tryd.func22 (by kernel_rfl) rfl #[.slice A0 l0.length c0] rfl (by (try simp only [List.map_toArray, List.map_cons, List.map_nil]) <;> rfl) ?_; (with_reducible refine (slices_Clone_byte_byte.calls _ _ l0 t102 _ ?side1 ?side2 A4.out).mono ?_); (case side1 => exact xC (Kd.C_below HR0.out HB.out)); (case side2 => exact HC0.out); rintro e w10 ⟨v103, rfl, ho0, hb⟩; refine ⟨_, rfl, ?_⟩; have n0_ := Aside0.mk (Kd.R_lower ho0 (below_size (xS HB.out (ge GE101.out g0)))); have n1_ := Aside0.mk (blk_below (xB BK101.out) hb); have n2_ := Aside0.mk (below_step (xS HB.out (ge GE101.out g0)) hb); clear BK101 HB; revert n0_ n1_ n2_; intro HO104 BK101 HB; (try clear hb); (try clear ho0); have hcz11_0 : w10.cell? ⟨gb101, 0, none⟩ = some (.bool true) := (blk_cell BK101.out 0).trans rfl; have hcz11_1 : w10.cell? ⟨gb101, 1, none⟩ = some (.int .i64 a1_1) := (blk_cell BK101.out 1).trans rfl; have hcz11_2 : w10.cell? ⟨gb101, 2, none⟩ = some (.string a1_2) := (blk_cell BK101.out 2).trans rfl; have hfz11_0 := blk_frozen BK101.out 0; have hfz11_1 := blk_frozen BK101.out 1; have hfz11_2 := blk_frozen BK101.out 2) | ((with_reducible refine gate_callee (f := 14) rfl ?_); refine goesL_ (some 13) rfl rfl Tryd.func14 (by kernel_rfl) rfl #[.agg #[.bool true, .int .i64 a1_1, .string a1_2], .int .i64 a2] rfl (by (try simp only [List.map_toArray, List.map_cons, List.map_nil]) <;> rfl) ?_; (with_reducible refine (value_Valid.calls true a1_1 a1_2 a2 true _ A5.out).mono ?_); rintro e w12 ⟨rfl, hb⟩; refine ⟨_, rfl, ?_⟩; have n0_ := Aside0.mk (Kd.R_below (xR HO104.out) hb); have n1_ := Aside0.mk (blk_below (xB BK101.out) hb); have n2_ := Aside0.mk (below_step (xS HB.out (ge GE101.out g0)) hb); clear HO104 BK101 HB; revert n0_ n1_ n2_; intro HO104 BK101 HB; (try clear hb); have hcz13_0 : w12.cell? ⟨gb101, 0, none⟩ = some (.bool true) := (blk_cell BK101.out 0).trans rfl; have hcz13_1 : w12.cell? ⟨gb101, 1, none⟩ = some (.int .i64 a1_1) := (blk_cell BK101.out 1).trans rfl; have hcz13_2 : w12.cell? ⟨gb101, 2, none⟩ = some (.string a1_2) := (blk_cell BK101.out 2).trans rfl; have hfz13_0 := blk_frozen BK101.out 0; have hfz13_1 := blk_frozen BK101.out 1; have hfz13_2 := blk_frozen BK101.out 2) | ((with_reducible refine gate_builtin (b := .append) (xs := #[.tmp 19, .tmp 20]) rfl ?_); at_builtin; refine Kd.R_append (Kd.int .u8) (w0 := w) w.heap.size rfl (.tmp 19) (.tmp 20) 22 5 (.int .u8 0) 1 rfl Tryd.underlying22 info5 rfl (by decide) (by omega) v103 t102 0 [.int .u8 0] (fun _ => True) (fun _ => False) rfl rfl ?aP (fun _ hk => hk.elim) ?aF ?aO ?aB ?aS ?aL ?_; (case aP => exact rfl); (case aB => exact (xS HB.out (ge GE101.out g0))); (case aF => exact (fun _ _ => trivial)); (case aO => exact (xR HO104.out)); (case aS => exact (below_size (xS HB.out (ge GE101.out g0)))); (case aL => have := LMc8.out; omega); intro v107 w14 ho hb hg hat; rw [← Ny106.out] at ho; have n1_ := Aside0.mk (hb); have n2_ := Aside0.mk (ho); clear HB HO104; revert n1_ n2_; intro HB HO108; clear ho hb hg hat))
  go_ret
  exact ⟨_, by first | rfl | simp [*], by (with_reducible repeat (first | apply Kd.R_alloc | apply Kd.R_drewN | apply Kd.R_drew)); exact HO108.out, by repeat (first | (with_reducible first | exact HB.out | apply below_alloc | apply pw_below_drewN | apply below_drew1 | refine below_set ?_ GE101.out) | exact HB.out)⟩
 ·replace c7 := Bool.eq_false_iff.mpr c7
  subst c7
  rw [if_neg (show ¬ (false = true) by decide)] at H
  by_cases c15 : a2 = 4
  ·rw [if_pos c15] at H
   have c15b0 : (a2 == 4) = true := beq_iff_eq.mpr c15
   have c15b1 : (a2 != 4) = false := bne_eq_false_iff_eq.mpr c15
   clear c15
   by_cases c16 : t102.length < 140737488355328
   rotate_left
   ·rw [if_neg c16] at H
    exact absurd H (by simp)
   rw [if_pos c16] at H
   have LMc16 := Aside0.mk c16
   clear c16
   obtain ⟨y109, hy109⟩ : ∃ y_ : List Int, y_ = (t102 ++ [1]) := ⟨_, rfl⟩
   replace H : ((wire_Text.f k y109 a1_2).bind fun t112 => (some t112)) = some r := by first | (rw [hy109]; with_reducible exact H) | (have H2_ := (Option.bind_some _ _).symm.trans H; rw [hy109]; with_reducible exact H2_) | (have H2_ := (Option.bind_some _ _).symm.trans H; with_reducible exact H2_) | with_reducible exact H | (rw [hy109]; exact H) | exact H
   have Ny109 := Aside0.mk hy109
   clear hy109
   replace H := Option.bind_eq_some_iff.mp H
   obtain ⟨t112, A170, H⟩ := H
   replace H : (some t112) = some r := H
   have A17 := Aside0.mk A170
   clear A170
   obtain rfl := Option.some.inj H
   go_enter Tryd.func10, Tryd.ntmps10
   try go_wp2_with (first | ((with_reducible refine gate_dst (N := 4) rfl ?_); refine box_event ?hg (N := 4) ?hd (cs := #[.bool false, .int .i64 a1_1, .string a1_2]) (t := 25) ?hr ?_; (case hd => rfl); (case hg => rfl); (case hr => first | (go_simp; done) | (go_simp; rfl)); intro gb101 hg w18 hbox hb; have n0_ := Aside0.mk (below_step (xW HB.out) hb); have n1_ := Aside0.mk (hbox); have n2_ := Aside0.mk ((by rw [hg]; exact (below_size (xW HB.out)) : w.heap.size ≤ gb101)); have n3_ := Aside0.mk ((by rw [hg]; exact (below_size (xW HB.out)) : w.heap.size ≤ gb101)); clear HB; revert n0_ n1_ n2_ n3_; intro HB BK101 GW101 GE101; clear hb hbox hg) | ((with_reducible refine gate_callee (f := 22) rfl ?_); refine goesL_ (some 9) rfl rfl Tryd.func22 (by kernel_rfl) rfl #[.slice A0 l0.length c0] rfl (by (try simp only [List.map_toArray, List.map_cons, List.map_nil]) <;> rfl) ?_; (with_reducible refine (slices_Clone_byte_byte.calls _ _ l0 t102 _ ?side1 ?side2 A4.out).mono ?_); (case side1 => exact xC (Kd.C_below HR0.out HB.out)); (case side2 => exact HC0.out); rintro e w19 ⟨v103, rfl, ho0, hb⟩; refine ⟨_, rfl, ?_⟩; have n0_ := Aside0.mk (Kd.R_lower ho0 (below_size (xS HB.out (ge GE101.out g0)))); have n1_ := Aside0.mk (blk_below (xB BK101.out) hb); have n2_ := Aside0.mk (below_step (xS HB.out (ge GE101.out g0)) hb); clear BK101 HB; revert n0_ n1_ n2_; intro HO104 BK101 HB; (try clear hb); (try clear ho0); have hcz20_0 : w19.cell? ⟨gb101, 0, none⟩ = some (.bool false) := (blk_cell BK101.out 0).trans rfl; have hcz20_1 : w19.cell? ⟨gb101, 1, none⟩ = some (.int .i64 a1_1) := (blk_cell BK101.out 1).trans rfl; have hcz20_2 : w19.cell? ⟨gb101, 2, none⟩ = some (.string a1_2) := (blk_cell BK101.out 2).trans rfl; have hfz20_0 := blk_frozen BK101.out 0; have hfz20_1 := blk_frozen BK101.out 1; have hfz20_2 := blk_frozen BK101.out 2) | ((with_reducible refine gate_callee (f := 14) rfl ?_); refine goesL_ (some 13) rfl rfl Tryd.func14 (by kernel_rfl) rfl #[.agg #[.bool false, .int .i64 a1_1, .string a1_2], .int .i64 a2] rfl (by (try simp only [List.map_toArray, List.map_cons, List.map_nil]) <;> rfl) ?_; (with_reducible refine (value_Valid.calls false a1_1 a1_2 a2 true _ A5.out).mono ?_); rintro e w21 ⟨rfl, hb⟩; refine ⟨_, rfl, ?_⟩; have n0_ := Aside0.mk (Kd.R_below (xR HO104.out) hb); have n1_ := Aside0.mk (blk_below (xB BK101.out) hb); have n2_ := Aside0.mk (below_step (xS HB.out (ge GE101.out g0)) hb); clear HO104 BK101 HB; revert n0_ n1_ n2_; intro HO104 BK101 HB; (try clear hb); have hcz22_0 : w21.cell? ⟨gb101, 0, none⟩ = some (.bool false) := (blk_cell BK101.out 0).trans rfl; have hcz22_1 : w21.cell? ⟨gb101, 1, none⟩ = some (.int .i64 a1_1) := (blk_cell BK101.out 1).trans rfl; have hcz22_2 : w21.cell? ⟨gb101, 2, none⟩ = some (.string a1_2) := (blk_cell BK101.out 2).trans rfl; have hfz22_0 := blk_frozen BK101.out 0; have hfz22_1 := blk_frozen BK101.out 1; have hfz22_2 := blk_frozen BK101.out 2))
   have n0_ := Aside0.mk (Kd.R_drew HO104.out)
   have n1_ := Aside0.mk (blk_drew BK101.out)
   have n2_ := Aside0.mk (below_drew1 HB.out)
   clear HO104
   clear BK101
   clear HB
   have HO104 := n0_
   have BK101 := n1_
   have HB := n2_
   clear n0_ n1_ n2_
   refine start_ (n := 7) (S := fun w' => w'.cell? ⟨gb101, 0, none⟩ = some (.bool false) ∧ w'.cell? ⟨gb101, 1, none⟩ = some (.int .i64 a1_1) ∧ w'.cell? ⟨gb101, 2, none⟩ = some (.string a1_2)) (ds := []) #[false, false, false, false, false, false, false] (by kernel_rfl) rfl rfl ⟨(blk_cell BK101.out 0).trans rfl, (blk_cell BK101.out 1).trans rfl, (blk_cell BK101.out 2).trans rfl⟩ (fun hHeld => ?_)
   generalize w21.drew = w23 at HO104 BK101 HB hHeld ⊢
   refine pure_ (i := 0) (N := some 25) (v := ?_) (a' := ?_) #[true, false, false, false, false, false, false] rfl rfl (by kernel_rfl) (fun _ _ _ h => h) (Or.inl ⟨by rfl, ?_⟩) ?_ ?_
   rotate_left
   ·intro w'
    go_simp
    with_reducible rfl
   rotate_left
   ·simp only [Act.put, List.setIfInBounds_toArray, List.set_cons_zero, List.set_cons_succ, i64_w, i32_w]
    rfl
   refine pure_ (i := 3) (N := some 28) (v := ?_) (a' := ?_) #[true, false, false, true, false, false, false] rfl rfl (by kernel_rfl) (fun _ _ _ h => h) (Or.inl ⟨by rfl, ?_⟩) ?_ ?_
   rotate_left
   ·intro w'
    go_simp
    with_reducible rfl
   rotate_left
   ·simp only [Act.put, List.setIfInBounds_toArray, List.set_cons_zero, List.set_cons_succ, i64_w, i32_w]
    rfl
   refine take_ (i := 4) (N := some 29) (v := ?_) (a' := ?_) #[true, false, false, true, true, false, false] rfl rfl (by kernel_rfl) (fun _ _ _ h => h) (Or.inl ⟨by rfl, ?_⟩) hHeld ?_ ?_
   rotate_left
   ·rintro w' ⟨s0, s1, s2⟩
    go_simp
    with_reducible rfl
   rotate_left
   ·simp only [Act.put, List.setIfInBounds_toArray, List.set_cons_zero, List.set_cons_succ, i64_w, i32_w]
    rfl
   refine one_ (i := 1) (N := some 26) #[true, true, false, true, true, false, false] rfl rfl (by kernel_rfl) (by decide) (fun K hK => ?_)
   refine value_ (w1 := ?_) (v := ?_) (by rfl) rfl ?_ ?_
   rotate_left 2
   ·go_simp
    constructor
    ·rfl
    ·rfl
   refine hK.out _ _ ⟨(blk_cell (blk_alloc BK101.out _) 0).trans rfl, (blk_cell (blk_alloc BK101.out _) 1).trans rfl, (blk_cell (blk_alloc BK101.out _) 2).trans rfl⟩ (fun hHeld => ?_)
   clear hK K
   refine norm_ (a' := ?_) ?_ ?_
   rotate_left
   ·show Act.put _ (some 26) _ = _
    simp only [Act.put, List.setIfInBounds_toArray, List.set_cons_zero, List.set_cons_succ, i64_w, i32_w]
    rfl
   refine one_ (i := 2) (N := some 27) #[true, true, true, true, true, false, false] rfl rfl (by kernel_rfl) (by decide) (fun K hK => ?_)
   refine Kd.R_append_step (Kd.int .u8) (w0 := w) w.heap.size (by rfl) (.tmp 25) (.tmp 26) 22 5 (.int .u8 0) 1 rfl Tryd.underlying22 info5 rfl (by decide) (by omega) v103 t102 1 [.int .u8 1] (fun _ => True) (fun _ => False) rfl rfl ?aP (fun _ hk => hk.elim) ?aF ?aO ?aB ?aS ?aL ?_
   (case aP => exact rfl)
   (case aB => exact (xS HB.out (ge GE101.out g0)))
   (case aF => exact (fun _ _ => trivial))
   (case aO => exact (xR HO104.out))
   (case aS => exact (below_size (xS HB.out (ge GE101.out g0))))
   (case aL => have := LMc16.out; omega)
   intro v110 w24 ho hb hg hat
   rw [← Ny109.out] at ho
   have n0_ := Aside0.mk (blk_grown (g := gb101) (o := .cells #[.bool false, .int .i64 a1_1, .string a1_2] 25 (0, 0)) (xB BK101.out) hg (Kd.R_ne HO104.out BK101.out (by decide)))
   have n1_ := Aside0.mk (hb)
   have n2_ := Aside0.mk (ho)
   clear BK101
   clear HB
   clear HO104
   have BK101 := n0_
   have HB := n1_
   have HO111 := n2_
   clear n0_ n1_ n2_
   clear ho hb hg hat
   obtain ⟨Ao25, co25, eo25⟩ := Kd.R_slice HO111.out
   (first | subst eo25 | (injection eo25 with f1_ f2_ f3_; have f4_ := f1_.symm; have f5_ := f3_.symm; clear f1_ f2_ f3_; subst f4_; subst f5_))
   refine hK.out _ _ ⟨(blk_cell BK101.out 0).trans rfl, (blk_cell BK101.out 1).trans rfl, (blk_cell BK101.out 2).trans rfl⟩ (fun hHeld => ?_)
   clear hK K
   refine norm_ (a' := ?_) ?_ ?_
   rotate_left
   ·show Act.put _ (some 27) _ = _
    simp only [Act.put, List.setIfInBounds_toArray, List.set_cons_zero, List.set_cons_succ, i64_w, i32_w]
    rfl
   refine one_ (i := 5) (N := some 30) #[true, true, true, true, true, true, false] rfl rfl (by kernel_rfl) (by decide) (fun K hK => ?_)
   refine goes_ Tryd.func23 (by kernel_rfl) rfl #[.slice Ao25 y109.length co25, .string a1_2] (by rfl) rfl rfl (by (try simp only [List.map_toArray, List.map_cons, List.map_nil]) <;> rfl) ?_
   with_reducible refine (wire_Text.calls k _ _ y109 a1_2 t112 _ ?side1 ?side2 A17.out).mono ?_
   (case side1 => exact xC (Kd.R_reads' HO111.out).2.2)
   (case side2 => exact (Kd.R_reads' HO111.out).2.1)
   rintro e w26 ⟨v113, rfl, ho0, hb⟩
   refine ⟨_, rfl, ?_⟩
   have n0_ := Aside0.mk (Kd.R_elder' (xR HO111.out) (Kd.R_base ho0) hb)
   have n1_ := Aside0.mk (Kd.R_lower (Kd.R_new' ho0 (Kd.R_lt (xR HO111.out))) (below_size (xS HB.out (ge GE101.out g0))))
   have n2_ := Aside0.mk (blk_below (xB BK101.out) hb)
   have n3_ := Aside0.mk (below_step (xS HB.out (ge GE101.out g0)) hb)
   clear HO111
   clear BK101
   clear HB
   have HO111 := n0_
   have HO114 := n1_
   have BK101 := n2_
   have HB := n3_
   clear n0_ n1_ n2_ n3_
   (try clear hb)
   (try clear hb2)
   (try clear hk)
   (try clear hi)
   (try clear ho0)
   refine hK.out _ _ ⟨(blk_cell BK101.out 0).trans rfl, (blk_cell BK101.out 1).trans rfl, (blk_cell BK101.out 2).trans rfl⟩ (fun hHeld => ?_)
   clear hK K
   refine norm_ (a' := ?_) ?_ ?_
   rotate_left
   ·show Act.put _ (some 30) _ = _
    simp only [Act.put, List.setIfInBounds_toArray, List.set_cons_zero, List.set_cons_succ, i64_w, i32_w]
    rfl
   refine pure_ (i := 6) (N := some 6) (v := ?_) (a' := ?_) #[true, true, true, true, true, true, true] rfl rfl (by kernel_rfl) (fun _ _ _ h => h) (Or.inl ⟨by rfl, ?_⟩) ?_ ?_
   rotate_left
   ·intro w'
    go_simp
    with_reducible rfl
   rotate_left
   ·simp only [Act.put, List.setIfInBounds_toArray, List.set_cons_zero, List.set_cons_succ, i64_w, i32_w]
    rfl
   refine done_ (by kernel_rfl) ?_
   try go_wp2
   go_ret
   exact ⟨_, by first | rfl | simp [*], by (with_reducible repeat (first | apply Kd.R_alloc | apply Kd.R_drewN | apply Kd.R_drew)); exact Kd.R_mono HO114.out (fun _ hk => trivial), by repeat (first | (with_reducible first | exact HB.out | apply below_alloc | apply pw_below_drewN | apply below_drew1 | refine below_set ?_ GE101.out) | exact HB.out)⟩
  ·rw [if_neg c15] at H
   have c15b0 : (a2 == 4) = false := beq_eq_false_iff_ne.mpr c15
   have c15b1 : (a2 != 4) = true := bne_iff_ne.mpr c15
   by_cases c27 : t102.length < 140737488355328
   rotate_left
   ·rw [if_neg c27] at H
    exact absurd H (by simp)
   rw [if_pos c27] at H
   have LMc27 := Aside0.mk c27
   clear c27
   obtain ⟨y115, hy115⟩ : ∃ y_ : List Int, y_ = (t102 ++ [1]) := ⟨_, rfl⟩
   replace H : ((wire_S.f k y115 a1_1).bind fun t118 => (some t118)) = some r := by first | (rw [hy115]; with_reducible exact H) | (have H2_ := (Option.bind_some _ _).symm.trans H; rw [hy115]; with_reducible exact H2_) | (have H2_ := (Option.bind_some _ _).symm.trans H; with_reducible exact H2_) | with_reducible exact H | (rw [hy115]; exact H) | exact H
   have Ny115 := Aside0.mk hy115
   clear hy115
   replace H := Option.bind_eq_some_iff.mp H
   obtain ⟨t118, A280, H⟩ := H
   replace H : (some t118) = some r := H
   have A28 := Aside0.mk A280
   clear A280
   obtain rfl := Option.some.inj H
   go_enter Tryd.func10, Tryd.ntmps10
   try go_wp2_with (first | ((with_reducible refine gate_dst (N := 4) rfl ?_); refine box_event ?hg (N := 4) ?hd (cs := #[.bool false, .int .i64 a1_1, .string a1_2]) (t := 25) ?hr ?_; (case hd => rfl); (case hg => rfl); (case hr => first | (go_simp; done) | (go_simp; rfl)); intro gb101 hg w29 hbox hb; have n0_ := Aside0.mk (below_step (xW HB.out) hb); have n1_ := Aside0.mk (hbox); have n2_ := Aside0.mk ((by rw [hg]; exact (below_size (xW HB.out)) : w.heap.size ≤ gb101)); have n3_ := Aside0.mk ((by rw [hg]; exact (below_size (xW HB.out)) : w.heap.size ≤ gb101)); clear HB; revert n0_ n1_ n2_ n3_; intro HB BK101 GW101 GE101; clear hb hbox hg) | ((with_reducible refine gate_callee (f := 22) rfl ?_); refine goesL_ (some 9) rfl rfl Tryd.func22 (by kernel_rfl) rfl #[.slice A0 l0.length c0] rfl (by (try simp only [List.map_toArray, List.map_cons, List.map_nil]) <;> rfl) ?_; (with_reducible refine (slices_Clone_byte_byte.calls _ _ l0 t102 _ ?side1 ?side2 A4.out).mono ?_); (case side1 => exact xC (Kd.C_below HR0.out HB.out)); (case side2 => exact HC0.out); rintro e w30 ⟨v103, rfl, ho0, hb⟩; refine ⟨_, rfl, ?_⟩; have n0_ := Aside0.mk (Kd.R_lower ho0 (below_size (xS HB.out (ge GE101.out g0)))); have n1_ := Aside0.mk (blk_below (xB BK101.out) hb); have n2_ := Aside0.mk (below_step (xS HB.out (ge GE101.out g0)) hb); clear BK101 HB; revert n0_ n1_ n2_; intro HO104 BK101 HB; (try clear hb); (try clear ho0); have hcz31_0 : w30.cell? ⟨gb101, 0, none⟩ = some (.bool false) := (blk_cell BK101.out 0).trans rfl; have hcz31_1 : w30.cell? ⟨gb101, 1, none⟩ = some (.int .i64 a1_1) := (blk_cell BK101.out 1).trans rfl; have hcz31_2 : w30.cell? ⟨gb101, 2, none⟩ = some (.string a1_2) := (blk_cell BK101.out 2).trans rfl; have hfz31_0 := blk_frozen BK101.out 0; have hfz31_1 := blk_frozen BK101.out 1; have hfz31_2 := blk_frozen BK101.out 2) | ((with_reducible refine gate_callee (f := 14) rfl ?_); refine goesL_ (some 13) rfl rfl Tryd.func14 (by kernel_rfl) rfl #[.agg #[.bool false, .int .i64 a1_1, .string a1_2], .int .i64 a2] rfl (by (try simp only [List.map_toArray, List.map_cons, List.map_nil]) <;> rfl) ?_; (with_reducible refine (value_Valid.calls false a1_1 a1_2 a2 true _ A5.out).mono ?_); rintro e w32 ⟨rfl, hb⟩; refine ⟨_, rfl, ?_⟩; have n0_ := Aside0.mk (Kd.R_below (xR HO104.out) hb); have n1_ := Aside0.mk (blk_below (xB BK101.out) hb); have n2_ := Aside0.mk (below_step (xS HB.out (ge GE101.out g0)) hb); clear HO104 BK101 HB; revert n0_ n1_ n2_; intro HO104 BK101 HB; (try clear hb); have hcz33_0 : w32.cell? ⟨gb101, 0, none⟩ = some (.bool false) := (blk_cell BK101.out 0).trans rfl; have hcz33_1 : w32.cell? ⟨gb101, 1, none⟩ = some (.int .i64 a1_1) := (blk_cell BK101.out 1).trans rfl; have hcz33_2 : w32.cell? ⟨gb101, 2, none⟩ = some (.string a1_2) := (blk_cell BK101.out 2).trans rfl; have hfz33_0 := blk_frozen BK101.out 0; have hfz33_1 := blk_frozen BK101.out 1; have hfz33_2 := blk_frozen BK101.out 2))
   have n0_ := Aside0.mk (Kd.R_drew HO104.out)
   have n1_ := Aside0.mk (blk_drew BK101.out)
   have n2_ := Aside0.mk (below_drew1 HB.out)
   clear HO104
   clear BK101
   clear HB
   have HO104 := n0_
   have BK101 := n1_
   have HB := n2_
   clear n0_ n1_ n2_
   refine start_ (n := 7) (S := fun w' => w'.cell? ⟨gb101, 0, none⟩ = some (.bool false) ∧ w'.cell? ⟨gb101, 1, none⟩ = some (.int .i64 a1_1) ∧ w'.cell? ⟨gb101, 2, none⟩ = some (.string a1_2)) (ds := []) #[false, false, false, false, false, false, false] (by kernel_rfl) rfl rfl ⟨(blk_cell BK101.out 0).trans rfl, (blk_cell BK101.out 1).trans rfl, (blk_cell BK101.out 2).trans rfl⟩ (fun hHeld => ?_)
   generalize w32.drew = w34 at HO104 BK101 HB hHeld ⊢
   refine pure_ (i := 0) (N := some 31) (v := ?_) (a' := ?_) #[true, false, false, false, false, false, false] rfl rfl (by kernel_rfl) (fun _ _ _ h => h) (Or.inl ⟨by rfl, ?_⟩) ?_ ?_
   rotate_left
   ·intro w'
    go_simp
    with_reducible rfl
   rotate_left
   ·simp only [Act.put, List.setIfInBounds_toArray, List.set_cons_zero, List.set_cons_succ, i64_w, i32_w]
    rfl
   refine pure_ (i := 3) (N := some 34) (v := ?_) (a' := ?_) #[true, false, false, true, false, false, false] rfl rfl (by kernel_rfl) (fun _ _ _ h => h) (Or.inl ⟨by rfl, ?_⟩) ?_ ?_
   rotate_left
   ·intro w'
    go_simp
    with_reducible rfl
   rotate_left
   ·simp only [Act.put, List.setIfInBounds_toArray, List.set_cons_zero, List.set_cons_succ, i64_w, i32_w]
    rfl
   refine take_ (i := 4) (N := some 35) (v := ?_) (a' := ?_) #[true, false, false, true, true, false, false] rfl rfl (by kernel_rfl) (fun _ _ _ h => h) (Or.inl ⟨by rfl, ?_⟩) hHeld ?_ ?_
   rotate_left
   ·rintro w' ⟨s0, s1, s2⟩
    go_simp
    with_reducible rfl
   rotate_left
   ·simp only [Act.put, List.setIfInBounds_toArray, List.set_cons_zero, List.set_cons_succ, i64_w, i32_w]
    rfl
   refine one_ (i := 1) (N := some 32) #[true, true, false, true, true, false, false] rfl rfl (by kernel_rfl) (by decide) (fun K hK => ?_)
   refine value_ (w1 := ?_) (v := ?_) (by rfl) rfl ?_ ?_
   rotate_left 2
   ·go_simp
    constructor
    ·rfl
    ·rfl
   refine hK.out _ _ ⟨(blk_cell (blk_alloc BK101.out _) 0).trans rfl, (blk_cell (blk_alloc BK101.out _) 1).trans rfl, (blk_cell (blk_alloc BK101.out _) 2).trans rfl⟩ (fun hHeld => ?_)
   clear hK K
   refine norm_ (a' := ?_) ?_ ?_
   rotate_left
   ·show Act.put _ (some 32) _ = _
    simp only [Act.put, List.setIfInBounds_toArray, List.set_cons_zero, List.set_cons_succ, i64_w, i32_w]
    rfl
   refine one_ (i := 2) (N := some 33) #[true, true, true, true, true, false, false] rfl rfl (by kernel_rfl) (by decide) (fun K hK => ?_)
   refine Kd.R_append_step (Kd.int .u8) (w0 := w) w.heap.size (by rfl) (.tmp 31) (.tmp 32) 22 5 (.int .u8 0) 1 rfl Tryd.underlying22 info5 rfl (by decide) (by omega) v103 t102 1 [.int .u8 1] (fun _ => True) (fun _ => False) rfl rfl ?aP (fun _ hk => hk.elim) ?aF ?aO ?aB ?aS ?aL ?_
   (case aP => exact rfl)
   (case aB => exact (xS HB.out (ge GE101.out g0)))
   (case aF => exact (fun _ _ => trivial))
   (case aO => exact (xR HO104.out))
   (case aS => exact (below_size (xS HB.out (ge GE101.out g0))))
   (case aL => have := LMc27.out; omega)
   intro v116 w35 ho hb hg hat
   rw [← Ny115.out] at ho
   have n0_ := Aside0.mk (blk_grown (g := gb101) (o := .cells #[.bool false, .int .i64 a1_1, .string a1_2] 25 (0, 0)) (xB BK101.out) hg (Kd.R_ne HO104.out BK101.out (by decide)))
   have n1_ := Aside0.mk (hb)
   have n2_ := Aside0.mk (ho)
   clear BK101
   clear HB
   clear HO104
   have BK101 := n0_
   have HB := n1_
   have HO117 := n2_
   clear n0_ n1_ n2_
   clear ho hb hg hat
   obtain ⟨Ao36, co36, eo36⟩ := Kd.R_slice HO117.out
   (first | subst eo36 | (injection eo36 with f1_ f2_ f3_; have f4_ := f1_.symm; have f5_ := f3_.symm; clear f1_ f2_ f3_; subst f4_; subst f5_))
   refine hK.out _ _ ⟨(blk_cell BK101.out 0).trans rfl, (blk_cell BK101.out 1).trans rfl, (blk_cell BK101.out 2).trans rfl⟩ (fun hHeld => ?_)
   clear hK K
   refine norm_ (a' := ?_) ?_ ?_
   rotate_left
   ·show Act.put _ (some 33) _ = _
    simp only [Act.put, List.setIfInBounds_toArray, List.set_cons_zero, List.set_cons_succ, i64_w, i32_w]
    rfl
   refine one_ (i := 5) (N := some 36) #[true, true, true, true, true, true, false] rfl rfl (by kernel_rfl) (by decide) (fun K hK => ?_)
   refine goes_ Tryd.func24 (by kernel_rfl) rfl #[.slice Ao36 y115.length co36, .int .i64 a1_1] (by rfl) rfl rfl (by (try simp only [List.map_toArray, List.map_cons, List.map_nil]) <;> rfl) ?_
   with_reducible refine (wire_S.calls k _ _ y115 a1_1 t118 _ ?side1 ?side2 A28.out).mono ?_
   (case side1 => exact xC (Kd.R_reads' HO117.out).2.2)
   (case side2 => exact (Kd.R_reads' HO117.out).2.1)
   rintro e w37 ⟨v119, rfl, ho0, hb⟩
   refine ⟨_, rfl, ?_⟩
   have n0_ := Aside0.mk (Kd.R_elder' (xR HO117.out) (Kd.R_base ho0) hb)
   have n1_ := Aside0.mk (Kd.R_lower (Kd.R_new' ho0 (Kd.R_lt (xR HO117.out))) (below_size (xS HB.out (ge GE101.out g0))))
   have n2_ := Aside0.mk (blk_below (xB BK101.out) hb)
   have n3_ := Aside0.mk (below_step (xS HB.out (ge GE101.out g0)) hb)
   clear HO117
   clear BK101
   clear HB
   have HO117 := n0_
   have HO120 := n1_
   have BK101 := n2_
   have HB := n3_
   clear n0_ n1_ n2_ n3_
   (try clear hb)
   (try clear hb2)
   (try clear hk)
   (try clear hi)
   (try clear ho0)
   refine hK.out _ _ ⟨(blk_cell BK101.out 0).trans rfl, (blk_cell BK101.out 1).trans rfl, (blk_cell BK101.out 2).trans rfl⟩ (fun hHeld => ?_)
   clear hK K
   refine norm_ (a' := ?_) ?_ ?_
   rotate_left
   ·show Act.put _ (some 36) _ = _
    simp only [Act.put, List.setIfInBounds_toArray, List.set_cons_zero, List.set_cons_succ, i64_w, i32_w]
    rfl
   refine pure_ (i := 6) (N := some 6) (v := ?_) (a' := ?_) #[true, true, true, true, true, true, true] rfl rfl (by kernel_rfl) (fun _ _ _ h => h) (Or.inl ⟨by rfl, ?_⟩) ?_ ?_
   rotate_left
   ·intro w'
    go_simp
    with_reducible rfl
   rotate_left
   ·simp only [Act.put, List.setIfInBounds_toArray, List.set_cons_zero, List.set_cons_succ, i64_w, i32_w]
    rfl
   refine done_ (by kernel_rfl) ?_
   try go_wp2
   go_ret
   exact ⟨_, by first | rfl | simp [*], by (with_reducible repeat (first | apply Kd.R_alloc | apply Kd.R_drewN | apply Kd.R_drew)); exact Kd.R_mono HO120.out (fun _ hk => trivial), by repeat (first | (with_reducible first | exact HB.out | apply below_alloc | apply pw_below_drewN | apply below_drew1 | refine below_set ?_ GE101.out) | exact HB.out)⟩
end
end Go.Proofs.YtlcibkbpppijdaaDoor.X
