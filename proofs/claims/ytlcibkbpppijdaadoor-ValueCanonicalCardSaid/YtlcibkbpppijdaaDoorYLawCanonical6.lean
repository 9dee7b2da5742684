/- The law LawCanonical: its walk and its proof, part 7 of 8. -/
import Derived.Laws.Bits64
import Derived.Laws.BitsAllLaws
import Derived.Laws.BitsLemmas
import Derived.Lib.Zigzag
import Derived.Test.YtlcibkbpppijdaaDoorYLawCanonical0
import Derived.Test.YtlcibkbpppijdaaDoorYLawCanonical1
import Derived.Test.YtlcibkbpppijdaaDoorYLawCanonical2
import Derived.Test.YtlcibkbpppijdaaDoorYLawCanonical3
import Derived.Test.YtlcibkbpppijdaaDoorYLawCanonical4
import Derived.Test.YtlcibkbpppijdaaDoorYLawCanonical5
namespace Go.Proofs.YtlcibkbpppijdaaDoor.X
section
open Go.RowKit Go.Proofs.YtlcibkbpppijdaaDoorW.PrintWords Go.Proofs.YtlcibkbpppijdaaDoorW.PrintLast Go.Proofs.YtlcibkbpppijdaaDoorW.PrintMore
attribute [local go_sem] max2_int min2_int max_two min_two max_three min_three max_four min_four   -- for this text's walks alone
set_option linter.unusedVariables false
set_option linter.unusedSimpArgs false
attribute [local go_sem high] eqA25
def fenlandlaw05_ValueCanonical.j0 : Nat → List Int → Int → Int → Bool → Int → Int → Bool → Bool → Int → ByteArray → Option (Bool)
 | 0, _, _, _, _, _, _, _, _, _, _ => none
 | k + 1, x0, x1, x2, x7, x9, x10, x48, x121000, x121001, x121002 => if x48 = true then (none) else (if x10 = 0 then (if x1 < 0 then (none) else (if x9 ≤ x1 then (none) else (if x9 > (x0.length : Int) then (none) else ((value_Valid.f x121000 x121001 x121002 x2).bind fun t206 => (if t206 = true then ((value_Encode.f k ([] : List Int) x121000 x121001 x121002 x2).bind fun t207 => (if 0 ≤ x1 then (if x1 ≤ x9 then (if x9 ≤ (x0.length : Int) then ((fenlandref01_Same.f k t207 ((x0.take (x9 : Int).toNat).drop (x1 : Int).toNat)).bind fun t211 => (if t211 = true then (some x7) else (some false))) else (none)) else (none)) else (none))) else (some false)))))) else (if (!x121000 && (x121001 == 0 && (x121002.toList == ([] : List UInt8)))) = true then (if x9 = 0 then (some x7) else (none)) else (none)))
def fenlandlaw05_ValueCanonical.f (k : Nat) (l0 : List Int) (a1 : Int) (a2 : Int) : Option (Bool) := (fenlandlaw05_sanity.f k).bind fun t101 => (if (l0.length : Int) > 400 then (some t101) else ((value_Decode.f k l0 a1 a2).bind fun bt115 => ((value_Parse.f k (strOfNums l0) a2).bind fun bt121 => (if bt121.2.2.2 = 0 then ((value_Valid.f bt121.1 bt121.2.1 bt121.2.2.1 a2).bind fun t126 => (if t126 = true then ((value_Show.f bt121.1 bt121.2.1 bt121.2.2.1 a2).bind fun t127 => (fenlandlaw05_ValueCanonical.j0 k l0 a1 a2 t101 bt115.2.2.2.1 bt115.2.2.2.2 (t127.toList != (strOfNums l0).toList) bt115.1 bt115.2.1 bt115.2.2.1)) else (none))) else (fenlandlaw05_ValueCanonical.j0 k l0 a1 a2 t101 bt115.2.2.2.1 bt115.2.2.2.2 false bt115.1 bt115.2.1 bt115.2.2.1)))))
def fenlandlaw05_ValueCanonical.T6 : Bool × List (List Nat × List Nat) := (true, [([], []), ([0], [0]), ([1], [1]), ([2], [2]), ([2], [2]), ([3, 4, 2, 2], [2, 3, 4]), ([5, 2], [2, 5]), ([6, 5, 2], [2, 6]), ([7], [7]), ([7], [7]), ([8, 9, 7, 7], [7, 8, 9]), ([7], [7]), ([11, 7], [7, 11]), ([10, 12, 7], [7, 10, 12]), ([7, 13, 2], [2, 7, 13]), ([2, 14], [2, 14])])
def fenlandlaw05_ValueCanonical.B6 : List Nat := [0, 1, 3, 7, 7, 31, 63, 127, 255, 255, 1023, 255, 2303, 8191, 16383, 32767]
theorem fenlandlaw05_ValueCanonical.tab6 : rtab .any (opsOf Tryd.f4 6) = fenlandlaw05_ValueCanonical.T6 := by kernel_rfl
theorem fenlandlaw05_ValueCanonical.bits6 : waitsOk fenlandlaw05_ValueCanonical.T6.2 fenlandlaw05_ValueCanonical.B6 = true := by kernel_rfl
def fenlandlaw05_ValueCanonical.T12 : Bool × List (List Nat × List Nat) := (true, [([], []), ([], []), ([0, 1], [0, 1]), ([2, 2], [2]), ([3], [3]), ([3], [3]), ([4, 5, 3, 3], [3, 4, 5]), ([3], [3]), ([3], [3]), ([3], [3]), ([7, 8, 9, 3], [3, 7, 8, 9]), ([6, 10, 6, 3], [3, 6, 10]), ([3, 11], [3, 11]), ([12, 11], [12]), ([13], [13]), ([13, 14], [13, 14]), ([15, 13, 0, 1, 2, 3, 4, 5, 6, 7, 8, 9, 10, 11, 12, 13, 14, 15], [15])])
def fenlandlaw05_ValueCanonical.B12 : List Nat := [0, 0, 3, 7, 15, 15, 63, 15, 15, 15, 911, 2047, 4095, 8191, 16383, 32767, 65535]
theorem fenlandlaw05_ValueCanonical.tab12 : rtab .any (opsOf Tryd.f4 12) = fenlandlaw05_ValueCanonical.T12 := by kernel_rfl
theorem fenlandlaw05_ValueCanonical.bits12 : waitsOk fenlandlaw05_ValueCanonical.T12.2 fenlandlaw05_ValueCanonical.B12 = true := by kernel_rfl
set_option maxHeartbeats 8000000 in
set_option maxRecDepth 100000 in
theorem fenlandlaw05_ValueCanonical.calls (k : Nat) (A0 : Option Addr) (c0 : Nat) (l0 : List Int) (a1 : Int) (a2 : Int) (r : Bool) (w : World) (hG : Glob w) (hr0 : Kd.C (Kd.int .u8) w A0 l0.length l0) (hc0 : l0.length ≤ c0) (h : fenlandlaw05_ValueCanonical.f k l0 a1 a2 = some r) :
  Calls Tryd.prog 4 #[.slice A0 l0.length c0, .int .i64 a1, .int .i64 a2] w fun e w' => e = .returned (.bool r) ∧ Below w.heap.size w w' := by
 have HG := Aside0.mk hG
 clear hG
 have hu25 := Tryd.underlying25
 have HR0 := Aside0.mk hr0
 have HC0 := Aside0.mk hc0
 clear hr0 hc0
 have HB := Aside0.mk (Below.refl w.heap.size w)
 have H : ((fenlandlaw05_sanity.f k).bind fun t101 => (if (l0.length : Int) > 400 then (some t101) else ((value_Decode.f k l0 a1 a2).bind fun bt115 => ((value_Parse.f k (strOfNums l0) a2).bind fun bt121 => (if bt121.2.2.2 = 0 then ((value_Valid.f bt121.1 bt121.2.1 bt121.2.2.1 a2).bind fun t126 => (if t126 = true then ((value_Show.f bt121.1 bt121.2.1 bt121.2.2.1 a2).bind fun t127 => (fenlandlaw05_ValueCanonical.j0 k l0 a1 a2 t101 bt115.2.2.2.1 bt115.2.2.2.2 (t127.toList != (strOfNums l0).toList) bt115.1 bt115.2.1 bt115.2.2.1)) else (none))) else (fenlandlaw05_ValueCanonical.j0 k l0 a1 a2 t101 bt115.2.2.2.1 bt115.2.2.2.2 false bt115.1 bt115.2.1 bt115.2.2.1)))))) = some r := h
 clear h
 replace H := Option.bind_eq_some_iff.mp H
 obtain ⟨t101, A40, H⟩ := H
 (try dsimp only at H)
 have A4 := Aside0.mk A40
 clear A40
 by_cases c5 : (l0.length : Int) > 400
 ·rw [if_pos c5] at H
  have c5b0 : decide (400 < (l0.length : Int)) = true := decide_eq_true c5
  have c5b1 : decide (400 < l0.length) = true := decide_eq_true (by omega)
  clear c5
  obtain rfl := Option.some.inj H
  go_enter Tryd.func4, Tryd.ntmps4
  go_wp2_with (first | ((with_reducible refine gate_callee (f := 8) rfl ?_); refine goesL_ (some 13) rfl rfl Tryd.func8 (by kernel_rfl) rfl #[] rfl (by (try simp only [List.map_toArray, List.map_cons, List.map_nil]) <;> rfl) ?_; (with_reducible refine (fenlandlaw05_sanity.calls (hG := HG.out.at (xW HB.out)) k  t101 _ A4.out).mono ?_); rintro e w6 ⟨rfl, hb⟩; refine ⟨_, rfl, ?_⟩; have n0_ := Aside0.mk (below_step (xW HB.out) hb); clear HB; revert n0_; intro HB; (try clear hb)))
  go_ret
  exact ⟨by first | rfl | simp [*], by repeat (first | (with_reducible first | exact HB.out | apply below_alloc | apply pw_below_drewN | apply below_drew1) | exact HB.out)⟩
 ·rw [if_neg c5] at H
  have c5b0 : decide (400 < (l0.length : Int)) = false := decide_eq_false c5
  have c5b1 : decide (400 < l0.length) = false := decide_eq_false (by omega)
  clear c5
  replace H := Option.bind_eq_some_iff.mp H
  obtain ⟨⟨t115, t116, t117, t118, t119⟩, A70, H⟩ := H
  (try dsimp only at H)
  have A7 := Aside0.mk A70
  clear A70
  replace H := Option.bind_eq_some_iff.mp H
  obtain ⟨⟨t121, t122, t123, t124⟩, A80, H⟩ := H
  (try dsimp only at H)
  have A8 := Aside0.mk A80
  clear A80
  have HC9 := Aside0.mk H
  clear H
  go_enter Tryd.func4, Tryd.ntmps4
  go_upto_region 6 with (first | ((with_reducible refine gate_callee (f := 8) rfl ?_); refine goesL_ (some 13) rfl rfl Tryd.func8 (by kernel_rfl) rfl #[] rfl (by (try simp only [List.map_toArray, List.map_cons, List.map_nil]) <;> rfl) ?_; (with_reducible refine (fenlandlaw05_sanity.calls (hG := HG.out.at (xW HB.out)) k  t101 _ A4.out).mono ?_); rintro e w10 ⟨rfl, hb⟩; refine ⟨_, rfl, ?_⟩; have n0_ := Aside0.mk (below_step (xW HB.out) hb); clear HB; revert n0_; intro HB; (try clear hb)) | ((with_reducible refine gate_callee (f := 11) rfl ?_); refine goesL_ (some 22) rfl rfl Tryd.func11 (by kernel_rfl) rfl #[.slice A0 l0.length c0, .int .i64 a1, .int .i64 a2] rfl (by (try simp only [List.map_toArray, List.map_cons, List.map_nil]) <;> rfl) ?_; (with_reducible refine (value_Decode.calls k _ _ l0 a1 a2 t115 t116 t117 t118 t119 _ ?side1 ?side2 A7.out).mono ?_); (case side1 => exact xC (Kd.C_below HR0.out HB.out)); (case side2 => exact HC0.out); rintro e w11 ⟨rfl, hb⟩; refine ⟨_, rfl, ?_⟩; have n0_ := Aside0.mk (below_step (xW HB.out) hb); clear HB; revert n0_; intro HB; (try clear hb)) | ((with_reducible refine gate_dst (N := 8) rfl ?_); (try (refine gate_guard (by rfl) ?_; dsimp only)); refine box_event ?hg (N := 8) ?hd (cs := #[.bool false, .int .i64 0, .string (⟨#[]⟩ : ByteArray)]) (t := 25) ?hr ?_; (case hd => rfl); (case hg => rfl); (case hr => first | (go_simp; done) | (go_simp; rfl)); intro gb120 hg w12 hbox hb; have n0_ := Aside0.mk (below_step (xW HB.out) hb); have n1_ := Aside0.mk (hbox); have n2_ := Aside0.mk ((by rw [hg]; exact (below_size (xW HB.out)) : w.heap.size ≤ gb120)); have n3_ := Aside0.mk ((by rw [hg]; exact (below_size (xW HB.out)) : w.heap.size ≤ gb120)); clear HB; revert n0_ n1_ n2_ n3_; intro HB BK120 GW120 GE120; clear hb hbox hg; have hcz13_0 : w12.cell? ⟨gb120, 0, none⟩ = some (.bool false) := (blk_cell BK120.out 0).trans rfl; have hcz13_1 : w12.cell? ⟨gb120, 1, none⟩ = some (.int .i64 0) := (blk_cell BK120.out 1).trans rfl; have hcz13_2 : w12.cell? ⟨gb120, 2, none⟩ = some (.string (⟨#[]⟩ : ByteArray)) := (blk_cell BK120.out 2).trans rfl; have hfz13_0 := blk_frozen BK120.out 0; have hfz13_1 := blk_frozen BK120.out 1; have hfz13_2 := blk_frozen BK120.out 2; have hcv14 := fun (x0_ x1_ x2_ : Value) => Kd.C_string (P := Tryd.prog) (A := A0) (c := c0) Tryd.underlying22 Tryd.underlying5 Tryd.underlying9 (Kd.C_below HR0.out (below_set (v := x2_) (j := 2) (below_set (v := x1_) (j := 1) (below_set (v := x0_) (j := 0) HB.out GE120.out) GE120.out) GE120.out))) | ((with_reducible refine gate_callee (f := 12) rfl ?_); refine goesL_ (some 30) rfl rfl Tryd.func12 (by kernel_rfl) rfl #[.string (strOfNums l0), .int .i64 a2] rfl (by (try simp only [List.map_toArray, List.map_cons, List.map_nil]) <;> rfl) ?_; (with_reducible refine (value_Parse.calls (hG := HG.out.at (xS HB.out (ge GE120.out g0))) k (strOfNums l0) a2 t121 t122 t123 t124 _ A8.out).mono ?_); rintro e w15 ⟨rfl, hb⟩; refine ⟨_, rfl, ?_⟩; have n0_ := Aside0.mk (blk_below (g := gb120) (o := .cells #[.bool t115, .int .i64 t116, .string t117] 25 (0, 0)) (xP BK120.out g0 rfl) hb); have n1_ := Aside0.mk (below_step (xS HB.out (ge GE120.out g0)) hb); clear BK120 HB; revert n0_ n1_; intro BK120 HB; (try clear hb)) | ((with_reducible refine gate_dst (N := 11) rfl ?_); (try (refine gate_guard (by rfl) ?_; dsimp only)); refine box_event ?hg (N := 11) ?hd (cs := #[.bool false, .int .i64 0, .string (⟨#[]⟩ : ByteArray)]) (t := 25) ?hr ?_; (case hd => rfl); (case hg => rfl); (case hr => first | (go_simp; done) | (go_simp; rfl)); intro gb125 hg w16 hbox hb; have n0_ := Aside0.mk (blk_below (xB BK120.out) hb); have n1_ := Aside0.mk (below_step (xS HB.out (ge GE120.out g0)) hb); have n2_ := Aside0.mk (hbox); have n3_ := Aside0.mk ((by rw [hg]; exact (below_size (xS HB.out (ge GE120.out g0))) : w.heap.size ≤ gb125)); have n4_ := Aside0.mk ((by rw [hg]; exact (below_size (xS HB.out (ge GE120.out g0))) : w.heap.size ≤ gb125)); have n5_ := Aside0.mk ((by rw [hg]; exact Nat.ne_of_lt (blk_lt (xB BK120.out)) : gb120 ≠ gb125)); have n6_ := Aside0.mk ((by rw [hg]; exact Nat.ne_of_gt (blk_lt (xB BK120.out)) : gb125 ≠ gb120)); clear BK120 HB; revert n0_ n1_ n2_ n3_ n4_ n5_ n6_; intro BK120 HB BK125 GW125 GE125 NB120_125 NB125_120; clear hb hbox hg; have hnb17 := NB125_120.out; have hnc17 := NB120_125.out; have hcz18_0 : w16.cell? ⟨gb125, 0, none⟩ = some (.bool false) := (blk_cell BK125.out 0).trans rfl; have hcz18_1 : w16.cell? ⟨gb125, 1, none⟩ = some (.int .i64 0) := (blk_cell BK125.out 1).trans rfl; have hcz18_2 : w16.cell? ⟨gb125, 2, none⟩ = some (.string (⟨#[]⟩ : ByteArray)) := (blk_cell BK125.out 2).trans rfl; have hfz18_0 := blk_frozen BK125.out 0; have hfz18_1 := blk_frozen BK125.out 1; have hfz18_2 := blk_frozen BK125.out 2))
  (try simp only [Act.put, List.setIfInBounds_toArray, List.set_cons_zero, List.set_cons_succ])
  go_cut [48] (fun v48 wc => ∃ (kq : Nat) (x48_8 : Bool), v48 = .bool x48_8 ∧ Aside0 (fenlandlaw05_ValueCanonical.j0 kq l0 a1 a2 t101 t118 t119 x48_8 t115 t116 t117 = some r) ∧ Aside0 (kq ≤ k) ∧ Aside0 (wc.heap[gb120]? = some (.cells #[.bool t115, .int .i64 t116, .string t117] 25 (0, 0))) ∧ Aside0 (wc.heap[gb125]? = some (.cells #[.bool t121, .int .i64 t122, .string t123] 25 (0, 0))) ∧ Aside0 (Below w.heap.size w wc))
  case first =>
   have H := HC9.out
   clear HC9
   by_cases c19 : t124 = 0
   ·rw [if_pos c19] at H
    have c19b0 : (t124 == 0) = true := beq_iff_eq.mpr c19
    have c19b1 : (t124 != 0) = false := bne_eq_false_iff_eq.mpr c19
    clear c19
    (first | rw [c19b0] | (simp only [i64_w, i32_w]; rw [c19b0]) | skip)
    replace H := Option.bind_eq_some_iff.mp H
    obtain ⟨t126, A200, H⟩ := H
    (try dsimp only at H)
    have A20 := Aside0.mk A200
    clear A200
    by_cases c21 : t126 = true
    rotate_left
    ·exact absurd H (by simp [c21])
    subst c21
    rw [if_pos rfl] at H
    replace H := Option.bind_eq_some_iff.mp H
    obtain ⟨t127, A220, H⟩ := H
    (try dsimp only at H)
    have A22 := Aside0.mk A220
    clear A220
    have H' := Aside0.mk H
    clear H
    try go_wp2
    have n0_ : Aside0 ((((w16.setCell ⟨gb125, 0, none⟩ (.bool t121)).setCell ⟨gb125, 1, none⟩ (.int .i64 t122)).setCell ⟨gb125, 2, none⟩ (.string t123)).heap[gb120]? = some (.cells #[.bool t115, .int .i64 t116, .string t117] 25 (0, 0))) := ⟨(xF BK120.out (ge NB120_125.out g0))⟩
    have n1_ : Aside0 ((((w16.setCell ⟨gb125, 0, none⟩ (.bool t121)).setCell ⟨gb125, 1, none⟩ (.int .i64 t122)).setCell ⟨gb125, 2, none⟩ (.string t123)).heap[gb125]? = some (.cells #[.bool t121, .int .i64 t122, .string t123] 25 (0, 0))) := ⟨(xP BK125.out g0 rfl)⟩
    have n2_ : Aside0 (Below w.heap.size w (((w16.setCell ⟨gb125, 0, none⟩ (.bool t121)).setCell ⟨gb125, 1, none⟩ (.int .i64 t122)).setCell ⟨gb125, 2, none⟩ (.string t123))) := ⟨(xS HB.out (ge GE120.out (ge GE125.out g0)))⟩
    (try clear BK120)
    (try clear BK125)
    (try clear HB)
    generalize (((w16.setCell ⟨gb125, 0, none⟩ (.bool t121)).setCell ⟨gb125, 1, none⟩ (.int .i64 t122)).setCell ⟨gb125, 2, none⟩ (.string t123)) = w23 at n0_ n1_ n2_ ⊢
    have BK120 := n0_
    have BK125 := n1_
    have HB := n2_
    clear n0_ n1_ n2_
    have n0_ := Aside0.mk (blk_drew BK120.out)
    have n1_ := Aside0.mk (blk_drew BK125.out)
    have n2_ := Aside0.mk (below_drew1 HB.out)
    clear BK120
    clear BK125
    clear HB
    have BK120 := n0_
    have BK125 := n1_
    have HB := n2_
    clear n0_ n1_ n2_
    refine start_ (n := 16) (S := fun w' => w'.cell? ⟨gb125, 0, none⟩ = some (.bool t121) ∧ w'.cell? ⟨gb125, 1, none⟩ = some (.int .i64 t122) ∧ w'.cell? ⟨gb125, 2, none⟩ = some (.string t123) ∧ (Kd.int .u8).C w' A0 l0.length l0) (ds := []) #[false, false, false, false, false, false, false, false, false, false, false, false, false, false, false, false] (by kernel_rfl) rfl rfl ⟨(blk_cell BK125.out 0).trans rfl, (blk_cell BK125.out 1).trans rfl, (blk_cell BK125.out 2).trans rfl, Kd.C_below HR0.out (xS HB.out (ge GE120.out (ge GE125.out g0)))⟩ (fun hHeld => ?_); refine with_tabW fenlandlaw05_ValueCanonical.tab6 fenlandlaw05_ValueCanonical.bits6 (fun HT_ HW_ => ?_)
    generalize w23.drew = w24 at BK120 BK125 HB hHeld ⊢
    refine pure_ (i := 0) (N := some 33) (v := ?_) (a' := ?_) #[true, false, false, false, false, false, false, false, false, false, false, false, false, false, false, false] rfl rfl (any_of HT_.out (by kernel_rfl)) (fun _ _ _ h => h) (Or.inl ⟨by rfl, ?_⟩) ?_ ?_
    rotate_left
    ·intro w'
     go_simp
     with_reducible rfl
    rotate_left
    ·simp only [Act.put, List.setIfInBounds_toArray, List.set_cons_zero, List.set_cons_succ, i64_w, i32_w]
     rfl
    refine pure_ (i := 1) (N := some 34) (v := ?_) (a' := ?_) #[true, true, false, false, false, false, false, false, false, false, false, false, false, false, false, false] rfl rfl (any_of HT_.out (by kernel_rfl)) (fun _ _ _ h => h) (Or.inl ⟨by rfl, ?_⟩) ?_ ?_
    rotate_left
    ·intro w'
     go_simp
     with_reducible rfl
    rotate_left
    ·simp only [Act.put, List.setIfInBounds_toArray, List.set_cons_zero, List.set_cons_succ, i64_w, i32_w]
     rfl
    refine pure_ (i := 2) (N := some 35) (v := ?_) (a' := ?_) #[true, true, true, false, false, false, false, false, false, false, false, false, false, false, false, false] rfl rfl (any_of HT_.out (by kernel_rfl)) (fun _ _ _ h => h) (Or.inl ⟨by rfl, ?_⟩) ?_ ?_
    rotate_left
    ·intro w'
     go_simp
     with_reducible rfl
    rotate_left
    ·simp only [Act.put, List.setIfInBounds_toArray, List.set_cons_zero, List.set_cons_succ, i64_w, i32_w]
     rfl
    refine pure_ (i := 4) (N := some 37) (v := ?_) (a' := ?_) #[true, true, true, false, true, false, false, false, false, false, false, false, false, false, false, false] rfl rfl (any_of HT_.out (by kernel_rfl)) (fun _ _ _ h => h) (Or.inl ⟨by rfl, ?_⟩) ?_ ?_
    rotate_left
    ·intro w'
     go_simp
     with_reducible rfl
    rotate_left
    ·simp only [Act.put, List.setIfInBounds_toArray, List.set_cons_zero, List.set_cons_succ, i64_w, i32_w]
     rfl
    refine take_ (i := 3) (N := some 36) (v := ?_) (a' := ?_) #[true, true, true, true, true, false, false, false, false, false, false, false, false, false, false, false] rfl rfl (take_ofW HT_.out HW_.out (by kernel_rfl)) (fun _ _ _ h => h) (Or.inl ⟨by rfl, ?_⟩) hHeld ?_ ?_
    rotate_left
    ·rintro w' ⟨s0, s1, s2, s3⟩
     go_simp
     with_reducible rfl
    rotate_left
    ·simp only [Act.put, List.setIfInBounds_toArray, List.set_cons_zero, List.set_cons_succ, i64_w, i32_w]
     rfl
    refine one_ (i := 5) (N := some 38) #[true, true, true, true, true, true, false, false, false, false, false, false, false, false, false, false] rfl rfl (one_of HT_.out (by kernel_rfl)) (by decide) (fun K hK => ?_)
    refine goes_ Tryd.func14 (by kernel_rfl) rfl #[.agg #[.bool t121, .int .i64 t122, .string t123], .int .i64 a2] (by rfl) rfl rfl (by (try simp only [List.map_toArray, List.map_cons, List.map_nil]) <;> rfl) ?_
    with_reducible refine (value_Valid.calls t121 t122 t123 a2 true _ A20.out).mono ?_
    rintro e w25 ⟨rfl, hb⟩
    refine ⟨_, rfl, ?_⟩
    have n0_ := Aside0.mk (blk_below (xB BK120.out) hb)
    have n1_ := Aside0.mk (blk_below (xB BK125.out) hb)
    have n2_ := Aside0.mk (below_step (xS HB.out (ge GE120.out (ge GE125.out g0))) hb)
    clear BK120
    clear BK125
    clear HB
    have BK120 := n0_
    have BK125 := n1_
    have HB := n2_
    clear n0_ n1_ n2_
    (try clear hb)
    (try clear hb2)
    (try clear hk)
    (try clear hi)
    refine hK.out _ _ ⟨(blk_cell BK125.out 0).trans rfl, (blk_cell BK125.out 1).trans rfl, (blk_cell BK125.out 2).trans rfl, Kd.C_below HR0.out (xS HB.out (ge GE120.out (ge GE125.out g0)))⟩ (fun hHeld => ?_)
    clear hK K
    refine norm_ (a' := ?_) ?_ ?_
    rotate_left
    ·show Act.put _ (some 38) _ = _
     simp only [Act.put, List.setIfInBounds_toArray, List.set_cons_zero, List.set_cons_succ, i64_w, i32_w]
     rfl
    refine pure_ (i := 6) (N := some 39) (v := ?_) (a' := ?_) #[true, true, true, true, true, true, true, false, false, false, false, false, false, false, false, false] rfl rfl (any_of HT_.out (by kernel_rfl)) (fun _ _ _ h => h) (Or.inl ⟨by rfl, ?_⟩) ?_ ?_
    rotate_left
    ·intro w'
     go_simp
     with_reducible rfl
    rotate_left
    ·simp only [Act.put, List.setIfInBounds_toArray, List.set_cons_zero, List.set_cons_succ, i64_w, i32_w]
     rfl
    refine pure_ (i := 7) (N := some 40) (v := ?_) (a' := ?_) #[true, true, true, true, true, true, true, true, false, false, false, false, false, false, false, false] rfl rfl (any_of HT_.out (by kernel_rfl)) (fun _ _ _ h => h) (Or.inl ⟨by rfl, ?_⟩) ?_ ?_
    rotate_left
    ·intro w'
     go_simp
     with_reducible rfl
    rotate_left
    ·simp only [Act.put, List.setIfInBounds_toArray, List.set_cons_zero, List.set_cons_succ, i64_w, i32_w]
     rfl
    refine pure_ (i := 9) (N := some 42) (v := ?_) (a' := ?_) #[true, true, true, true, true, true, true, true, false, true, false, false, false, false, false, false] rfl rfl (any_of HT_.out (by kernel_rfl)) (fun _ _ _ h => h) (Or.inl ⟨by rfl, ?_⟩) ?_ ?_
    rotate_left
    ·intro w'
     go_simp
     with_reducible rfl
    rotate_left
    ·simp only [Act.put, List.setIfInBounds_toArray, List.set_cons_zero, List.set_cons_succ, i64_w, i32_w]
     rfl
    refine pure_ (i := 11) (N := some 44) (v := ?_) (a' := ?_) #[true, true, true, true, true, true, true, true, false, true, false, true, false, false, false, false] rfl rfl (any_of HT_.out (by kernel_rfl)) (fun _ _ _ h => h) (Or.inl ⟨by rfl, ?_⟩) ?_ ?_
    rotate_left
    ·intro w'
     go_simp
     with_reducible rfl
    rotate_left
    ·simp only [Act.put, List.setIfInBounds_toArray, List.set_cons_zero, List.set_cons_succ, i64_w, i32_w]
     rfl
    refine take_ (i := 12) (N := some 45) (v := ?_) (a' := ?_) #[true, true, true, true, true, true, true, true, false, true, false, true, true, false, false, false] rfl rfl (take_ofW HT_.out HW_.out (by kernel_rfl)) (fun _ _ _ h => h) (Or.inl ⟨by rfl, ?_⟩) hHeld ?_ ?_
    rotate_left
    ·rintro w' ⟨s0, s1, s2, s3⟩
     have s4 := Kd.C_string (P := Tryd.prog) (A := A0) (c := c0) Tryd.underlying22 Tryd.underlying5 Tryd.underlying9 s3
     go_simp
     with_reducible rfl
    rotate_left
    ·simp only [Act.put, List.setIfInBounds_toArray, List.set_cons_zero, List.set_cons_succ, i64_w, i32_w]
     rfl
    refine take_ (i := 8) (N := some 41) (v := ?_) (a' := ?_) #[true, true, true, true, true, true, true, true, true, true, false, true, true, false, false, false] rfl rfl (take_ofW HT_.out HW_.out (by kernel_rfl)) (fun _ _ _ h => h) (Or.inl ⟨by rfl, ?_⟩) hHeld ?_ ?_
    rotate_left
    ·rintro w' ⟨s0, s1, s2, s3⟩
     go_simp
     with_reducible rfl
    rotate_left
    ·simp only [Act.put, List.setIfInBounds_toArray, List.set_cons_zero, List.set_cons_succ, i64_w, i32_w]
     rfl
    refine one_ (i := 10) (N := some 43) #[true, true, true, true, true, true, true, true, true, true, true, true, true, false, false, false] rfl rfl (one_of HT_.out (by kernel_rfl)) (by decide) (fun K hK => ?_)
    refine goes_ Tryd.func13 (by kernel_rfl) rfl #[.agg #[.bool t121, .int .i64 t122, .string t123], .int .i64 a2] (by rfl) rfl rfl (by (try simp only [List.map_toArray, List.map_cons, List.map_nil]) <;> rfl) ?_
    with_reducible refine (value_Show.calls (hG := HG.out.at (xS HB.out (ge GE120.out (ge GE125.out g0)))) t121 t122 t123 a2 t127 _ A22.out).mono ?_
    rintro e w26 ⟨rfl, hb⟩
    refine ⟨_, rfl, ?_⟩
    have n0_ := Aside0.mk (blk_below (xB BK120.out) hb)
    have n1_ := Aside0.mk (blk_below (xB BK125.out) hb)
    have n2_ := Aside0.mk (below_step (xS HB.out (ge GE120.out (ge GE125.out g0))) hb)
    clear BK120
    clear BK125
    clear HB
    have BK120 := n0_
    have BK125 := n1_
    have HB := n2_
    clear n0_ n1_ n2_
    (try clear hb)
    (try clear hb2)
    (try clear hk)
    (try clear hi)
    have hcv27 := Kd.C_string (P := Tryd.prog) (A := A0) (c := c0) Tryd.underlying22 Tryd.underlying5 Tryd.underlying9 (Kd.C_below HR0.out HB.out)
    refine hK.out _ _ ⟨(blk_cell BK125.out 0).trans rfl, (blk_cell BK125.out 1).trans rfl, (blk_cell BK125.out 2).trans rfl, Kd.C_below HR0.out (xS HB.out (ge GE120.out (ge GE125.out g0)))⟩ (fun hHeld => ?_)
    clear hK K
    refine norm_ (a' := ?_) ?_ ?_
    rotate_left
    ·show Act.put _ (some 43) _ = _
     simp only [Act.put, List.setIfInBounds_toArray, List.set_cons_zero, List.set_cons_succ, i64_w, i32_w]
     rfl
    refine pure_ (i := 13) (N := some 46) (v := ?_) (a' := ?_) #[true, true, true, true, true, true, true, true, true, true, true, true, true, true, false, false] rfl rfl (any_of HT_.out (by kernel_rfl)) (fun _ _ _ h => h) (Or.inl ⟨by rfl, ?_⟩) ?_ ?_
    rotate_left
    ·intro w'
     go_simp
     with_reducible rfl
    rotate_left
    ·simp only [Act.put, List.setIfInBounds_toArray, List.set_cons_zero, List.set_cons_succ, i64_w, i32_w]
     rfl
    refine pure_ (i := 14) (N := some 47) (v := ?_) (a' := ?_) #[true, true, true, true, true, true, true, true, true, true, true, true, true, true, true, false] rfl rfl (any_of HT_.out (by kernel_rfl)) (fun _ _ _ h => h) (Or.inl ⟨by rfl, ?_⟩) ?_ ?_
    rotate_left
    ·intro w'
     go_simp
     with_reducible rfl
    rotate_left
    ·simp only [Act.put, List.setIfInBounds_toArray, List.set_cons_zero, List.set_cons_succ, i64_w, i32_w]
     rfl
    refine pure_ (i := 15) (N := some 48) (v := ?_) (a' := ?_) #[true, true, true, true, true, true, true, true, true, true, true, true, true, true, true, true] rfl rfl (any_of HT_.out (by kernel_rfl)) (fun _ _ _ h => h) (Or.inl ⟨by rfl, ?_⟩) ?_ ?_
    rotate_left
    ·intro w'
     go_simp
     with_reducible rfl
    rotate_left
    ·simp only [Act.put, List.setIfInBounds_toArray, List.set_cons_zero, List.set_cons_succ, i64_w, i32_w]
     rfl
    refine done_ (done_of HT_.out (by kernel_rfl)) ?_
    try go_wp2
    go_meet
    case rel => exact ⟨_, ((t127.toList != (strOfNums l0).toList)), (by first | rfl | (simp; done) | (simp [*]; done)), H', ⟨by first | omega | exact Nat.le_refl _⟩, ⟨(xB BK120.out)⟩, ⟨(xB BK125.out)⟩, ⟨(xS HB.out (ge GE120.out (ge GE125.out g0)))⟩⟩
   ·rw [if_neg c19] at H
    have c19b0 : (t124 == 0) = false := beq_eq_false_iff_ne.mpr c19
    have c19b1 : (t124 != 0) = true := bne_iff_ne.mpr c19
    (first | rw [c19b0] | (simp only [i64_w, i32_w]; rw [c19b0]) | skip)
    have H' := Aside0.mk H
    clear H
    try go_wp2
    have n0_ : Aside0 ((((w16.setCell ⟨gb125, 0, none⟩ (.bool t121)).setCell ⟨gb125, 1, none⟩ (.int .i64 t122)).setCell ⟨gb125, 2, none⟩ (.string t123)).heap[gb120]? = some (.cells #[.bool t115, .int .i64 t116, .string t117] 25 (0, 0))) := ⟨(xF BK120.out (ge NB120_125.out g0))⟩
    have n1_ : Aside0 ((((w16.setCell ⟨gb125, 0, none⟩ (.bool t121)).setCell ⟨gb125, 1, none⟩ (.int .i64 t122)).setCell ⟨gb125, 2, none⟩ (.string t123)).heap[gb125]? = some (.cells #[.bool t121, .int .i64 t122, .string t123] 25 (0, 0))) := ⟨(xP BK125.out g0 rfl)⟩
    have n2_ : Aside0 (Below w.heap.size w (((w16.setCell ⟨gb125, 0, none⟩ (.bool t121)).setCell ⟨gb125, 1, none⟩ (.int .i64 t122)).setCell ⟨gb125, 2, none⟩ (.string t123))) := ⟨(xS HB.out (ge GE120.out (ge GE125.out g0)))⟩
    (try clear BK120)
    (try clear BK125)
    (try clear HB)
    generalize (((w16.setCell ⟨gb125, 0, none⟩ (.bool t121)).setCell ⟨gb125, 1, none⟩ (.int .i64 t122)).setCell ⟨gb125, 2, none⟩ (.string t123)) = w29 at n0_ n1_ n2_ ⊢
    have BK120 := n0_
    have BK125 := n1_
    have HB := n2_
    clear n0_ n1_ n2_
    have n0_ := Aside0.mk (blk_drew BK120.out)
    have n1_ := Aside0.mk (blk_drew BK125.out)
    have n2_ := Aside0.mk (below_drew1 HB.out)
    clear BK120
    clear BK125
    clear HB
    have BK120 := n0_
    have BK125 := n1_
    have HB := n2_
    clear n0_ n1_ n2_
    refine start_ (n := 16) (S := fun w' => True) (ds := []) #[false, false, false, false, false, false, false, false, false, false, false, false, false, false, false, false] (by kernel_rfl) rfl rfl trivial (fun hHeld => ?_); refine with_tabW fenlandlaw05_ValueCanonical.tab6 fenlandlaw05_ValueCanonical.bits6 (fun HT_ HW_ => ?_)
    generalize w29.drew = w30 at BK120 BK125 HB hHeld ⊢
    refine pure_ (i := 0) (N := some 33) (v := ?_) (a' := ?_) #[true, false, false, false, false, false, false, false, false, false, false, false, false, false, false, false] rfl rfl (any_of HT_.out (by kernel_rfl)) (fun _ _ _ h => h) (Or.inl ⟨by rfl, ?_⟩) ?_ ?_
    rotate_left
    ·intro w'
     go_simp
     with_reducible rfl
    rotate_left
    ·simp only [Act.put, List.setIfInBounds_toArray, List.set_cons_zero, List.set_cons_succ, i64_w, i32_w]
     rfl
    refine pure_ (i := 1) (N := some 34) (v := ?_) (a' := ?_) #[true, true, false, false, false, false, false, false, false, false, false, false, false, false, false, false] rfl rfl (any_of HT_.out (by kernel_rfl)) (fun _ _ _ h => h) (Or.inl ⟨by rfl, ?_⟩) ?_ ?_
    rotate_left
    ·intro w'
     go_simp
     with_reducible rfl
    rotate_left
    ·simp only [Act.put, List.setIfInBounds_toArray, List.set_cons_zero, List.set_cons_succ, i64_w, i32_w]
     rfl
    refine pure_ (i := 2) (N := some 35) (v := ?_) (a' := ?_) #[true, true, true, false, false, false, false, false, false, false, false, false, false, false, false, false] rfl rfl (any_of HT_.out (by kernel_rfl)) (fun _ _ _ h => h) (Or.inl ⟨by rfl, ?_⟩) ?_ ?_
    rotate_left
    ·intro w'
     go_simp
     with_reducible rfl
    rotate_left
    ·simp only [Act.put, List.setIfInBounds_toArray, List.set_cons_zero, List.set_cons_succ, i64_w, i32_w]
     rfl
    refine pure_ (i := 3) (N := some 36) (v := undef) (a' := ?_) #[true, true, true, true, false, false, false, false, false, false, false, false, false, false, false, false] rfl rfl (any_of HT_.out (by kernel_rfl)) (fun _ _ _ h => h) (Or.inr ⟨by rfl, rfl⟩) ?_ ?_
    rotate_left
    ·simp only [Act.put, List.setIfInBounds_toArray, List.set_cons_zero, List.set_cons_succ, i64_w, i32_w]
     rfl
    refine pure_ (i := 4) (N := some 37) (v := undef) (a' := ?_) #[true, true, true, true, true, false, false, false, false, false, false, false, false, false, false, false] rfl rfl (any_of HT_.out (by kernel_rfl)) (fun _ _ _ h => h) (Or.inr ⟨by rfl, rfl⟩) ?_ ?_
    rotate_left
    ·simp only [Act.put, List.setIfInBounds_toArray, List.set_cons_zero, List.set_cons_succ, i64_w, i32_w]
     rfl
    refine pure_ (i := 5) (N := some 38) (v := undef) (a' := ?_) #[true, true, true, true, true, true, false, false, false, false, false, false, false, false, false, false] rfl rfl (any_of HT_.out (by kernel_rfl)) (fun _ _ _ h => h) (Or.inr ⟨by rfl, rfl⟩) ?_ ?_
    rotate_left
    ·simp only [Act.put, List.setIfInBounds_toArray, List.set_cons_zero, List.set_cons_succ, i64_w, i32_w]
     rfl
    refine pure_ (i := 6) (N := some 39) (v := undef) (a' := ?_) #[true, true, true, true, true, true, true, false, false, false, false, false, false, false, false, false] rfl rfl (any_of HT_.out (by kernel_rfl)) (fun _ _ _ h => h) (Or.inr ⟨by rfl, rfl⟩) ?_ ?_
    rotate_left
    ·simp only [Act.put, List.setIfInBounds_toArray, List.set_cons_zero, List.set_cons_succ, i64_w, i32_w]
     rfl
    refine pure_ (i := 7) (N := some 40) (v := undef) (a' := ?_) #[true, true, true, true, true, true, true, true, false, false, false, false, false, false, false, false] rfl rfl (any_of HT_.out (by kernel_rfl)) (fun _ _ _ h => h) (Or.inr ⟨by rfl, rfl⟩) ?_ ?_
    rotate_left
    ·simp only [Act.put, List.setIfInBounds_toArray, List.set_cons_zero, List.set_cons_succ, i64_w, i32_w]
     rfl
    refine pure_ (i := 8) (N := some 41) (v := undef) (a' := ?_) #[true, true, true, true, true, true, true, true, true, false, false, false, false, false, false, false] rfl rfl (any_of HT_.out (by kernel_rfl)) (fun _ _ _ h => h) (Or.inr ⟨by rfl, rfl⟩) ?_ ?_
    rotate_left
    ·simp only [Act.put, List.setIfInBounds_toArray, List.set_cons_zero, List.set_cons_succ, i64_w, i32_w]
     rfl
    refine pure_ (i := 9) (N := some 42) (v := undef) (a' := ?_) #[true, true, true, true, true, true, true, true, true, true, false, false, false, false, false, false] rfl rfl (any_of HT_.out (by kernel_rfl)) (fun _ _ _ h => h) (Or.inr ⟨by rfl, rfl⟩) ?_ ?_
    rotate_left
    ·simp only [Act.put, List.setIfInBounds_toArray, List.set_cons_zero, List.set_cons_succ, i64_w, i32_w]
     rfl
    refine pure_ (i := 10) (N := some 43) (v := undef) (a' := ?_) #[true, true, true, true, true, true, true, true, true, true, true, false, false, false, false, false] rfl rfl (any_of HT_.out (by kernel_rfl)) (fun _ _ _ h => h) (Or.inr ⟨by rfl, rfl⟩) ?_ ?_
    rotate_left
    ·simp only [Act.put, List.setIfInBounds_toArray, List.set_cons_zero, List.set_cons_succ, i64_w, i32_w]
     rfl
    refine pure_ (i := 11) (N := some 44) (v := undef) (a' := ?_) #[true, true, true, true, true, true, true, true, true, true, true, true, false, false, false, false] rfl rfl (any_of HT_.out (by kernel_rfl)) (fun _ _ _ h => h) (Or.inr ⟨by rfl, rfl⟩) ?_ ?_
    rotate_left
    ·simp only [Act.put, List.setIfInBounds_toArray, List.set_cons_zero, List.set_cons_succ, i64_w, i32_w]
     rfl
    refine pure_ (i := 12) (N := some 45) (v := undef) (a' := ?_) #[true, true, true, true, true, true, true, true, true, true, true, true, true, false, false, false] rfl rfl (any_of HT_.out (by kernel_rfl)) (fun _ _ _ h => h) (Or.inr ⟨by rfl, rfl⟩) ?_ ?_
    rotate_left
    ·simp only [Act.put, List.setIfInBounds_toArray, List.set_cons_zero, List.set_cons_succ, i64_w, i32_w]
     rfl
    refine pure_ (i := 13) (N := some 46) (v := undef) (a' := ?_) #[true, true, true, true, true, true, true, true, true, true, true, true, true, true, false, false] rfl rfl (any_of HT_.out (by kernel_rfl)) (fun _ _ _ h => h) (Or.inr ⟨by rfl, rfl⟩) ?_ ?_
    rotate_left
    ·simp only [Act.put, List.setIfInBounds_toArray, List.set_cons_zero, List.set_cons_succ, i64_w, i32_w]
     rfl
    refine pure_ (i := 14) (N := some 47) (v := undef) (a' := ?_) #[true, true, true, true, true, true, true, true, true, true, true, true, true, true, true, false] rfl rfl (any_of HT_.out (by kernel_rfl)) (fun _ _ _ h => h) (Or.inr ⟨by rfl, rfl⟩) ?_ ?_
    rotate_left
    ·simp only [Act.put, List.setIfInBounds_toArray, List.set_cons_zero, List.set_cons_succ, i64_w, i32_w]
     rfl
    refine pure_ (i := 15) (N := some 48) (v := ?_) (a' := ?_) #[true, true, true, true, true, true, true, true, true, true, true, true, true, true, true, true] rfl rfl (any_of HT_.out (by kernel_rfl)) (fun _ _ _ h => h) (Or.inl ⟨by rfl, ?_⟩) ?_ ?_
    rotate_left
    ·intro w'
     go_simp
     with_reducible rfl
    rotate_left
    ·simp only [Act.put, List.setIfInBounds_toArray, List.set_cons_zero, List.set_cons_succ, i64_w, i32_w]
     rfl
    refine done_ (done_of HT_.out (by kernel_rfl)) ?_
    try go_wp2
    go_meet
    case rel => exact ⟨_, (false), (by first | rfl | (simp; done) | (simp [*]; done)), H', ⟨by first | omega | exact Nat.le_refl _⟩, ⟨(xB BK120.out)⟩, ⟨(xB BK125.out)⟩, ⟨(xS HB.out (ge GE120.out (ge GE125.out g0)))⟩⟩
  case rest =>
   clear HC9
   try clear c1
   try clear hcv1
   try clear c2
   try clear p2
   try clear hcv2
   try clear c4
   try clear c5
   try clear c5b0
   try clear c5b1
   try clear c8
   try clear c11
   try clear c12
   try clear c13
   try clear c14
   try clear hcv14
   try clear c17
   try clear c19
   try clear c19b0
   try clear c19b1
   try clear c21
   try clear hcv27
   try clear hcz13_0
   try clear hcz13_1
   try clear hcz13_2
   try clear hcz18_0
   try clear hcz18_1
   try clear hcz18_2
   try clear hfz13_0
   try clear hfz13_1
   try clear hfz13_2
   try clear hfz18_0
   try clear hfz18_1
   try clear hfz18_2
   obtain ⟨kq, x48_8, rfl, HA, HJ8, BK120, BK125, HB⟩ := hcut
   cases kq with
   | zero => exact absurd HA.out (by simp [fenlandlaw05_ValueCanonical.j0])
   | succ kj8 =>
    have H := HA.out
    clear HA
    simp only [fenlandlaw05_ValueCanonical.j0] at H
    by_cases c31 : x48_8 = true
    ·subst c31
     rw [if_pos rfl] at H
     exact absurd H (by simp)
    ·replace c31 := Bool.eq_false_iff.mpr c31
     subst c31
     rw [if_neg (show ¬ (false = true) by decide)] at H
     by_cases c32 : t119 = 0
     ·rw [if_pos c32] at H
      have c32b0 : (t119 == 0) = true := beq_iff_eq.mpr c32
      have c32b1 : (t119 != 0) = false := bne_eq_false_iff_eq.mpr c32
      clear c32
      by_cases c33 : a1 < 0
      ·rw [if_pos c33] at H
       exact absurd H (by simp)
      ·rw [if_neg c33] at H
       have c33b0 : decide (a1 < 0) = false := decide_eq_false c33
       clear c33
       by_cases c34 : t118 ≤ a1
       ·rw [if_pos c34] at H
        exact absurd H (by simp)
       ·rw [if_neg c34] at H
        have c34b0 : decide (t118 ≤ a1) = false := decide_eq_false c34
        clear c34
        by_cases c35 : t118 > (l0.length : Int)
        ·rw [if_pos c35] at H
         exact absurd H (by simp)
        ·rw [if_neg c35] at H
         have c35b0 : decide ((l0.length : Int) < t118) = false := decide_eq_false c35
         clear c35
         replace H := Option.bind_eq_some_iff.mp H
         obtain ⟨t206, A360, H⟩ := H
         (try dsimp only at H)
         have A36 := Aside0.mk A360
         clear A360
         by_cases c37 : t206 = true
         ·subst c37
          rw [if_pos rfl] at H
          replace H := Option.bind_eq_some_iff.mp H
          obtain ⟨t207, A380, H⟩ := H
          (try dsimp only at H)
          have A38 := Aside0.mk A380
          clear A380
          by_cases c39 : 0 ≤ a1
          rotate_left
          ·rw [if_neg c39] at H
           exact absurd H (by simp)
          rw [if_pos c39] at H
          have c39b0 := eq_true c39
          have c39b1 : decide (0 ≤ a1) = true := decide_eq_true c39
          clear c39
          by_cases c40 : a1 ≤ t118
          rotate_left
          ·rw [if_neg c40] at H
           exact absurd H (by simp)
          rw [if_pos c40] at H
          have c40b0 := eq_true c40
          have c40b1 : decide (a1 ≤ t118) = true := decide_eq_true c40
          clear c40
          by_cases c41 : t118 ≤ (l0.length : Int)
          rotate_left
          ·rw [if_neg c41] at H
           exact absurd H (by simp)
          rw [if_pos c41] at H
          have c41b0 := eq_true c41
          have c41b1 : decide (t118 ≤ (l0.length : Int)) = true := decide_eq_true c41
          clear c41
          replace H := Option.bind_eq_some_iff.mp H
          obtain ⟨t211, A420, H⟩ := H
          (try dsimp only at H)
          have A42 := Aside0.mk A420
          clear A420
          by_cases c43 : t211 = true
          ·subst c43
           rw [if_pos rfl] at H
           obtain rfl := Option.some.inj H
           try go_wp2
           have n0_ := Aside0.mk (blk_drew BK120.out)
           have n1_ := Aside0.mk (blk_drew BK125.out)
           have n2_ := Aside0.mk (below_drew1 HB.out)
           clear BK120
           clear BK125
           clear HB
           have BK120 := n0_
           have BK125 := n1_
           have HB := n2_
           clear n0_ n1_ n2_
           obtain ⟨i047, hi047, _, hsz47, _⟩ := info_parts info5
           obtain ⟨A47, hcut47, hA47, hC47⟩ := print_mid_of (P := Tryd.prog) (Value.int .u8) 0 22 5 .i64 .i64 Tryd.underlying22 hi047 hsz47 A0 c0 l0 a1 t118 (of_decide_eq_true (by first | (with_reducible assumption) | assumption)) (by first | omega | exact of_decide_eq_true (by first | (with_reducible assumption) | assumption)) (of_decide_eq_true (by first | (with_reducible assumption) | assumption)) HC0.out
           have HR210 := Aside0.mk (Kd.C_of_reads (h1 := fun _ => rfl) (hA47 _ (Kd.reads_of_C HR0.out)))
           have HC210 := Aside0.mk hC47
           clear hA47 hC47 hi047 hsz47
           refine start_ (n := 17) (S := fun w' => w'.cell? ⟨gb120, 0, none⟩ = some (.bool t115) ∧ w'.cell? ⟨gb120, 1, none⟩ = some (.int .i64 t116) ∧ w'.cell? ⟨gb120, 2, none⟩ = some (.string t117)) (ds := []) #[false, false, false, false, false, false, false, false, false, false, false, false, false, false, false, false, false] (by kernel_rfl) rfl rfl ⟨(blk_cell BK120.out 0).trans rfl, (blk_cell BK120.out 1).trans rfl, (blk_cell BK120.out 2).trans rfl⟩ (fun hHeld => ?_); refine with_tabW fenlandlaw05_ValueCanonical.tab12 fenlandlaw05_ValueCanonical.bits12 (fun HT_ HW_ => ?_)
           generalize wc.drew = w44 at BK120 BK125 HB hHeld ⊢
           refine pure_ (i := 1) (N := some 75) (v := ?_) (a' := ?_) #[false, true, false, false, false, false, false, false, false, false, false, false, false, false, false, false, false] rfl rfl (any_of HT_.out (by kernel_rfl)) (fun _ _ _ h => h) (Or.inl ⟨by rfl, ?_⟩) ?_ ?_
           rotate_left
           ·intro w'
            go_simp
            with_reducible rfl
           rotate_left
           ·simp only [Act.put, List.setIfInBounds_toArray, List.set_cons_zero, List.set_cons_succ, i64_w, i32_w]
            rfl
           refine take_ (i := 0) (N := some 74) (v := ?_) (a' := ?_) #[true, true, false, false, false, false, false, false, false, false, false, false, false, false, false, false, false] rfl rfl (take_ofW HT_.out HW_.out (by kernel_rfl)) (fun _ _ _ h => h) (Or.inl ⟨by rfl, ?_⟩) hHeld ?_ ?_
           rotate_left
           ·rintro w' ⟨s0, s1, s2⟩
            go_simp
            with_reducible rfl
           rotate_left
           ·simp only [Act.put, List.setIfInBounds_toArray, List.set_cons_zero, List.set_cons_succ, i64_w, i32_w]
            rfl
           refine one_ (i := 2) (N := some 76) #[true, true, true, false, false, false, false, false, false, false, false, false, false, false, false, false, false] rfl rfl (one_of HT_.out (by kernel_rfl)) (by decide) (fun K hK => ?_)
           refine goes_ Tryd.func14 (by kernel_rfl) rfl #[.agg #[.bool t115, .int .i64 t116, .string t117], .int .i64 a2] (by rfl) rfl rfl (by (try simp only [List.map_toArray, List.map_cons, List.map_nil]) <;> rfl) ?_
           with_reducible refine (value_Valid.calls t115 t116 t117 a2 true _ A36.out).mono ?_
           rintro e w45 ⟨rfl, hb⟩
           refine ⟨_, rfl, ?_⟩
           have n0_ := Aside0.mk (blk_below (xB BK120.out) hb)
           have n1_ := Aside0.mk (blk_below (xB BK125.out) hb)
           have n2_ := Aside0.mk (below_step (xS HB.out (ge GE120.out (ge GE125.out g0))) hb)
           clear BK120
           clear BK125
           clear HB
           have BK120 := n0_
           have BK125 := n1_
           have HB := n2_
           clear n0_ n1_ n2_
           (try clear hb)
           (try clear hb2)
           (try clear hk)
           (try clear hi)
           refine hK.out _ _ ⟨(blk_cell BK120.out 0).trans rfl, (blk_cell BK120.out 1).trans rfl, (blk_cell BK120.out 2).trans rfl⟩ (fun hHeld => ?_)
           clear hK K
           refine norm_ (a' := ?_) ?_ ?_
           rotate_left
           ·show Act.put _ (some 76) _ = _
            simp only [Act.put, List.setIfInBounds_toArray, List.set_cons_zero, List.set_cons_succ, i64_w, i32_w]
            rfl
           refine pure_ (i := 3) (N := some 77) (v := ?_) (a' := ?_) #[true, true, true, true, false, false, false, false, false, false, false, false, false, false, false, false, false] rfl rfl (any_of HT_.out (by kernel_rfl)) (fun _ _ _ h => h) (Or.inl ⟨by rfl, ?_⟩) ?_ ?_
           rotate_left
           ·intro w'
            go_simp
            with_reducible rfl
           rotate_left
           ·simp only [Act.put, List.setIfInBounds_toArray, List.set_cons_zero, List.set_cons_succ, i64_w, i32_w]
            rfl
           refine pure_ (i := 5) (N := some 79) (v := ?_) (a' := ?_) #[true, true, true, true, false, true, false, false, false, false, false, false, false, false, false, false, false] rfl rfl (any_of HT_.out (by kernel_rfl)) (fun _ _ _ h => h) (Or.inl ⟨by rfl, ?_⟩) ?_ ?_
           rotate_left
           ·intro w'
            go_simp
            with_reducible rfl
           rotate_left
           ·simp only [Act.put, List.setIfInBounds_toArray, List.set_cons_zero, List.set_cons_succ, i64_w, i32_w]
            rfl
           refine pure_ (i := 7) (N := some 81) (v := ?_) (a' := ?_) #[true, true, true, true, false, true, false, true, false, false, false, false, false, false, false, false, false] rfl rfl (any_of HT_.out (by kernel_rfl)) (fun _ _ _ h => h) (Or.inl ⟨by rfl, ?_⟩) ?_ ?_
           rotate_left
           ·intro w'
            go_simp
            with_reducible rfl
           rotate_left
           ·simp only [Act.put, List.setIfInBounds_toArray, List.set_cons_zero, List.set_cons_succ, i64_w, i32_w]
            rfl
           refine pure_ (i := 8) (N := some 82) (v := ?_) (a' := ?_) #[true, true, true, true, false, true, false, true, true, false, false, false, false, false, false, false, false] rfl rfl (any_of HT_.out (by kernel_rfl)) (fun _ _ _ h => h) (Or.inl ⟨by rfl, ?_⟩) ?_ ?_
           rotate_left
           ·intro w'
            go_simp
            with_reducible rfl
           rotate_left
           ·simp only [Act.put, List.setIfInBounds_toArray, List.set_cons_zero, List.set_cons_succ, i64_w, i32_w]
            rfl
           refine pure_ (i := 9) (N := some 83) (v := ?_) (a' := ?_) #[true, true, true, true, false, true, false, true, true, true, false, false, false, false, false, false, false] rfl rfl (any_of HT_.out (by kernel_rfl)) (fun _ _ _ h => h) (Or.inl ⟨by rfl, ?_⟩) ?_ ?_
           rotate_left
           ·intro w'
            go_simp
            with_reducible rfl
           rotate_left
           ·simp only [Act.put, List.setIfInBounds_toArray, List.set_cons_zero, List.set_cons_succ, i64_w, i32_w]
            rfl
           refine pure_ (i := 10) (N := some 84) (v := ?_) (a' := ?_) #[true, true, true, true, false, true, false, true, true, true, true, false, false, false, false, false, false] rfl rfl (any_of HT_.out (by kernel_rfl)) (fun _ _ _ h => h) (Or.inl ⟨by rfl, ?_⟩) ?_ ?_
           rotate_left
           ·intro w'
            go_simp
            with_reducible rfl
           rotate_left
           ·simp only [Act.put, List.setIfInBounds_toArray, List.set_cons_zero, List.set_cons_succ, i64_w, i32_w]
            rfl
           refine take_ (i := 4) (N := some 78) (v := ?_) (a' := ?_) #[true, true, true, true, true, true, false, true, true, true, true, false, false, false, false, false, false] rfl rfl (take_ofW HT_.out HW_.out (by kernel_rfl)) (fun _ _ _ h => h) (Or.inl ⟨by rfl, ?_⟩) hHeld ?_ ?_
           rotate_left
           ·rintro w' ⟨s0, s1, s2⟩
            go_simp
            with_reducible rfl
           rotate_left
           ·simp only [Act.put, List.setIfInBounds_toArray, List.set_cons_zero, List.set_cons_succ, i64_w, i32_w]
            rfl
           refine one_ (i := 6) (N := some 80) #[true, true, true, true, true, true, true, true, true, true, true, false, false, false, false, false, false] rfl rfl (one_of HT_.out (by kernel_rfl)) (by decide) (fun K hK => ?_)
           refine goes_ Tryd.func10 (by kernel_rfl) rfl #[.slice none 0 0, .agg #[.bool t115, .int .i64 t116, .string t117], .int .i64 a2] (by rfl) rfl rfl (by (try simp only [List.map_toArray, List.map_cons, List.map_nil]) <;> rfl) ?_
           refine (value_Encode.calls kj8 _ _ ([] : List Int) t115 t116 t117 a2 t207 _ ?side1 ?side2 A38.out).mono ?_
           (case side1 => exact Kd.C_nil _ _)
           (case side2 => exact Nat.le_refl _)
           rintro e w46 ⟨v208, rfl, ho0, hb⟩
           refine ⟨_, rfl, ?_⟩
           have n0_ := Aside0.mk (Kd.R_lower ho0 (below_size (xS HB.out (ge GE120.out (ge GE125.out g0)))))
           have n1_ := Aside0.mk (blk_below (xB BK120.out) hb)
           have n2_ := Aside0.mk (blk_below (xB BK125.out) hb)
           have n3_ := Aside0.mk (below_step (xS HB.out (ge GE120.out (ge GE125.out g0))) hb)
           clear BK120
           clear BK125
           clear HB
           have HO209 := n0_
           have BK120 := n1_
           have BK125 := n2_
           have HB := n3_
           clear n0_ n1_ n2_ n3_
           (try clear hb)
           (try clear hb2)
           (try clear hk)
           (try clear hi)
           (try clear ho0)
           obtain ⟨Ao48, co48, eo48⟩ := Kd.R_slice HO209.out
           (first | subst eo48 | (injection eo48 with f1_ f2_ f3_; have f4_ := f1_.symm; have f5_ := f3_.symm; clear f1_ f2_ f3_; subst f4_; subst f5_))
           refine hK.out _ _ ⟨(blk_cell BK120.out 0).trans rfl, (blk_cell BK120.out 1).trans rfl, (blk_cell BK120.out 2).trans rfl⟩ (fun hHeld => ?_)
           clear hK K
           refine norm_ (a' := ?_) ?_ ?_
           rotate_left
           ·show Act.put _ (some 80) _ = _
            simp only [Act.put, List.setIfInBounds_toArray, List.set_cons_zero, List.set_cons_succ, i64_w, i32_w]
            rfl
           refine one_ (i := 11) (N := some 85) #[true, true, true, true, true, true, true, true, true, true, true, true, false, false, false, false, false] rfl rfl (one_of HT_.out (by kernel_rfl)) (by decide) (fun K hK => ?_)
           refine goes_ Tryd.func15 (by kernel_rfl) rfl #[.slice Ao48 t207.length co48, .slice A47 ((l0.take (t118 : Int).toNat).drop (a1 : Int).toNat).length (c0 - a1.toNat)] (by rfl) rfl rfl (by (try simp only [List.map_toArray, List.map_cons, List.map_nil]); first | done | (rw [show ((l0.take (t118 : Int).toNat).drop (a1 : Int).toNat).length = (t118.toNat - a1.toNat) from (by rw [List.length_drop, List.length_take]; have h_ : (t118 : Int) ≤ (l0.length : Int) := of_decide_eq_true (by first | (with_reducible assumption) | assumption); omega)] <;> rfl) | rfl | (simp only [List.length_drop, List.length_take]; rfl)) ?_
           with_reducible refine (fenlandref01_Same.calls kj8 _ _ t207 _ _ ((l0.take (t118 : Int).toNat).drop (a1 : Int).toNat) true _ ?side1 ?side2 ?side3 ?side4 A42.out).mono ?_
           (case side1 => exact xC (Kd.R_reads' HO209.out).2.2)
           (case side2 => exact (Kd.R_reads' HO209.out).2.1)
           (case side3 => exact xC (Kd.C_below HR210.out HB.out))
           (case side4 => exact HC210.out)
           rintro e w' ⟨rfl, ⟨nd, rfl⟩⟩
           refine ⟨_, rfl, ?_⟩
           refine hK.out _ _ ⟨(blk_cell BK120.out 0).trans rfl, (blk_cell BK120.out 1).trans rfl, (blk_cell BK120.out 2).trans rfl⟩ (fun hHeld => ?_)
           clear hK K
           refine norm_ (a' := ?_) ?_ ?_
           rotate_left
           ·show Act.put _ (some 85) _ = _
            simp only [Act.put, List.setIfInBounds_toArray, List.set_cons_zero, List.set_cons_succ, i64_w, i32_w]
            rfl
           refine pure_ (i := 12) (N := some 86) (v := ?_) (a' := ?_) #[true, true, true, true, true, true, true, true, true, true, true, true, true, false, false, false, false] rfl rfl (any_of HT_.out (by kernel_rfl)) (fun _ _ _ h => h) (Or.inl ⟨by rfl, ?_⟩) ?_ ?_
           rotate_left
           ·intro w'
            go_simp
            with_reducible rfl
           rotate_left
           ·simp only [Act.put, List.setIfInBounds_toArray, List.set_cons_zero, List.set_cons_succ, i64_w, i32_w]
            rfl
           refine pure_ (i := 13) (N := some 87) (v := ?_) (a' := ?_) #[true, true, true, true, true, true, true, true, true, true, true, true, true, true, false, false, false] rfl rfl (any_of HT_.out (by kernel_rfl)) (fun _ _ _ h => h) (Or.inl ⟨by rfl, ?_⟩) ?_ ?_
           rotate_left
           ·intro w'
            go_simp
            with_reducible rfl
           rotate_left
           ·simp only [Act.put, List.setIfInBounds_toArray, List.set_cons_zero, List.set_cons_succ, i64_w, i32_w]
            rfl
           refine pure_ (i := 14) (N := some 88) (v := ?_) (a' := ?_) #[true, true, true, true, true, true, true, true, true, true, true, true, true, true, true, false, false] rfl rfl (any_of HT_.out (by kernel_rfl)) (fun _ _ _ h => h) (Or.inl ⟨by rfl, ?_⟩) ?_ ?_
           rotate_left
           ·intro w'
            go_simp
            with_reducible rfl
           rotate_left
           ·simp only [Act.put, List.setIfInBounds_toArray, List.set_cons_zero, List.set_cons_succ, i64_w, i32_w]
            rfl
           refine pure_ (i := 15) (N := some 89) (v := ?_) (a' := ?_) #[true, true, true, true, true, true, true, true, true, true, true, true, true, true, true, true, false] rfl rfl (any_of HT_.out (by kernel_rfl)) (fun _ _ _ h => h) (Or.inl ⟨by rfl, ?_⟩) ?_ ?_
           rotate_left
           ·intro w'
            go_simp
            with_reducible rfl
           rotate_left
           ·simp only [Act.put, List.setIfInBounds_toArray, List.set_cons_zero, List.set_cons_succ, i64_w, i32_w]
            rfl
           refine pure_ (i := 16) (N := some 6) (v := ?_) (a' := ?_) #[true, true, true, true, true, true, true, true, true, true, true, true, true, true, true, true, true] rfl rfl (any_of HT_.out (by kernel_rfl)) (fun _ _ _ h => h) (Or.inl ⟨by rfl, ?_⟩) ?_ ?_
           rotate_left
           ·intro w'
            go_simp
            with_reducible rfl
           rotate_left
           ·simp only [Act.put, List.setIfInBounds_toArray, List.set_cons_zero, List.set_cons_succ, i64_w, i32_w]
            rfl
           refine done_ (done_of HT_.out (by kernel_rfl)) ?_
           try go_wp2
           go_ret
           exact ⟨by first | rfl | simp [*], by repeat (first | (with_reducible first | exact HB.out | apply below_alloc | apply pw_below_drewN | apply below_drew1 | refine below_set ?_ GE120.out | refine below_set ?_ GE125.out) | exact HB.out)⟩
          ·replace c43 := Bool.eq_false_iff.mpr c43
           subst c43
           rw [if_neg (show ¬ (false = true) by decide)] at H
           obtain rfl := Option.some.inj H
           try go_wp2
           have n0_ := Aside0.mk (blk_drew BK120.out)
           have n1_ := Aside0.mk (blk_drew BK125.out)
           have n2_ := Aside0.mk (below_drew1 HB.out)
           clear BK120
           clear BK125
           clear HB
           have BK120 := n0_
           have BK125 := n1_
           have HB := n2_
           clear n0_ n1_ n2_
           obtain ⟨i052, hi052, _, hsz52, _⟩ := info_parts info5
           obtain ⟨A52, hcut52, hA52, hC52⟩ := print_mid_of (P := Tryd.prog) (Value.int .u8) 0 22 5 .i64 .i64 Tryd.underlying22 hi052 hsz52 A0 c0 l0 a1 t118 (of_decide_eq_true (by first | (with_reducible assumption) | assumption)) (by first | omega | exact of_decide_eq_true (by first | (with_reducible assumption) | assumption)) (of_decide_eq_true (by first | (with_reducible assumption) | assumption)) HC0.out
           have HR210 := Aside0.mk (Kd.C_of_reads (h1 := fun _ => rfl) (hA52 _ (Kd.reads_of_C HR0.out)))
           have HC210 := Aside0.mk hC52
           clear hA52 hC52 hi052 hsz52
           refine start_ (n := 17) (S := fun w' => w'.cell? ⟨gb120, 0, none⟩ = some (.bool t115) ∧ w'.cell? ⟨gb120, 1, none⟩ = some (.int .i64 t116) ∧ w'.cell? ⟨gb120, 2, none⟩ = some (.string t117)) (ds := []) #[false, false, false, false, false, false, false, false, false, false, false, false, false, false, false, false, false] (by kernel_rfl) rfl rfl ⟨(blk_cell BK120.out 0).trans rfl, (blk_cell BK120.out 1).trans rfl, (blk_cell BK120.out 2).trans rfl⟩ (fun hHeld => ?_); refine with_tabW fenlandlaw05_ValueCanonical.tab12 fenlandlaw05_ValueCanonical.bits12 (fun HT_ HW_ => ?_)
           generalize wc.drew = w49 at BK120 BK125 HB hHeld ⊢
           refine pure_ (i := 1) (N := some 75) (v := ?_) (a' := ?_) #[false, true, false, false, false, false, false, false, false, false, false, false, false, false, false, false, false] rfl rfl (any_of HT_.out (by kernel_rfl)) (fun _ _ _ h => h) (Or.inl ⟨by rfl, ?_⟩) ?_ ?_
           rotate_left
           ·intro w'
            go_simp
            with_reducible rfl
           rotate_left
           ·simp only [Act.put, List.setIfInBounds_toArray, List.set_cons_zero, List.set_cons_succ, i64_w, i32_w]
            rfl
           refine take_ (i := 0) (N := some 74) (v := ?_) (a' := ?_) #[true, true, false, false, false, false, false, false, false, false, false, false, false, false, false, false, false] rfl rfl (take_ofW HT_.out HW_.out (by kernel_rfl)) (fun _ _ _ h => h) (Or.inl ⟨by rfl, ?_⟩) hHeld ?_ ?_
           rotate_left
           ·rintro w' ⟨s0, s1, s2⟩
            go_simp
            with_reducible rfl
           rotate_left
           ·simp only [Act.put, List.setIfInBounds_toArray, List.set_cons_zero, List.set_cons_succ, i64_w, i32_w]
            rfl
           refine one_ (i := 2) (N := some 76) #[true, true, true, false, false, false, false, false, false, false, false, false, false, false, false, false, false] rfl rfl (one_of HT_.out (by kernel_rfl)) (by decide) (fun K hK => ?_)
           refine goes_ Tryd.func14 (by kernel_rfl) rfl #[.agg #[.bool t115, .int .i64 t116, .string t117], .int .i64 a2] (by rfl) rfl rfl (by (try simp only [List.map_toArray, List.map_cons, List.map_nil]) <;> rfl) ?_
           with_reducible refine (value_Valid.calls t115 t116 t117 a2 true _ A36.out).mono ?_
           rintro e w50 ⟨rfl, hb⟩
           refine ⟨_, rfl, ?_⟩
           have n0_ := Aside0.mk (blk_below (xB BK120.out) hb)
           have n1_ := Aside0.mk (blk_below (xB BK125.out) hb)
           have n2_ := Aside0.mk (below_step (xS HB.out (ge GE120.out (ge GE125.out g0))) hb)
           clear BK120
           clear BK125
           clear HB
           have BK120 := n0_
           have BK125 := n1_
           have HB := n2_
           clear n0_ n1_ n2_
           (try clear hb)
           (try clear hb2)
           (try clear hk)
           (try clear hi)
           refine hK.out _ _ ⟨(blk_cell BK120.out 0).trans rfl, (blk_cell BK120.out 1).trans rfl, (blk_cell BK120.out 2).trans rfl⟩ (fun hHeld => ?_)
           clear hK K
           refine norm_ (a' := ?_) ?_ ?_
           rotate_left
           ·show Act.put _ (some 76) _ = _
            simp only [Act.put, List.setIfInBounds_toArray, List.set_cons_zero, List.set_cons_succ, i64_w, i32_w]
            rfl
           refine pure_ (i := 3) (N := some 77) (v := ?_) (a' := ?_) #[true, true, true, true, false, false, false, false, false, false, false, false, false, false, false, false, false] rfl rfl (any_of HT_.out (by kernel_rfl)) (fun _ _ _ h => h) (Or.inl ⟨by rfl, ?_⟩) ?_ ?_
           rotate_left
           ·intro w'
            go_simp
            with_reducible rfl
           rotate_left
           ·simp only [Act.put, List.setIfInBounds_toArray, List.set_cons_zero, List.set_cons_succ, i64_w, i32_w]
            rfl
           refine pure_ (i := 5) (N := some 79) (v := ?_) (a' := ?_) #[true, true, true, true, false, true, false, false, false, false, false, false, false, false, false, false, false] rfl rfl (any_of HT_.out (by kernel_rfl)) (fun _ _ _ h => h) (Or.inl ⟨by rfl, ?_⟩) ?_ ?_
           rotate_left
           ·intro w'
            go_simp
            with_reducible rfl
           rotate_left
           ·simp only [Act.put, List.setIfInBounds_toArray, List.set_cons_zero, List.set_cons_succ, i64_w, i32_w]
            rfl
           refine pure_ (i := 7) (N := some 81) (v := ?_) (a' := ?_) #[true, true, true, true, false, true, false, true, false, false, false, false, false, false, false, false, false] rfl rfl (any_of HT_.out (by kernel_rfl)) (fun _ _ _ h => h) (Or.inl ⟨by rfl, ?_⟩) ?_ ?_
           rotate_left
           ·intro w'
            go_simp
            with_reducible rfl
           rotate_left
           ·simp only [Act.put, List.setIfInBounds_toArray, List.set_cons_zero, List.set_cons_succ, i64_w, i32_w]
            rfl
           refine pure_ (i := 8) (N := some 82) (v := ?_) (a' := ?_) #[true, true, true, true, false, true, false, true, true, false, false, false, false, false, false, false, false] rfl rfl (any_of HT_.out (by kernel_rfl)) (fun _ _ _ h => h) (Or.inl ⟨by rfl, ?_⟩) ?_ ?_
           rotate_left
           ·intro w'
            go_simp
            with_reducible rfl
           rotate_left
           ·simp only [Act.put, List.setIfInBounds_toArray, List.set_cons_zero, List.set_cons_succ, i64_w, i32_w]
            rfl
           refine pure_ (i := 9) (N := some 83) (v := ?_) (a' := ?_) #[true, true, true, true, false, true, false, true, true, true, false, false, false, false, false, false, false] rfl rfl (any_of HT_.out (by kernel_rfl)) (fun _ _ _ h => h) (Or.inl ⟨by rfl, ?_⟩) ?_ ?_
           rotate_left
           ·intro w'
            go_simp
            with_reducible rfl
           rotate_left
           ·simp only [Act.put, List.setIfInBounds_toArray, List.set_cons_zero, List.set_cons_succ, i64_w, i32_w]
            rfl
           refine pure_ (i := 10) (N := some 84) (v := ?_) (a' := ?_) #[true, true, true, true, false, true, false, true, true, true, true, false, false, false, false, false, false] rfl rfl (any_of HT_.out (by kernel_rfl)) (fun _ _ _ h => h) (Or.inl ⟨by rfl, ?_⟩) ?_ ?_
           rotate_left
           ·intro w'
            go_simp
            with_reducible rfl
           rotate_left
           ·simp only [Act.put, List.setIfInBounds_toArray, List.set_cons_zero, List.set_cons_succ, i64_w, i32_w]
            rfl
           refine take_ (i := 4) (N := some 78) (v := ?_) (a' := ?_) #[true, true, true, true, true, true, false, true, true, true, true, false, false, false, false, false, false] rfl rfl (take_ofW HT_.out HW_.out (by kernel_rfl)) (fun _ _ _ h => h) (Or.inl ⟨by rfl, ?_⟩) hHeld ?_ ?_
           rotate_left
           ·rintro w' ⟨s0, s1, s2⟩
            go_simp
            with_reducible rfl
           rotate_left
           ·simp only [Act.put, List.setIfInBounds_toArray, List.set_cons_zero, List.set_cons_succ, i64_w, i32_w]
            rfl
           refine one_ (i := 6) (N := some 80) #[true, true, true, true, true, true, true, true, true, true, true, false, false, false, false, false, false] rfl rfl (one_of HT_.out (by kernel_rfl)) (by decide) (fun K hK => ?_)
           refine goes_ Tryd.func10 (by kernel_rfl) rfl #[.slice none 0 0, .agg #[.bool t115, .int .i64 t116, .string t117], .int .i64 a2] (by rfl) rfl rfl (by (try simp only [List.map_toArray, List.map_cons, List.map_nil]) <;> rfl) ?_
           refine (value_Encode.calls kj8 _ _ ([] : List Int) t115 t116 t117 a2 t207 _ ?side1 ?side2 A38.out).mono ?_
           (case side1 => exact Kd.C_nil _ _)
           (case side2 => exact Nat.le_refl _)
           rintro e w51 ⟨v208, rfl, ho0, hb⟩
           refine ⟨_, rfl, ?_⟩
           have n0_ := Aside0.mk (Kd.R_lower ho0 (below_size (xS HB.out (ge GE120.out (ge GE125.out g0)))))
           have n1_ := Aside0.mk (blk_below (xB BK120.out) hb)
           have n2_ := Aside0.mk (blk_below (xB BK125.out) hb)
           have n3_ := Aside0.mk (below_step (xS HB.out (ge GE120.out (ge GE125.out g0))) hb)
           clear BK120
           clear BK125
           clear HB
           have HO209 := n0_
           have BK120 := n1_
           have BK125 := n2_
           have HB := n3_
           clear n0_ n1_ n2_ n3_
           (try clear hb)
           (try clear hb2)
           (try clear hk)
           (try clear hi)
           (try clear ho0)
           obtain ⟨Ao53, co53, eo53⟩ := Kd.R_slice HO209.out
           (first | subst eo53 | (injection eo53 with f1_ f2_ f3_; have f4_ := f1_.symm; have f5_ := f3_.symm; clear f1_ f2_ f3_; subst f4_; subst f5_))
           refine hK.out _ _ ⟨(blk_cell BK120.out 0).trans rfl, (blk_cell BK120.out 1).trans rfl, (blk_cell BK120.out 2).trans rfl⟩ (fun hHeld => ?_)
           clear hK K
           refine norm_ (a' := ?_) ?_ ?_
           rotate_left
           ·show Act.put _ (some 80) _ = _
            simp only [Act.put, List.setIfInBounds_toArray, List.set_cons_zero, List.set_cons_succ, i64_w, i32_w]
            rfl
           refine one_ (i := 11) (N := some 85) #[true, true, true, true, true, true, true, true, true, true, true, true, false, false, false, false, false] rfl rfl (one_of HT_.out (by kernel_rfl)) (by decide) (fun K hK => ?_)
           refine goes_ Tryd.func15 (by kernel_rfl) rfl #[.slice Ao53 t207.length co53, .slice A52 ((l0.take (t118 : Int).toNat).drop (a1 : Int).toNat).length (c0 - a1.toNat)] (by rfl) rfl rfl (by (try simp only [List.map_toArray, List.map_cons, List.map_nil]); first | done | (rw [show ((l0.take (t118 : Int).toNat).drop (a1 : Int).toNat).length = (t118.toNat - a1.toNat) from (by rw [List.length_drop, List.length_take]; have h_ : (t118 : Int) ≤ (l0.length : Int) := of_decide_eq_true (by first | (with_reducible assumption) | assumption); omega)] <;> rfl) | rfl | (simp only [List.length_drop, List.length_take]; rfl)) ?_
           with_reducible refine (fenlandref01_Same.calls kj8 _ _ t207 _ _ ((l0.take (t118 : Int).toNat).drop (a1 : Int).toNat) false _ ?side1 ?side2 ?side3 ?side4 A42.out).mono ?_
           (case side1 => exact xC (Kd.R_reads' HO209.out).2.2)
           (case side2 => exact (Kd.R_reads' HO209.out).2.1)
           (case side3 => exact xC (Kd.C_below HR210.out HB.out))
           (case side4 => exact HC210.out)
           rintro e w' ⟨rfl, ⟨nd, rfl⟩⟩
           refine ⟨_, rfl, ?_⟩
           refine hK.out _ _ ⟨(blk_cell BK120.out 0).trans rfl, (blk_cell BK120.out 1).trans rfl, (blk_cell BK120.out 2).trans rfl⟩ (fun hHeld => ?_)
           clear hK K
           refine norm_ (a' := ?_) ?_ ?_
           rotate_left
           ·show Act.put _ (some 85) _ = _
            simp only [Act.put, List.setIfInBounds_toArray, List.set_cons_zero, List.set_cons_succ, i64_w, i32_w]
            rfl
           refine pure_ (i := 12) (N := some 86) (v := ?_) (a' := ?_) #[true, true, true, true, true, true, true, true, true, true, true, true, true, false, false, false, false] rfl rfl (any_of HT_.out (by kernel_rfl)) (fun _ _ _ h => h) (Or.inl ⟨by rfl, ?_⟩) ?_ ?_
           rotate_left
           ·intro w'
            go_simp
            with_reducible rfl
           rotate_left
           ·simp only [Act.put, List.setIfInBounds_toArray, List.set_cons_zero, List.set_cons_succ, i64_w, i32_w]
            rfl
           refine pure_ (i := 13) (N := some 87) (v := ?_) (a' := ?_) #[true, true, true, true, true, true, true, true, true, true, true, true, true, true, false, false, false] rfl rfl (any_of HT_.out (by kernel_rfl)) (fun _ _ _ h => h) (Or.inl ⟨by rfl, ?_⟩) ?_ ?_
           rotate_left
           ·intro w'
            go_simp
            with_reducible rfl
           rotate_left
           ·simp only [Act.put, List.setIfInBounds_toArray, List.set_cons_zero, List.set_cons_succ, i64_w, i32_w]
            rfl
           refine pure_ (i := 14) (N := some 88) (v := undef) (a' := ?_) #[true, true, true, true, true, true, true, true, true, true, true, true, true, true, true, false, false] rfl rfl (any_of HT_.out (by kernel_rfl)) (fun _ _ _ h => h) (Or.inr ⟨by rfl, rfl⟩) ?_ ?_
           rotate_left
           ·simp only [Act.put, List.setIfInBounds_toArray, List.set_cons_zero, List.set_cons_succ, i64_w, i32_w]
            rfl
           refine pure_ (i := 15) (N := some 89) (v := ?_) (a' := ?_) #[true, true, true, true, true, true, true, true, true, true, true, true, true, true, true, true, false] rfl rfl (any_of HT_.out (by kernel_rfl)) (fun _ _ _ h => h) (Or.inl ⟨by rfl, ?_⟩) ?_ ?_
           rotate_left
           ·intro w'
            go_simp
            with_reducible rfl
           rotate_left
           ·simp only [Act.put, List.setIfInBounds_toArray, List.set_cons_zero, List.set_cons_succ, i64_w, i32_w]
            rfl
           refine pure_ (i := 16) (N := some 6) (v := ?_) (a' := ?_) #[true, true, true, true, true, true, true, true, true, true, true, true, true, true, true, true, true] rfl rfl (any_of HT_.out (by kernel_rfl)) (fun _ _ _ h => h) (Or.inl ⟨by rfl, ?_⟩) ?_ ?_
           rotate_left
           ·intro w'
            go_simp
            with_reducible rfl
           rotate_left
           ·simp only [Act.put, List.setIfInBounds_toArray, List.set_cons_zero, List.set_cons_succ, i64_w, i32_w]
            rfl
           refine done_ (done_of HT_.out (by kernel_rfl)) ?_
           try go_wp2
           go_ret
           exact ⟨by first | rfl | simp [*], by repeat (first | (with_reducible first | exact HB.out | apply below_alloc | apply pw_below_drewN | apply below_drew1 | refine below_set ?_ GE120.out | refine below_set ?_ GE125.out) | exact HB.out)⟩
         ·replace c37 := Bool.eq_false_iff.mpr c37
          subst c37
          rw [if_neg (show ¬ (false = true) by decide)] at H
          obtain rfl := Option.some.inj H
          try go_wp2
          have n0_ := Aside0.mk (blk_drew BK120.out)
          have n1_ := Aside0.mk (blk_drew BK125.out)
          have n2_ := Aside0.mk (below_drew1 HB.out)
          clear BK120
          clear BK125
          clear HB
          have BK120 := n0_
          have BK125 := n1_
          have HB := n2_
          clear n0_ n1_ n2_
          refine start_ (n := 17) (S := fun w' => w'.cell? ⟨gb120, 0, none⟩ = some (.bool t115) ∧ w'.cell? ⟨gb120, 1, none⟩ = some (.int .i64 t116) ∧ w'.cell? ⟨gb120, 2, none⟩ = some (.string t117)) (ds := []) #[false, false, false, false, false, false, false, false, false, false, false, false, false, false, false, false, false] (by kernel_rfl) rfl rfl ⟨(blk_cell BK120.out 0).trans rfl, (blk_cell BK120.out 1).trans rfl, (blk_cell BK120.out 2).trans rfl⟩ (fun hHeld => ?_); refine with_tabW fenlandlaw05_ValueCanonical.tab12 fenlandlaw05_ValueCanonical.bits12 (fun HT_ HW_ => ?_)
          generalize wc.drew = w54 at BK120 BK125 HB hHeld ⊢
          refine pure_ (i := 1) (N := some 75) (v := ?_) (a' := ?_) #[false, true, false, false, false, false, false, false, false, false, false, false, false, false, false, false, false] rfl rfl (any_of HT_.out (by kernel_rfl)) (fun _ _ _ h => h) (Or.inl ⟨by rfl, ?_⟩) ?_ ?_
          rotate_left
          ·intro w'
           go_simp
           with_reducible rfl
          rotate_left
          ·simp only [Act.put, List.setIfInBounds_toArray, List.set_cons_zero, List.set_cons_succ, i64_w, i32_w]
           rfl
          refine take_ (i := 0) (N := some 74) (v := ?_) (a' := ?_) #[true, true, false, false, false, false, false, false, false, false, false, false, false, false, false, false, false] rfl rfl (take_ofW HT_.out HW_.out (by kernel_rfl)) (fun _ _ _ h => h) (Or.inl ⟨by rfl, ?_⟩) hHeld ?_ ?_
          rotate_left
          ·rintro w' ⟨s0, s1, s2⟩
           go_simp
           with_reducible rfl
          rotate_left
          ·simp only [Act.put, List.setIfInBounds_toArray, List.set_cons_zero, List.set_cons_succ, i64_w, i32_w]
           rfl
          refine one_ (i := 2) (N := some 76) #[true, true, true, false, false, false, false, false, false, false, false, false, false, false, false, false, false] rfl rfl (one_of HT_.out (by kernel_rfl)) (by decide) (fun K hK => ?_)
          refine goes_ Tryd.func14 (by kernel_rfl) rfl #[.agg #[.bool t115, .int .i64 t116, .string t117], .int .i64 a2] (by rfl) rfl rfl (by (try simp only [List.map_toArray, List.map_cons, List.map_nil]) <;> rfl) ?_
          with_reducible refine (value_Valid.calls t115 t116 t117 a2 false _ A36.out).mono ?_
          rintro e w55 ⟨rfl, hb⟩
          refine ⟨_, rfl, ?_⟩
          have n0_ := Aside0.mk (blk_below (xB BK120.out) hb)
          have n1_ := Aside0.mk (blk_below (xB BK125.out) hb)
          have n2_ := Aside0.mk (below_step (xS HB.out (ge GE120.out (ge GE125.out g0))) hb)
          clear BK120
          clear BK125
          clear HB
          have BK120 := n0_
          have BK125 := n1_
          have HB := n2_
          clear n0_ n1_ n2_
          (try clear hb)
          (try clear hb2)
          (try clear hk)
          (try clear hi)
          refine hK.out _ _ ⟨(blk_cell BK120.out 0).trans rfl, (blk_cell BK120.out 1).trans rfl, (blk_cell BK120.out 2).trans rfl⟩ (fun hHeld => ?_)
          clear hK K
          refine norm_ (a' := ?_) ?_ ?_
          rotate_left
          ·show Act.put _ (some 76) _ = _
           simp only [Act.put, List.setIfInBounds_toArray, List.set_cons_zero, List.set_cons_succ, i64_w, i32_w]
           rfl
          refine pure_ (i := 3) (N := some 77) (v := ?_) (a' := ?_) #[true, true, true, true, false, false, false, false, false, false, false, false, false, false, false, false, false] rfl rfl (any_of HT_.out (by kernel_rfl)) (fun _ _ _ h => h) (Or.inl ⟨by rfl, ?_⟩) ?_ ?_
          rotate_left
          ·intro w'
           go_simp
           with_reducible rfl
          rotate_left
          ·simp only [Act.put, List.setIfInBounds_toArray, List.set_cons_zero, List.set_cons_succ, i64_w, i32_w]
           rfl
          refine pure_ (i := 4) (N := some 78) (v := undef) (a' := ?_) #[true, true, true, true, true, false, false, false, false, false, false, false, false, false, false, false, false] rfl rfl (any_of HT_.out (by kernel_rfl)) (fun _ _ _ h => h) (Or.inr ⟨by rfl, rfl⟩) ?_ ?_
          rotate_left
          ·simp only [Act.put, List.setIfInBounds_toArray, List.set_cons_zero, List.set_cons_succ, i64_w, i32_w]
           rfl
          refine pure_ (i := 5) (N := some 79) (v := undef) (a' := ?_) #[true, true, true, true, true, true, false, false, false, false, false, false, false, false, false, false, false] rfl rfl (any_of HT_.out (by kernel_rfl)) (fun _ _ _ h => h) (Or.inr ⟨by rfl, rfl⟩) ?_ ?_
          rotate_left
          ·simp only [Act.put, List.setIfInBounds_toArray, List.set_cons_zero, List.set_cons_succ, i64_w, i32_w]
           rfl
          refine pure_ (i := 6) (N := some 80) (v := undef) (a' := ?_) #[true, true, true, true, true, true, true, false, false, false, false, false, false, false, false, false, false] rfl rfl (any_of HT_.out (by kernel_rfl)) (fun _ _ _ h => h) (Or.inr ⟨by rfl, rfl⟩) ?_ ?_
          rotate_left
          ·simp only [Act.put, List.setIfInBounds_toArray, List.set_cons_zero, List.set_cons_succ, i64_w, i32_w]
           rfl
          refine pure_ (i := 7) (N := some 81) (v := undef) (a' := ?_) #[true, true, true, true, true, true, true, true, false, false, false, false, false, false, false, false, false] rfl rfl (any_of HT_.out (by kernel_rfl)) (fun _ _ _ h => h) (Or.inr ⟨by rfl, rfl⟩) ?_ ?_
          rotate_left
          ·simp only [Act.put, List.setIfInBounds_toArray, List.set_cons_zero, List.set_cons_succ, i64_w, i32_w]
           rfl
          refine pure_ (i := 8) (N := some 82) (v := undef) (a' := ?_) #[true, true, true, true, true, true, true, true, true, false, false, false, false, false, false, false, false] rfl rfl (any_of HT_.out (by kernel_rfl)) (fun _ _ _ h => h) (Or.inr ⟨by rfl, rfl⟩) ?_ ?_
          rotate_left
          ·simp only [Act.put, List.setIfInBounds_toArray, List.set_cons_zero, List.set_cons_succ, i64_w, i32_w]
           rfl
          refine pure_ (i := 9) (N := some 83) (v := undef) (a' := ?_) #[true, true, true, true, true, true, true, true, true, true, false, false, false, false, false, false, false] rfl rfl (any_of HT_.out (by kernel_rfl)) (fun _ _ _ h => h) (Or.inr ⟨by rfl, rfl⟩) ?_ ?_
          rotate_left
          ·simp only [Act.put, List.setIfInBounds_toArray, List.set_cons_zero, List.set_cons_succ, i64_w, i32_w]
           rfl
          refine pure_ (i := 10) (N := some 84) (v := undef) (a' := ?_) #[true, true, true, true, true, true, true, true, true, true, true, false, false, false, false, false, false] rfl rfl (any_of HT_.out (by kernel_rfl)) (fun _ _ _ h => h) (Or.inr ⟨by rfl, rfl⟩) ?_ ?_
          rotate_left
          ·simp only [Act.put, List.setIfInBounds_toArray, List.set_cons_zero, List.set_cons_succ, i64_w, i32_w]
           rfl
          refine pure_ (i := 11) (N := some 85) (v := undef) (a' := ?_) #[true, true, true, true, true, true, true, true, true, true, true, true, false, false, false, false, false] rfl rfl (any_of HT_.out (by kernel_rfl)) (fun _ _ _ h => h) (Or.inr ⟨by rfl, rfl⟩) ?_ ?_
          rotate_left
          ·simp only [Act.put, List.setIfInBounds_toArray, List.set_cons_zero, List.set_cons_succ, i64_w, i32_w]
           rfl
          refine pure_ (i := 12) (N := some 86) (v := ?_) (a' := ?_) #[true, true, true, true, true, true, true, true, true, true, true, true, true, false, false, false, false] rfl rfl (any_of HT_.out (by kernel_rfl)) (fun _ _ _ h => h) (Or.inl ⟨by rfl, ?_⟩) ?_ ?_
          rotate_left
          ·intro w'
           go_simp
           with_reducible rfl
          rotate_left
          ·simp only [Act.put, List.setIfInBounds_toArray, List.set_cons_zero, List.set_cons_succ, i64_w, i32_w]
           rfl
          refine pure_ (i := 13) (N := some 87) (v := ?_) (a' := ?_) #[true, true, true, true, true, true, true, true, true, true, true, true, true, true, false, false, false] rfl rfl (any_of HT_.out (by kernel_rfl)) (fun _ _ _ h => h) (Or.inl ⟨by rfl, ?_⟩) ?_ ?_
          rotate_left
          ·intro w'
           go_simp
           with_reducible rfl
          rotate_left
          ·simp only [Act.put, List.setIfInBounds_toArray, List.set_cons_zero, List.set_cons_succ, i64_w, i32_w]
           rfl
          refine pure_ (i := 14) (N := some 88) (v := undef) (a' := ?_) #[true, true, true, true, true, true, true, true, true, true, true, true, true, true, true, false, false] rfl rfl (any_of HT_.out (by kernel_rfl)) (fun _ _ _ h => h) (Or.inr ⟨by rfl, rfl⟩) ?_ ?_
          rotate_left
          ·simp only [Act.put, List.setIfInBounds_toArray, List.set_cons_zero, List.set_cons_succ, i64_w, i32_w]
           rfl
          refine pure_ (i := 15) (N := some 89) (v := ?_) (a' := ?_) #[true, true, true, true, true, true, true, true, true, true, true, true, true, true, true, true, false] rfl rfl (any_of HT_.out (by kernel_rfl)) (fun _ _ _ h => h) (Or.inl ⟨by rfl, ?_⟩) ?_ ?_
          rotate_left
          ·intro w'
           go_simp
           with_reducible rfl
          rotate_left
          ·simp only [Act.put, List.setIfInBounds_toArray, List.set_cons_zero, List.set_cons_succ, i64_w, i32_w]
           rfl
          refine pure_ (i := 16) (N := some 6) (v := ?_) (a' := ?_) #[true, true, true, true, true, true, true, true, true, true, true, true, true, true, true, true, true] rfl rfl (any_of HT_.out (by kernel_rfl)) (fun _ _ _ h => h) (Or.inl ⟨by rfl, ?_⟩) ?_ ?_
          rotate_left
          ·intro w'
           go_simp
           with_reducible rfl
          rotate_left
          ·simp only [Act.put, List.setIfInBounds_toArray, List.set_cons_zero, List.set_cons_succ, i64_w, i32_w]
           rfl
          refine done_ (done_of HT_.out (by kernel_rfl)) ?_
          try go_wp2
          go_ret
          exact ⟨by first | rfl | simp [*], by repeat (first | (with_reducible first | exact HB.out | apply below_alloc | apply pw_below_drewN | apply below_drew1 | refine below_set ?_ GE120.out | refine below_set ?_ GE125.out) | exact HB.out)⟩
     ·rw [if_neg c32] at H
      have c32b0 : (t119 == 0) = false := beq_eq_false_iff_ne.mpr c32
      have c32b1 : (t119 != 0) = true := bne_iff_ne.mpr c32
      by_cases c56 : (!t115 && (t116 == 0 && (t117.toList == ([] : List UInt8)))) = true
      rotate_left
      ·rw [if_neg c56] at H
       exact absurd H (by simp)
      rw [if_pos c56] at H
      have c56b0 : (!t115 && (t116 == 0 && (t117.toList == ([] : List UInt8)))) = true := c56
      have c56bp := c56
      (try simp only [Bool.and_eq_true, Bool.not_eq_true', beq_iff_eq] at c56bp)
      clear c56
      by_cases c57 : t118 = 0
      rotate_left
      ·rw [if_neg c57] at H
       exact absurd H (by simp)
      rw [if_pos c57] at H
      have c57b0 : (t118 == 0) = true := beq_iff_eq.mpr c57
      have c57b1 : (t118 != 0) = false := bne_eq_false_iff_eq.mpr c57
      clear c57
      obtain rfl := Option.some.inj H
      have hnb58 := NB120_125.out
      have hnc58 := NB125_120.out
      have hcz59_0 : wc.cell? ⟨gb120, 0, none⟩ = some (.bool t115) := (blk_cell BK120.out 0).trans rfl
      have hcz59_1 : wc.cell? ⟨gb120, 1, none⟩ = some (.int .i64 t116) := (blk_cell BK120.out 1).trans rfl
      have hcz59_2 : wc.cell? ⟨gb120, 2, none⟩ = some (.string t117) := (blk_cell BK120.out 2).trans rfl
      have hfz59_0 := blk_frozen BK120.out 0
      have hfz59_1 := blk_frozen BK120.out 1
      have hfz59_2 := blk_frozen BK120.out 2
      go_wp2
      go_ret
      exact ⟨by first | rfl | simp [*], by repeat (first | (with_reducible first | exact HB.out | apply below_alloc | apply pw_below_drewN | apply below_drew1 | refine below_set ?_ GE120.out | refine below_set ?_ GE125.out) | exact HB.out)⟩
theorem wraps_u64 (n : Int) (h₀ : 0 ≤ n) (h₁ : n < 2 ^ 64) : IntKind.u64.wrap n = n := by rw [IntKind.wrap_u64]; omega
theorem wrap64_id (n : Int) (h₀ : -9223372036854775808 ≤ n) (h₁ : n < 9223372036854775808) : wrap64 n = n := by unfold wrap64; omega
theorem w_succ (i : Nat) (h : i ≤ 9) : wrap64 ((i : Int) + 1) = ((i + 1 : Nat) : Int) := by
  have e : ((i + 1 : Nat) : Int) = (i : Int) + 1 := by simp
  rw [e]; exact wrap64_id _ (by omega) (by omega)
theorem w_seven (i : Nat) (h : i ≤ 9) : 0 ≤ wrap64 (7 * (i : Int)) := by rw [wrap64_id _ (by omega) (by omega)]; omega
theorem w_add (a i : Int) (h0 : 0 ≤ a) (h1 : 0 ≤ i) (h2 : a + i < 9223372036854775807) : wrap64 (a + i) = a + i := wrap64_id _ (by omega) (by omega)
theorem w_add2 (a i : Int) (h0 : 0 ≤ a) (h1 : 0 ≤ i) (h2 : a + i < 9223372036854775807) : wrap64 (wrap64 (a + i) + 1) = a + (i + 1) := by
  rw [w_add a i h0 h1 h2, wrap64_id _ (by omega) (by omega)]; omega
def leb (n : Nat) : List Int := if n < 128 then [(n : Int)] else ((n % 128 + 128 : Nat) : Int) :: leb (n / 128)
termination_by n
decreasing_by omega
def p7 (i : Nat) : Int := 2 ^ (7 * i)
theorem p7_0 : p7 0 = 1 := by decide
theorem p7_9 : p7 9 = 9223372036854775808 := by decide
theorem p7_8 : p7 8 = 72057594037927936 := by decide
def scan : Nat → Int → List Int → Int × Int × Int
  | _, _, [] => (0, 0, 6)
  | i, n, c :: t => if i = 9 ∧ c > 1 then (0, 0, 5) else if c ≥ 128 then scan (i + 1) (n + (c % 128) * p7 i) t else if c = 0 ∧ i > 0 then (0, 0, 5) else (n + c * p7 i, (i : Int) + 1, 0)
def fin (at_ : Int) (s : Int × Int × Int) : Int × Int × Int := (s.1, if s.2.2 = 0 then at_ + s.2.1 else 0, s.2.2)
def Bytes (l : List Int) : Prop := ∀ c ∈ l, 0 ≤ c ∧ c < 256
theorem Bytes.drop {a : List Int} (ha : Bytes a) (n : Nat) : Bytes (a.drop n) := fun c hc => ha c (List.mem_of_mem_drop hc)
theorem Bytes.take {a : List Int} (ha : Bytes a) (n : Nat) : Bytes (a.take n) := fun c hc => ha c (List.mem_of_mem_take hc)
theorem pow7 (i : Nat) (h : i ≤ 9) : (0 : Int) < p7 i ∧ p7 i ≤ 9223372036854775808 ∧ p7 (i + 1) = 128 * p7 i ∧ (i ≤ 8 → p7 i ≤ 72057594037927936) := by
  have : i = 0 ∨ i = 1 ∨ i = 2 ∨ i = 3 ∨ i = 4 ∨ i = 5 ∨ i = 6 ∨ i = 7 ∨ i = 8 ∨ i = 9 := by omega
  rcases this with h | h | h | h | h | h | h | h | h | h <;> subst h <;> decide
theorem shl_part (c : Int) (i : Nat) (h0 : 0 ≤ c) (h1 : c < 256) (hi : i ≤ 9) (h9 : i = 9 → c ≤ 1) :
    shl .u64 (IntKind.u64.wrap (Go.bits .and .u8 c 127)) (wrap64 (7 * (i : Int))) = (c % 128) * p7 i := by
  have e1 : Go.bits .and .u8 c 127 = c % 128 := bits_mask .u8 8 (by decide) wraps_u8 7 (by decide) c h0 h1
  have e2 : wrap64 (7 * (i : Int)) = 7 * (i : Int) := wrap64_id _ (by omega) (by omega)
  have e3 : min ((7 * (i : Int)).toNat) IntKind.u64.bits = 7 * i := by
    have : IntKind.u64.bits = 64 := rfl
    omega
  obtain ⟨p0, p1, p2, p3⟩ := pow7 i hi
  rw [e1, e2, wraps_u64 _ (by omega) (by omega)]
  unfold shl
  rw [e3]
  change IntKind.u64.wrap (c % 128 * p7 i) = _
  generalize hp : p7 i = p at *
  have hc : 0 ≤ c % 128 ∧ c % 128 < 128 := by omega
  have hm0 : 0 ≤ (c % 128) * p := Int.mul_nonneg hc.1 (by omega)
  have hm1 : (c % 128) * p < 2 ^ 64 := by
    by_cases h8 : i ≤ 8
    · have := p3 h8
      calc (c % 128) * p ≤ 128 * p := Int.mul_le_mul_of_nonneg_right (by omega) (by omega)
        _ < 2 ^ 64 := by omega
    · have := h9 (by omega)
      have : c % 128 ≤ 1 := by omega
      calc (c % 128) * p ≤ 1 * p := Int.mul_le_mul_of_nonneg_right (by omega) (by omega)
        _ < 2 ^ 64 := by omega
  exact wraps_u64 _ hm0 hm1
theorem or_part (n x : Int) (j : Nat) (h0 : 0 ≤ n) (h1 : n < 2 ^ j) (hn : n < 2 ^ 64) (hx0 : 0 ≤ x) (hx : x % 2 ^ j = 0) (hx1 : x < 2 ^ 64) : Go.bits .or .u64 n x = n + x := by
  obtain ⟨a, rfl⟩ := Int.eq_ofNat_of_zero_le hx0
  obtain ⟨b, rfl⟩ := Int.eq_ofNat_of_zero_le h0
  have ha : a < 2 ^ 64 := by exact_mod_cast hx1
  have hb : b < 2 ^ 64 := by exact_mod_cast hn
  have hb' : b < 2 ^ j := by exact_mod_cast h1
  have hd : a % 2 ^ j = 0 := by exact_mod_cast hx
  have hq : a = 2 ^ j * (a / 2 ^ j) := by
    have := Nat.div_add_mod a (2 ^ j)
    omega
  rw [(bits_nat .u64 64 (by decide) wraps_u64 b a hb ha).2, Nat.or_comm]
  rw [hq, ← Nat.two_pow_add_eq_or_of_lt hb' (a / 2 ^ j)]
  push_cast
  omega
theorem acc_part (n c : Int) (i : Nat) (h0 : 0 ≤ c) (h1 : c < 256) (hi : i ≤ 9) (h9 : i = 9 → c ≤ 1) (hn : 0 ≤ n) (hn1 : n < p7 i) :
    Go.bits .or .u64 n (shl .u64 (IntKind.u64.wrap (Go.bits .and .u8 c 127)) (wrap64 (7 * (i : Int)))) = n + (c % 128) * p7 i ∧ 0 ≤ n + (c % 128) * p7 i ∧ n + (c % 128) * p7 i < p7 (i + 1) ∧ n + (c % 128) * p7 i < 2 ^ 64 := by
  rw [shl_part c i h0 h1 hi h9]
  obtain ⟨p0, p1, p2, p3⟩ := pow7 i hi
  have hc : 0 ≤ c % 128 ∧ c % 128 ≤ 127 := by omega
  have hm0 : 0 ≤ (c % 128) * p7 i := Int.mul_nonneg hc.1 (by omega)
  have hmd : ((c % 128) * p7 i) % p7 i = 0 := Int.mul_emod_left _ _
  have hm2 : (c % 128) * p7 i ≤ 127 * p7 i := Int.mul_le_mul_of_nonneg_right (by omega) (by omega)
  have hm1 : (c % 128) * p7 i < 2 ^ 64 ∧ n + (c % 128) * p7 i < 2 ^ 64 := by
    by_cases h8 : i ≤ 8
    · have := p3 h8
      omega
    · have := h9 (by omega)
      have : (c % 128) * p7 i ≤ 1 * p7 i := Int.mul_le_mul_of_nonneg_right (by omega) (by omega)
      omega
  refine ⟨or_part n _ (7 * i) hn hn1 (by omega) hm0 hmd hm1.1, by omega, by rw [p2]; omega, hm1.2⟩
theorem rd_drop {L : List Int} {i : Nat} {c : Int} {t : List Int} (h : L.drop i = c :: t) : i < L.length ∧ rd L (i : Int) = c ∧ L.drop (i + 1) = t ∧ c ∈ L := by
  have hl : i < L.length := by
    have := congrArg List.length h
    simp at this; omega
  have e := List.drop_eq_getElem_cons hl
  rw [h] at e
  injection e with e1 e2
  refine ⟨hl, ?_, e2.symm, ?_⟩
  · unfold rd
    simp [List.getD, hl, e1]
  · rw [e1]; exact List.getElem_mem hl
theorem wire_l0 (L : List Int) (hL : Bytes L) (a : Int) (ha : 0 ≤ a) (hlen : a + (L.length : Int) < 4611686018427387904) :
    ∀ (rest : List Int) (i k : Nat) (n : Int), i ≤ 9 → L.drop i = rest → 0 ≤ n → n < p7 i → rest.length < k →
      wire_ReadU.l0 k a n 6 L (L.length : Int) (i : Int) = some (fin a (scan i n rest)) := by
  intro rest
  induction rest with
  | nil =>
    intro i k n hi hd h0 h1 hk
    obtain ⟨k, rfl⟩ : ∃ k', k = k' + 1 := ⟨k - 1, by simp at hk; omega⟩
    have hl : L.length ≤ i := by have := congrArg List.length hd; simp at this; omega
    have hx : ¬ ((i : Int) < (L.length : Int)) := by omega
    simp only [wire_ReadU.l0, hx, if_false, scan, fin]
    simp
  | cons c t ih =>
    intro i k n hi hd h0 h1 hk
    obtain ⟨k, rfl⟩ : ∃ k', k = k' + 1 := ⟨k - 1, by simp at hk; omega⟩
    obtain ⟨hl, hrd, hd', hc⟩ := rd_drop hd
    obtain ⟨c0, c1⟩ := hL c hc
    have x1 : ((i : Int) < (L.length : Int)) := by omega
    have x2 : (0 : Int) ≤ (i : Int) := by omega
    have x3 : (0 : Int) ≤ wrap64 (7 * (i : Int)) := w_seven i hi
    have x4 : wrap64 ((i : Int) + 1) = ((i + 1 : Nat) : Int) := w_succ i hi
    have x5 : wrap64 ((wrap64 (a + (i : Int))) + 1) = a + ((i : Int) + 1) := w_add2 a i ha x2 (by clear h1; omega)
    simp only [wire_ReadU.l0, x1, x2, x3, hrd, if_true, scan, x5]
    by_cases h9 : i = 9
    · subst h9
      have y : ((9 : Nat) : Int) = 9 := rfl
      by_cases hc1 : c > 1
      · simp [hc1, fin]
      · have hcl : ¬ c ≥ 128 := by clear x3 x4 x5; omega
        have hm : c % 128 = c := by clear x3 x4 x5; omega
        have hacc := (acc_part n c 9 c0 c1 (by clear x3 x4 x5; omega) (by clear x3 x4 x5; omega) h0 h1).1
        rw [hm] at hacc
        rw [y] at hacc
        by_cases hz : c = 0
        · subst hz; simp [fin]
        · simp only [hcl, hc1, hz, if_false, false_and, and_false, hacc, y, fin, if_true]
    · have y9 : ¬ ((i : Int) = 9) := fun h => h9 (by exact_mod_cast h)
      obtain ⟨b1, b2, b3, b4⟩ := acc_part n c i c0 c1 hi (fun h => absurd h h9) h0 h1
      by_cases hcl : c ≥ 128
      · simp only [hcl, y9, h9, if_true, if_false, false_and, b1, x4]
        exact ih (i + 1) k _ (by clear x3 x4 x5 b1; omega) hd' b2 b3 (by clear x3 x4 x5 b1; simp at hk; omega)
      · have hm : c % 128 = c := by clear x3 x4 x5 b1; omega
        rw [hm] at b1
        simp only [hcl, y9, h9, if_false, false_and, b1]
        by_cases hz : c = 0
        · subst hz
          by_cases hi0 : i = 0
          · subst hi0; simp [fin]
          · have g1 : (i : Int) > 0 := by clear x3 x4 x5 b1; omega
            have g2 : i > 0 := by clear x3 x4 x5 b1; omega
            simp [g1, g2, fin, hi0]
        · simp only [hz, if_false, false_and, fin, if_true]
theorem wire_ReadU_eq (l : List Int) (hl : Bytes l) (hlen : (l.length : Int) < 1152921504606846976) (a : Int) (k : Nat) (hk : l.length < k) :
    wire_ReadU.f k l a = some (if a < 0 ∨ a > (l.length : Int) then (0, 0, 1) else fin a (scan 0 0 (l.drop a.toNat))) := by
  unfold wire_ReadU.f
  by_cases h0 : a < 0
  · simp [h0]
  · by_cases h1 : a > (l.length : Int)
    · simp [h0, h1]
    · have e0 : (0 : Int) ≤ a := by omega
      have e1 : a ≤ (l.length : Int) := by omega
      simp only [h0, h1, if_false, e0, e1, if_true, or_self]
      have hd : (l.drop a.toNat).length = l.length - a.toNat := List.length_drop ..
      have := wire_l0 (l.drop a.toNat) (hl.drop _) a e0 (by rw [hd]; omega) (l.drop a.toNat) 0 k 0 (by omega) (by simp) (by decide) (by decide) (by rw [hd]; omega)
      simpa [p7_0] using this
/-! what scan answers -/
theorem leb_length : ∀ (j n : Nat), n < 128 ^ (j + 1) → (leb n).length ≤ j + 1
  | 0, n, h => by unfold leb; simp at h; simp [h]
  | j + 1, n, h => by
    unfold leb
    split
    · simp
    · have := leb_length j (n / 128) (by rw [Nat.div_lt_iff_lt_mul (by decide)]; rw [Nat.pow_succ] at h; exact h)
      simp; omega
theorem scan_leb : ∀ (n : Nat) (i : Nat) (acc : Int) (t : List Int), i ≤ 9 → (n : Int) * p7 i < 2 ^ 64 → (i > 0 → n > 0) →
    scan i acc (leb n ++ t) = (acc + (n : Int) * p7 i, (i : Int) + ((leb n).length : Int), 0) := by
  intro n
  induction n using Nat.strongRecOn with
  | ind n ih =>
    intro i acc t hi hb hp
    obtain ⟨p0, p1, p2, p3⟩ := pow7 i hi
    unfold leb
    by_cases h : n < 128
    · have h9 : ¬ (i = 9 ∧ (n : Int) > 1) := by
        rintro ⟨rfl, h2⟩
        have : (2 : Int) * p7 9 ≤ (n : Int) * p7 9 := Int.mul_le_mul_of_nonneg_right (by omega) (by decide)
        have := p7_9
        omega
      have g : ¬ ((n : Int) ≥ 128) := by omega
      have g2 : ¬ ((n : Int) = 0 ∧ i > 0) := by rintro ⟨a, b⟩; have := hp b; omega
      simp only [h, if_true, List.cons_append, List.nil_append, scan, h9, g, g2, if_false, List.length_singleton]
      simp
    · simp only [h, if_false, List.cons_append, scan]
      have h9 : i ≤ 8 := by
        rcases Nat.lt_or_ge i 9 with h9 | h9
        · omega
        · have : i = 9 := by omega
          subst this
          have : (128 : Int) * p7 9 ≤ (n : Int) * p7 9 := Int.mul_le_mul_of_nonneg_right (by omega) (by decide)
          have := p7_9
          omega
      have h9' : ¬ (i = 9 ∧ ((n % 128 + 128 : Nat) : Int) > 1) := by omega
      have g : ((n % 128 + 128 : Nat) : Int) ≥ 128 := by omega
      simp only [h9', if_false, g, if_true]
      have hdm : (n : Int) = 128 * ((n / 128 : Nat) : Int) + ((n % 128 : Nat) : Int) := by omega
      have hmul : ((n / 128 : Nat) : Int) * (128 * p7 i) + ((n % 128 : Nat) : Int) * p7 i = (n : Int) * p7 i := by
        rw [hdm, Int.add_mul, ← Int.mul_assoc, Int.mul_comm ((n / 128 : Nat) : Int) 128]
        first | done | omega
      have hnn : 0 ≤ ((n % 128 : Nat) : Int) * p7 i := Int.mul_nonneg (by omega) (by omega)
      have hr := ih (n / 128) (by omega) (i + 1) (acc + ((n % 128 + 128 : Nat) : Int) % 128 * p7 i) t (by omega) (by rw [p2]; omega) (by intro _; omega)
      rw [hr, p2]
      have e : ((n % 128 + 128 : Nat) : Int) % 128 = ((n % 128 : Nat) : Int) := by omega
      rw [e]
      simp only [Prod.mk.injEq, List.length_cons, and_true]
      refine ⟨by rw [← hmul]; omega, by push_cast; omega⟩
theorem hi128 (m : Nat) (h : m < 256) : m ||| 128 = m % 128 + 128 := by
  have hh : ∀ m : Fin 256, m.val ||| 128 = m.val % 128 + 128 := by decide +kernel
  exact hh ⟨m, h⟩
theorem scan_ok : ∀ (rest : List Int) (i : Nat) (acc : Int), Bytes rest → i ≤ 9 → (scan i acc rest).2.2 = 0 →
    ∃ (m : Nat) (t : List Int), rest = leb m ++ t ∧ scan i acc rest = (acc + (m : Int) * p7 i, (i : Int) + ((leb m).length : Int), 0) ∧ (m : Int) * p7 i < 2 ^ 64 ∧ (i > 0 → m > 0)
  | [], i, acc, _, _, h => by simp [scan] at h
  | c :: t, i, acc, hB, hi, h => by
    obtain ⟨c0, c1⟩ := hB c (by simp)
    obtain ⟨p0, p1, p2, p3⟩ := pow7 i hi
    unfold scan at h ⊢
    split at h
    · simp at h
    · rename_i h9
      split at h
      · rename_i hc
        obtain ⟨m, t', rfl, e, hm, hp⟩ := scan_ok t (i + 1) _ (fun x hx => hB x (by simp [hx])) (by omega) h
        have hp' := hp (by omega)
        refine ⟨m * 128 + (c % 128).toNat, t', ?_, ?_, ?_, by omega⟩
        · rw [leb.eq_1 (m * 128 + (c % 128).toNat)]
          have : ¬ (m * 128 + (c % 128).toNat < 128) := by omega
          simp only [this, if_false, List.cons_append]
          have e1 : (m * 128 + (c % 128).toNat) / 128 = m := by omega
          have e2 : (((m * 128 + (c % 128).toNat) % 128 + 128 : Nat) : Int) = c := by omega
          rw [e1, e2]
        · simp only [h9, if_false, hc, if_true]
          rw [e, p2]
          rw [leb.eq_1 (m * 128 + (c % 128).toNat)]
          have : ¬ (m * 128 + (c % 128).toNat < 128) := by omega
          have e1 : (m * 128 + (c % 128).toNat) / 128 = m := by omega
          simp only [this, if_false, e1, List.length_cons, Prod.mk.injEq, and_true]
          refine ⟨?_, by push_cast; omega⟩
          have e3 : ((m * 128 + (c % 128).toNat : Nat) : Int) = (m : Int) * 128 + c % 128 := by omega
          rw [e3, Int.add_mul, Int.mul_assoc]
          omega
        · have e3 : ((m * 128 + (c % 128).toNat : Nat) : Int) = (m : Int) * 128 + c % 128 := by omega
          rw [e3, Int.add_mul, Int.mul_assoc]
          rw [p2] at hm
          by_cases h8 : i ≤ 8
          · have q := p3 h8
            have hm2 : (c % 128) * p7 i < 128 * p7 i := Int.mul_lt_mul_of_pos_right (by omega) p0
            have hml : (m : Int) * (128 * p7 i) + (128 * p7 i) ≤ 2 ^ 64 := by
              have hq : (2 : Int) ^ 64 = (2 ^ (64 - 7 * (i + 1))) * (p7 (i + 1)) ∨ i = 8 ∨ i = 9 ∧ False := by
                have : i = 0 ∨ i = 1 ∨ i = 2 ∨ i = 3 ∨ i = 4 ∨ i = 5 ∨ i = 6 ∨ i = 7 ∨ i = 8 := by omega
                rcases this with h | h | h | h | h | h | h | h | h <;> subst h <;> simp [p7]
              rcases hq with hq | hq | hq
              · rw [← p2] at hm ⊢
                generalize p7 (i + 1) = P at *
                generalize (2 : Int) ^ (64 - 7 * (i + 1)) = Q at *
                rw [hq] at hm ⊢
                have : (m : Int) < Q := Int.lt_of_mul_lt_mul_right hm (by omega)
                calc (m : Int) * P + P = ((m : Int) + 1) * P := by rw [Int.add_mul, Int.one_mul]
                  _ ≤ Q * P := Int.mul_le_mul_of_nonneg_right (by omega) (by omega)
              · subst hq
                rw [p7_8] at hm ⊢
                omega
              · exact hq.2.elim
            omega
          · exfalso; have : i = 9 := by omega
            omega
      · rename_i hc
        split at h
        · simp at h
        · rename_i hz
          refine ⟨c.toNat, t, ?_, ?_, ?_, by omega⟩
          · rw [leb.eq_1]
            have : c.toNat < 128 := by omega
            simp [this]; omega
          · rw [leb.eq_1]
            have : c.toNat < 128 := by omega
            have e : ((c.toNat : Nat) : Int) = c := by omega
            simp only [h9, hc, hz, if_false, this, if_true, e, List.length_singleton]
            simp
          · have e : ((c.toNat : Nat) : Int) = c := by omega
            rw [e]
            by_cases h8 : i ≤ 8
            · have := p3 h8
              have : c * p7 i ≤ 128 * p7 i := Int.mul_le_mul_of_nonneg_right (by omega) (by omega)
              omega
            · have : c ≤ 1 := by omega
              have : c * p7 i ≤ 1 * p7 i := Int.mul_le_mul_of_nonneg_right (by omega) (by omega)
              omega
/-! what number and U append -/
theorem wire_number_eq : ∀ (j : Nat) (x : List Int) (n : Nat) (k : Nat), n < 128 ^ (j + 1) → n < 2 ^ 64 → j < k → x.length + j + 1 < 140737488355328 → wire_number.l0 k x (n : Int) = some (x ++ leb n)
  | j, x, n, 0, _, _, hk, _ => by omega
  | j, x, n, k + 1, hn, h64, hk, hx => by
    unfold wire_number.l0 leb
    have hl : x.length < 140737488355328 := by omega
    by_cases h : n < 128
    · have g : ¬ ((n : Int) ≥ 128) := by omega
      have e : (n : Int) % 256 = n := by omega
      simp [h, g, hl, e]
    · have g : (n : Int) ≥ 128 := by omega
      cases j with
      | zero => simp at hn; omega
      | succ j =>
        have e : Go.bits .or .u8 ((n : Int) % 256) 128 = ((n % 128 + 128 : Nat) : Int) := by
          have := (bits_nat .u8 8 (by decide) wraps_u8 (n % 256) 128 (by omega) (by decide)).2
          have e0 : (n : Int) % 256 = ((n % 256 : Nat) : Int) := by omega
          rw [e0]
          have e1 : (((128 : Nat)) : Int) = 128 := rfl
          rw [← e1, this]
          congr 1
          rw [hi128 _ (by omega)]; omega
        have e2 : (n : Int) / 128 = ((n / 128 : Nat) : Int) := by omega
        simp only [h, g, hl, if_true, if_false, e, e2]
        rw [wire_number_eq j _ (n / 128) k (by rw [Nat.div_lt_iff_lt_mul (by decide)]; rw [Nat.pow_succ] at hn; exact hn) (by omega) (by omega) (by simp; omega)]
        simp
theorem wire_U_eq (l : List Int) (a : Int) (k : Nat) (hl : l.length ≤ 17592186044416) (h0 : 0 ≤ a) (h1 : a < 2 ^ 64) (hk : 10 < k) : wire_U.f k l a = some (l ++ leb a.toNat) := by
  obtain ⟨n, rfl⟩ := Int.eq_ofNat_of_zero_le h0
  have e0 : wire_room.f l 10 = some l := by
    unfold wire_room.f; rw [if_pos]; omega
  unfold wire_U.f wire_number.f
  rw [e0, Option.bind_some, wire_number_eq 9 l n k (by simp; omega) (by omega) (by omega) (by omega)]
  simp
theorem Same_l0_eq (x : List Int) (hx : (x.length : Int) < 4611686018427387904) : ∀ (n i k : Nat), i + n = x.length → n < k → fenlandref01_Same.l0 k x x (i : Int) = some true
  | n, i, 0, _, hk => by omega
  | 0, i, k + 1, h, hk => by
    have : ¬ ((i : Int) < (x.length : Int)) := by omega
    simp only [fenlandref01_Same.l0, this, if_false]
  | n + 1, i, k + 1, h, hk => by
    have h1 : (i : Int) < (x.length : Int) := by omega
    have h0 : (0 : Int) ≤ (i : Int) := by omega
    have e : wrap64 ((i : Int) + 1) = ((i + 1 : Nat) : Int) := by
      have e : ((i + 1 : Nat) : Int) = (i : Int) + 1 := by simp
      rw [e]; exact wrap64_id _ (by omega) (by omega)
    simp only [fenlandref01_Same.l0, h1, h0, if_true, e]
    exact Same_l0_eq x hx n (i + 1) k (by omega) (by omega)
theorem Same_eq (x : List Int) (k : Nat) (hx : (x.length : Int) < 4611686018427387904) (hk : x.length < k) : fenlandref01_Same.f k x x = some true := by
  unfold fenlandref01_Same.f
  rw [if_pos rfl]
  have := Same_l0_eq x hx x.length 0 k (by omega) hk
  simpa using this
def ru (l : List Int) (a : Int) : Int × Int × Int := if a < 0 ∨ a > (l.length : Int) then (0, 0, 1) else fin a (scan 0 0 (l.drop a.toNat))
theorem ru_cases (l : List Int) (a : Int) (hB : Bytes l) : ((ru l a).2.2 ≠ 0 ∧ (ru l a).2.1 = 0) ∨ ∃ (m b : Nat) (t : List Int), a = (b : Int) ∧ b ≤ l.length ∧ l.drop b = leb m ++ t ∧ (m : Int) < 2 ^ 64 ∧ ru l a = ((m : Int), (b : Int) + ((leb m).length : Int), 0) ∧ b + (leb m).length ≤ l.length := by
  unfold ru
  split
  · left; simp
  · rename_i h
    by_cases he : (scan 0 0 (l.drop a.toNat)).2.2 = 0
    · right
      obtain ⟨m, t, h1, h2, h3, h4⟩ := scan_ok _ 0 0 (hB.drop _) (by omega) he
      refine ⟨m, a.toNat, t, by omega, by omega, h1, by simpa [p7_0] using h3, ?_, ?_⟩
      · rw [h2]; simp [fin, p7_0]; omega
      · have := congrArg List.length h1
        simp at this; omega
    · left
      simp [fin, he]
theorem ru_leb (l : List Int) (b m : Nat) (t : List Int) (hb : b ≤ l.length) (hd : l.drop b = leb m ++ t) (hm : (m : Int) < 2 ^ 64) : ru l (b : Int) = ((m : Int), (b : Int) + ((leb m).length : Int), 0) := by
  unfold ru
  have h : ¬ ((b : Int) < 0 ∨ (b : Int) > (l.length : Int)) := by omega
  rw [if_neg h]
  have e : ((b : Int)).toNat = b := by omega
  rw [e, hd, scan_leb m 0 0 t (by omega) (by simpa [p7_0] using hm) (by omega)]
  simp [fin, p7_0]
/-- what Get accepts is put back as the same bytes -/
def Rg (x : Int) : Prop := -9223372036854775808 ≤ x ∧ x < 9223372036854775808
def zz (a : Int) : Nat := if 0 ≤ a then (2 * a).toNat else (-2 * a - 1).toNat
theorem zz_lt {a : Int} (h : Rg a) : (zz a : Int) < 2 ^ 64 := by
  unfold Rg at h; unfold zz; split <;> omega
theorem wire_zig (a : Int) (h : Rg a) : Go.bits .xor .u64 (IntKind.u64.wrap ((IntKind.u64.wrap (a)) * 2)) (IntKind.u64.wrap (a / 9223372036854775808)) = (zz a : Int) := by
  unfold Rg at h
  by_cases h0 : 0 ≤ a
  · have e1 : IntKind.u64.wrap ((IntKind.u64.wrap (a)) * 2) = (((2 * a).toNat : Nat) : Int) := by rw [IntKind.wrap_u64, IntKind.wrap_u64]; omega
    have e2 : IntKind.u64.wrap (a / 9223372036854775808) = ((0 : Nat) : Int) := by rw [IntKind.wrap_u64]; omega
    rw [e1, e2, u64_xor_nat _ _ (by omega) (by decide), Nat.xor_zero]
    unfold zz; rw [if_pos h0]
  · have e1 : IntKind.u64.wrap ((IntKind.u64.wrap (a)) * 2) = (((2 * a + 18446744073709551616).toNat : Nat) : Int) := by rw [IntKind.wrap_u64, IntKind.wrap_u64]; omega
    have e2 : IntKind.u64.wrap (a / 9223372036854775808) = ((2 ^ 64 - 1 : Nat) : Int) := by rw [IntKind.wrap_u64]; omega
    rw [e1, e2, u64_xor_nat _ _ (by omega) (by decide), Nat.xor_comm, Go.Lib.xor_ones64 _ (by omega)]
    unfold zz; rw [if_neg h0]; omega
theorem wire_S_eq (l : List Int) (a : Int) (k : Nat) (hl : l.length ≤ 17592186044416) (ha : Rg a) (hk : 10 < k) : wire_S.f k l a = some (l ++ leb (zz a)) := by
  unfold wire_S.f
  have := zz_lt ha
  rw [wire_zig a ha, wire_U_eq l _ k hl (by omega) this hk]
  simp
theorem bytesOf_length (s : ByteArray) : (bytesOf s).length = s.size := by
  unfold bytesOf; simp
theorem wire_Text_eq (l : List Int) (s : ByteArray) (k : Nat) (hl : l.length ≤ 1099511627776) (hp : s.size ≤ 1099511627776) (hk : 10 < k) : wire_Text.f k l s = some (l ++ (leb s.size ++ bytesOf s)) := by
  have e0 : wire_room.f l (wrap64 (10 + (s.size : Int))) = some l := by
    rw [wrap64_id _ (by omega) (by omega)]
    unfold wire_room.f; rw [if_pos]; omega
  have e1 : IntKind.u64.wrap (s.size : Int) = (s.size : Int) := wraps_u64 _ (by omega) (by omega)
  unfold wire_Text.f wire_sized_string.f wire_number.f
  rw [e0, Option.bind_some, e1, wire_number_eq 9 l s.size k (by simp; omega) (by omega) (by omega) (by omega)]
  have := leb_length 9 s.size (by simp; omega)
  have h2 : (l ++ leb s.size).length + s.size < 140737488355328 := by simp; omega
  simp only [Option.bind_some, h2, if_true, List.append_assoc]
theorem empty_list : (⟨#[]⟩ : ByteArray).toList = ([] : List UInt8) := by kernel_rfl
end
end Go.Proofs.YtlcibkbpppijdaaDoor.X
