/- The law LawPagePut: its walk and its proof, part 2 of 14. -/
import Derived.Laws.CopyOwn
import Derived.Lib.LazyBuf
import Derived.Test.YtnfdhgfpjamphaaYLawPagePut0
namespace Go.Proofs.Ytnfdhgfpjamphaa.X
section
open Go.RowKit Go.Proofs.YtnfdhgfpjamphaaW.PrintWords Go.Proofs.YtnfdhgfpjamphaaW.PrintLast Go.Proofs.YtnfdhgfpjamphaaW.PrintMore
attribute [local go_sem] max2_int min2_int max_two min_two max_three min_three max_four min_four   -- for this text's walks alone
set_option linter.unusedVariables false
set_option linter.unusedSimpArgs false
def wire_room.f (l0 : List Int) (a1 : Int) : Option (List Int) := if 0 ≤ a1 ∧ (l0.length : Int) + a1 ≤ 281474976710656 then some l0 else none
set_option maxHeartbeats 1000000 in
set_option maxRecDepth 100000 in
theorem wire_room.calls (A0 : Option Addr) (c0 : Nat) (l0 : List Int) (a1 : Int) (r : List Int) (w : World) (hr0 : Kd.C (Kd.int .u8) w A0 l0.length l0) (hc0 : l0.length ≤ c0) (h : wire_room.f l0 a1 = some r) :
    Calls Try.prog 42 #[.slice A0 l0.length c0, .int .i64 a1] w fun e w' => ∃ v0_ : Value, e = .returned (v0_) ∧ Kd.R (Kd.int .u8) 5 w' w.heap.size (fun _ => True) v0_ r ∧ Below w.heap.size w w' := by
  unfold wire_room.f at h
  split at h
  · rename_i hb
    obtain ⟨h0, h1⟩ := hb
    injection h with h
    subst h
    obtain ⟨n, rfl⟩ := Int.eq_ofNat_of_zero_le h0
    obtain ⟨i0, hi, hzz⟩ := Option.map_eq_some_iff.1 info5
    simp only [Prod.mk.injEq] at hzz
    obtain ⟨hz0, hz1, hz2⟩ := hzz
    obtain ⟨m, hm⟩ : ∃ m, m = l0.length := ⟨_, rfl⟩
    have hcell := hr0.2.2
    have hlen : l0.length ≤ 9223372036854775807 := hr0.2.1
    have hmk : ∀ W : World, (Instr.makeSlice 32 (.int .i64 (m : Int)) (.int .i64 ((m : Int) + n))).run Try.prog W = .ok (.slice (some ⟨W.heap.size, 0, none⟩) m (m + n)) (W.alloc (.cells (List.replicate (m + n) (.int .u8 0)).toArray 5)) := by
      intro W
      have hr := run_make (P := Try.prog) W 32 5 i0 (.int .u8 0) Try.underlying32 hi hz0 .i64 .i64 (m : Int) ((m : Int) + n) (by omega) (by omega) (by rw [hz2]; omega) (by omega)
      rw [hr, hz1]
      have e1 : (m : Int).toNat = m := by omega
      have e2 : ((m : Int) + n).toNat = m + n := by omega
      have e3 : madeCells (Value.cells (.int .u8 0)) (m + n) = (List.replicate (m + n) (.int .u8 0)).toArray := by
        apply Array.ext
        · simp [madeCells]
        · intro i h1 h2
          simp [madeCells, Value.cells, Nat.mod_one]
      rw [e1, e2, Nat.mul_one, e3]
    have HMK := Aside0.mk hmk
    have hmn : (m : Int) + n ≤ 281474976710656 := by omega
    have hmz : 0 ≤ (m : Int) := by omega
    have HC := Aside0.mk hcell
    clear hcell hmk hr0
    rw [← hm]
    rw [← hm] at hc0
    have HM := Aside0.mk hm
    have HSZ : (Try.prog.info? 5).map (·.size) = some 1 := by rw [hi]; simp [hz1]
    have HB : Below w.heap.size w (w.alloc (.cells (List.replicate (m + n) (.int .u8 0)).toArray 5)) := (Below.refl _ _).alloc (Nat.le_refl _) _
    obtain ⟨cur, hcur⟩ : ∃ cur : List Value, cur = List.replicate (m + n) (.int .u8 0) := ⟨_, rfl⟩
    rw [← hcur] at HB
    rw [← hcur] at HMK
    have hcl : cur.length = m + n := by rw [hcur, List.length_replicate]
    have HCL := Aside0.mk hcl
    have hmk := HMK.out
    clear hcur hcl hm HMK
    go_enter Try.func42, Try.ntmps42
    go_wp2_with (with_reducible refine wpList_copy_splice rfl (.tmp 13) (.tmp 14) 32 32 rfl 5 Try.underlying32 HSZ _ _ _ _ _ _ rfl rfl w.heap.size 0 cur 5 ?hg (nums .u8 l0) ?hn ?hpos ?hfit ?h1 w.heap.size w ?hb (Nat.le_refl _) ?_)
    case hg => exact heap_alloc_new w _
    case hn => rw [nums_length, ← HM.out]; simp
    case hpos =>
      intro hp
      rw [nums_length] at hp
      obtain ⟨ad, ha, hc⟩ := HC.out hp
      refine ⟨ad, ha, fun j v hj => ?_⟩
      have hjl : j < l0.length := by
        have := (List.getElem?_eq_some_iff.1 hj).1
        rwa [nums_length] at this
      obtain ⟨c, hcl, hcc, hca⟩ := hc j _ (List.getElem?_eq_getElem hjl)
      have hcc' : c = [Value.int .u8 l0[j]] := hcc
      subst hcc'
      have := hca 0 _ rfl
      have hv : v = .int .u8 l0[j] := by
        simp only [nums, List.getElem?_map, List.getElem?_eq_getElem hjl, Option.map_some, Option.some.injEq] at hj
        exact hj.symm
      subst hv
      have h2 : w.cell? (ad.add j) = some (Value.int .u8 l0[j]) := by
        have h3 : j * (Kd.int .u8).sz + 0 = j := by show j * 1 + 0 = j; omega
        rw [h3] at this
        exact this
      exact pw_cell_below HB h2
    case hfit => rw [nums_length, HCL.out, ← HM.out]; omega
    case h1 =>
      intro v hv
      simp only [nums, List.mem_map] at hv
      obtain ⟨x, _, rfl⟩ := hv
      rfl
    case hb => exact HB
    intro w1 hg hb
    go_wp2
    go_ret
    refine ⟨_, rfl, ?_, hb⟩
    refine Kd.R_of_own (enc := Value.int .u8) ?_ (fun _ _ => trivial)
    refine ⟨by simp [encs], .inr ⟨w.heap.size, m + n, _, ?_, Nat.le_refl _, hg.out, ?_, ?_, ?_, ?_⟩⟩
    · rw [HM.out]; rfl
    · rw [← HM.out]; omega
    · unfold maxLen; omega
    · simp [splice, HCL.out, nums_length, ← HM.out]
    · simp [splice, nums, encs, ← HM.out]
  · exact absurd h (by simp)
def wire_number.l0 : Nat → List Int → Int → Option (List Int)
 | 0, _, _ => none
 | k + 1, x0, x1 => if x1 ≥ 128 then (if x0.length < 140737488355328 then (wire_number.l0 k (x0 ++ [Go.bits .or .u8 ((x1) % 256) 128]) (x1 / 128)) else (none)) else (if x0.length < 140737488355328 then (some (x0 ++ [(x1) % 256])) else (none))
def wire_number.f (k : Nat) (l0 : List Int) (a1 : Int) : Option (List Int) := wire_number.l0 k l0 a1
theorem wire_number.mono_l : ∀ k, (∀ y0 y1, LeO (wire_number.l0 k y0 y1) (wire_number.l0 (k + 1) y0 y1))
 | 0 => fun _ _ r h => by simp [wire_number.l0] at h
 | k + 1 => by
  have ih0 := wire_number.mono_l k
  ·intro y0 y1
   unfold wire_number.l0
   repeat' first
   | (with_reducible exact ih0 _ _)
   | (with_reducible exact LeO.refl _)
   | (with_reducible exact LeO.none _)
   | (with_reducible refine LeO.ite ?_ ?_)
   | (with_reducible refine LeO.bind ?_ (fun _ => ?_))
   | exact ih0 _ _
   | exact LeO.none _
   | refine LeO.ite ?_ ?_
   | refine LeO.bind ?_ (fun _ => ?_)
theorem wire_number.mono : ∀ a0 a1 k, LeO (wire_number.f k a0 a1) (wire_number.f (k + 1) a0 a1) := by
 intro a0 a1 k
 have ih0 := wire_number.mono_l k
 unfold wire_number.f
 repeat' first
   | (with_reducible exact ih0 _ _)
   | (with_reducible exact LeO.refl _)
   | (with_reducible exact LeO.none _)
   | (with_reducible refine LeO.ite ?_ ?_)
   | (with_reducible refine LeO.bind ?_ (fun _ => ?_))
   | exact ih0 _ _
   | exact LeO.none _
   | refine LeO.ite ?_ ?_
   | refine LeO.bind ?_ (fun _ => ?_)
set_option maxHeartbeats 8000000 in
set_option maxRecDepth 100000 in
theorem wire_number.calls (k : Nat) (P0_ : Nat → Prop) (u9000_ : Value) (l0 : List Int) (a1 : Int) (r : List Int) (w0 w : World) (hB : Below w0.heap.size w0 w) (ho0 : Kd.R (Kd.int .u8) 5 w w0.heap.size P0_ u9000_ l0) (h : wire_number.f k l0 a1 = some r) :
  Calls Try.prog 44 #[u9000_, .int .u64 a1] w fun e w' => ∃ v0_ : Value, e = .returned (v0_) ∧ Kd.R (Kd.int .u8) 5 w' w0.heap.size (fun k_ => (P0_ k_ ∨ w.heap.size ≤ k_)) v0_ r ∧ Below w0.heap.size w0 w' ∧ Kept w w' (fun k_ => P0_ k_) := by
 have HO0 := Aside0.mk (show Kd.R (Kd.int .u8) 5 w w0.heap.size (fun k_ => (P0_ k_ ∨ w.heap.size ≤ k_)) u9000_ l0 from Kd.R_mono ho0 (fun k_ hk => (.inl hk)))
 have HK := Aside0.mk (Kept.refl w (fun k_ => P0_ k_))
 have HW0 := Aside0.mk hB.size
 have HB := Aside0.mk hB
 clear hB
 have H : (wire_number.l0 k l0 a1) = some r := h
 clear h
 have H' := Aside0.mk H
 clear H
 go_enter Try.func44, Try.ntmps44
 go_wp2
 go_loopg [0, 1] k (fun kq v0 v1 w' => ∃ (x0_1 : List Int) (x1_1 : Int), v1 = .int .u64 x1_1 ∧ Aside0 (wire_number.l0 kq x0_1 x1_1 = some r) ∧ Aside0 (kq ≤ k) ∧ Aside0 (Kd.R (Kd.int .u8) 5 w' w0.heap.size (fun k_ => (P0_ k_ ∨ w.heap.size ≤ k_)) v0 x0_1) ∧ Aside0 (Kept w w' (fun k_ => P0_ k_)) ∧ Aside0 (Below w0.heap.size w0 w'))
 case atStart => exact ⟨(l0), (a1), (by first | rfl | (simp; done) | (simp [*]; done)), H', ⟨Nat.le_refl _⟩, ⟨by (with_reducible repeat (first | apply Kd.R_alloc | apply Kd.R_drewN | apply Kd.R_drew)); exact HO0.out⟩, ⟨by repeat (first | (with_reducible first | exact HK.out | apply Kept.alloc | apply Kept.drewN | apply Kept.drew) | exact HK.out)⟩, ⟨by repeat (first | (with_reducible first | exact HB.out | apply below_alloc | apply pw_below_drewN | apply below_drew1) | exact HB.out)⟩⟩
 case round =>
  clear H'
  try clear p2
  obtain ⟨x0_1, x1_1, rfl, HA, HK1, HO_0, HK, HB⟩ := hrel
  cases gk with
  | zero => exact absurd HA.out (by simp [wire_number.l0])
  | succ k1 =>
   have H := HA.out
   clear HA
   simp only [wire_number.l0] at H
   by_cases c3 : x1_1 ≥ 128
   ·rw [if_pos c3] at H
    have c3b0 : decide (128 ≤ x1_1) = true := decide_eq_true c3
    clear c3
    by_cases c4 : x0_1.length < 140737488355328
    rotate_left
    ·rw [if_neg c4] at H
     exact absurd H (by simp)
    rw [if_pos c4] at H
    have LMc4 := Aside0.mk c4
    clear c4
    obtain ⟨y101, hy101⟩ : ∃ y_ : List Int, y_ = (x0_1 ++ [Go.bits .or .u8 ((x1_1) % 256) 128]) := ⟨_, rfl⟩
    replace H : (wire_number.l0 k1 y101 (x1_1 / 128)) = some r := by first | (rw [hy101]; with_reducible exact H) | (have H2_ := (Option.bind_some _ _).symm.trans H; rw [hy101]; with_reducible exact H2_) | (have H2_ := (Option.bind_some _ _).symm.trans H; with_reducible exact H2_) | with_reducible exact H | (rw [hy101]; exact H) | exact H
    have Ny101 := Aside0.mk hy101
    clear hy101
    have H' := Aside0.mk H
    clear H
    go_wp2_with (first | ((with_reducible refine gate_builtin (b := .append) (xs := #[.tmp 7, .tmp 11]) rfl ?_); at_builtin; refine Kd.R_append (Kd.int .u8) (w0 := w0) w0.heap.size rfl (.tmp 7) (.tmp 11) 32 5 (.int .u8 0) 1 rfl Try.underlying32 info5 rfl (by decide) (by omega) u0 x0_1 (Go.bits .or .u8 ((x1_1) % 256) 128) [.int .u8 (Go.bits .or .u8 ((x1_1) % 256) 128)] (fun k_ => (P0_ k_ ∨ w.heap.size ≤ k_)) (fun _ => False) rfl rfl ?aP (fun _ hk => hk.elim) ?aF ?aO ?aB ?aS ?aL ?_; (case aP => exact rfl); (case aB => exact (xW HB.out)); (case aF => exact (fun k_ hk => (.inr (Nat.le_trans (by first | exact HK.out.1 | exact (show Kept w _ (fun k_ => P0_ k_) from by repeat (first | (with_reducible first | exact HK.out | apply Kept.alloc | apply Kept.drewN | apply Kept.drew) | exact HK.out)).1) hk)))); (case aO => exact (xR HO_0.out)); (case aS => exact (below_size (xW HB.out))); (case aL => have := LMc4.out; omega); intro v102 w5 ho hb hg hat; rw [← Ny101.out] at ho; have n0_ := Aside0.mk (hb); have n1_ := Aside0.mk (Kept.of_grown (S := (fun k_ => P0_ k_)) hg (by repeat (first | (with_reducible first | exact HK.out | apply Kept.alloc | apply Kept.drewN | apply Kept.drew) | exact HK.out)) (fun k_ e_ => (HO_0.out.1 k_ e_))); have n2_ := Aside0.mk (ho); clear HB HK HO_0; revert n0_ n1_ n2_; intro HB HK HO103; clear ho hb hg hat))
    go_roundg k1
    case measure => have := HK1.out; omega
    case rel => exact ⟨(y101), (x1_1 / 128), (by first | rfl | (simp; done) | (simp [*]; done)), H', ⟨by have := HK1.out; omega⟩, ⟨by (with_reducible repeat (first | apply Kd.R_alloc | apply Kd.R_drewN | apply Kd.R_drew)); exact HO103.out⟩, ⟨by repeat (first | (with_reducible first | exact HK.out | apply Kept.alloc | apply Kept.drewN | apply Kept.drew) | exact HK.out)⟩, ⟨by repeat (first | (with_reducible first | exact HB.out | apply below_alloc | apply pw_below_drewN | apply below_drew1) | exact HB.out)⟩⟩
   ·rw [if_neg c3] at H
    have c3b0 : decide (128 ≤ x1_1) = false := decide_eq_false c3
    clear c3
    by_cases c6 : x0_1.length < 140737488355328
    rotate_left
    ·rw [if_neg c6] at H
     exact absurd H (by simp)
    rw [if_pos c6] at H
    have LMc6 := Aside0.mk c6
    clear c6
    obtain ⟨y104, hy104⟩ : ∃ y_ : List Int, y_ = (x0_1 ++ [(x1_1) % 256]) := ⟨_, rfl⟩
    replace H : (some y104) = some r := by first | (rw [hy104]; with_reducible exact H) | (have H2_ := (Option.bind_some _ _).symm.trans H; rw [hy104]; with_reducible exact H2_) | (have H2_ := (Option.bind_some _ _).symm.trans H; with_reducible exact H2_) | with_reducible exact H | (rw [hy104]; exact H) | exact H
    have Ny104 := Aside0.mk hy104
    clear hy104
    obtain rfl := Option.some.inj H
    go_wp2_with (first | ((with_reducible refine gate_builtin (b := .append) (xs := #[.tmp 15, .tmp 18]) rfl ?_); at_builtin; refine Kd.R_append (Kd.int .u8) (w0 := w0) w0.heap.size rfl (.tmp 15) (.tmp 18) 32 5 (.int .u8 0) 1 rfl Try.underlying32 info5 rfl (by decide) (by omega) u0 x0_1 ((x1_1) % 256) [.int .u8 ((x1_1) % 256)] (fun k_ => (P0_ k_ ∨ w.heap.size ≤ k_)) (fun _ => False) rfl rfl ?aP (fun _ hk => hk.elim) ?aF ?aO ?aB ?aS ?aL ?_; (case aP => exact rfl); (case aB => exact (xW HB.out)); (case aF => exact (fun k_ hk => (.inr (Nat.le_trans (by first | exact HK.out.1 | exact (show Kept w _ (fun k_ => P0_ k_) from by repeat (first | (with_reducible first | exact HK.out | apply Kept.alloc | apply Kept.drewN | apply Kept.drew) | exact HK.out)).1) hk)))); (case aO => exact (xR HO_0.out)); (case aS => exact (below_size (xW HB.out))); (case aL => have := LMc6.out; omega); intro v105 w7 ho hb hg hat; rw [← Ny104.out] at ho; have n0_ := Aside0.mk (hb); have n1_ := Aside0.mk (Kept.of_grown (S := (fun k_ => P0_ k_)) hg (by repeat (first | (with_reducible first | exact HK.out | apply Kept.alloc | apply Kept.drewN | apply Kept.drew) | exact HK.out)) (fun k_ e_ => (HO_0.out.1 k_ e_))); have n2_ := Aside0.mk (ho); clear HB HK HO_0; revert n0_ n1_ n2_; intro HB HK HO106; clear ho hb hg hat))
    go_ret
    exact ⟨_, by first | rfl | simp [*], by (with_reducible repeat (first | apply Kd.R_alloc | apply Kd.R_drewN | apply Kd.R_drew)); exact HO106.out, by repeat (first | (with_reducible first | exact HB.out | apply below_alloc | apply pw_below_drewN | apply below_drew1) | exact HB.out), by repeat (first | (with_reducible first | exact HK.out | apply Kept.alloc | apply Kept.drewN | apply Kept.drew) | exact HK.out)⟩
def wire_U.f (k : Nat) (l0 : List Int) (a1 : Int) : Option (List Int) := (wire_room.f l0 10).bind fun t101 => ((wire_number.f k t101 a1).bind fun t104 => (some t104))
theorem wire_U.mono : ∀ a0 a1 k, LeO (wire_U.f k a0 a1) (wire_U.f (k + 1) a0 a1) := by
 intro a0 a1 k
 unfold wire_U.f
 repeat' first
   | (with_reducible exact wire_number.mono _ _ _)
   | (with_reducible exact LeO.refl _)
   | (with_reducible exact LeO.none _)
   | (with_reducible refine LeO.ite ?_ ?_)
   | (with_reducible refine LeO.bind ?_ (fun _ => ?_))
   | exact wire_number.mono _ _ _
   | exact LeO.none _
   | refine LeO.ite ?_ ?_
   | refine LeO.bind ?_ (fun _ => ?_)
set_option maxHeartbeats 8000000 in
set_option maxRecDepth 100000 in
theorem wire_U.calls (k : Nat) (A0 : Option Addr) (c0 : Nat) (l0 : List Int) (a1 : Int) (r : List Int) (w : World) (hr0 : Kd.C (Kd.int .u8) w A0 l0.length l0) (hc0 : l0.length ≤ c0) (h : wire_U.f k l0 a1 = some r) :
  Calls Try.prog 35 #[.slice A0 l0.length c0, .int .u64 a1] w fun e w' => ∃ v0_ : Value, e = .returned (v0_) ∧ Kd.R (Kd.int .u8) 5 w' w.heap.size (fun _ => True) v0_ r ∧ Below w.heap.size w w' := by
 have HR0 := Aside0.mk hr0
 have HC0 := Aside0.mk hc0
 clear hr0 hc0
 have HB := Aside0.mk (Below.refl w.heap.size w)
 have H : ((wire_room.f l0 10).bind fun t101 => ((wire_number.f k t101 a1).bind fun t104 => (some t104))) = some r := h
 clear h
 replace H := Option.bind_eq_some_iff.mp H
 obtain ⟨t101, A30, H⟩ := H
 (try dsimp only at H)
 have A3 := Aside0.mk A30
 clear A30
 replace H := Option.bind_eq_some_iff.mp H
 obtain ⟨t104, A40, H⟩ := H
 replace H : (some t104) = some r := H
 have A4 := Aside0.mk A40
 clear A40
 obtain rfl := Option.some.inj H
 go_enter Try.func35, Try.ntmps35
 go_wp2_with (first | ((with_reducible refine gate_callee (f := 42) rfl ?_); refine goesL_ (some 6) rfl rfl Try.func42 (by kernel_rfl) rfl #[.slice A0 l0.length c0, .int .i64 10] rfl (by (try simp only [List.map_toArray, List.map_cons, List.map_nil]) <;> rfl) ?_; (with_reducible refine (wire_room.calls _ _ l0 10 t101 _ ?side1 ?side2 A3.out).mono ?_); (case side1 => exact xC HR0.out); (case side2 => exact HC0.out); rintro e w5 ⟨v102, rfl, ho0, hb⟩; refine ⟨_, rfl, ?_⟩; have n0_ := Aside0.mk (Kd.R_lower ho0 (below_size (xW HB.out))); have n1_ := Aside0.mk (below_step (xW HB.out) hb); clear HB; revert n0_ n1_; intro HO103 HB; (try clear hb); (try clear ho0); obtain ⟨Ao6, co6, eo6⟩ := Kd.R_slice HO103.out; subst eo6) | ((with_reducible refine gate_callee (f := 44) rfl ?_); refine goesL_ (some 8) rfl rfl Try.func44 (by kernel_rfl) rfl #[.slice Ao6 t101.length co6, .int .u64 a1] rfl (by (try simp only [List.map_toArray, List.map_cons, List.map_nil]) <;> rfl) ?_; (with_reducible refine (wire_number.calls k (fun k_ => some k_ = (.slice Ao6 t101.length co6 : Value).ownBlock) (.slice Ao6 t101.length co6) t101 a1 t104 w _ ?side1 ?side2 A4.out).mono ?_); (case side1 => repeat (first | (with_reducible first | exact HB.out | apply below_alloc | apply pw_below_drewN | apply below_drew1) | exact HB.out)); (case side2 => exact Kd.R_tight rfl HO103.out); rintro e w7 ⟨v105, rfl, ho0, hb, hkp⟩; refine ⟨_, rfl, ?_⟩; have n0_ := Aside0.mk (Kd.R_mono (ok' := fun k_ => True) ho0 (fun k_ hk_ => trivial)); have n1_ := Aside0.mk (hb); clear HB HO103; revert n0_ n1_; intro HO106 HB; (try clear hb); (try clear hkp); (try clear ho0)))
 go_ret
 exact ⟨_, by first | rfl | simp [*], by (with_reducible repeat (first | apply Kd.R_alloc | apply Kd.R_drewN | apply Kd.R_drew)); exact HO106.out, by repeat (first | (with_reducible first | exact HB.out | apply below_alloc | apply pw_below_drewN | apply below_drew1) | exact HB.out)⟩
def wire_S.f (k : Nat) (l0 : List Int) (a1 : Int) : Option (List Int) := (wire_U.f k l0 (Go.bits .xor .u64 (IntKind.u64.wrap ((IntKind.u64.wrap (a1)) * 2)) (IntKind.u64.wrap (a1 / 9223372036854775808)))).bind fun t101 => (some t101)
theorem wire_S.mono : ∀ a0 a1 k, LeO (wire_S.f k a0 a1) (wire_S.f (k + 1) a0 a1) := by
 intro a0 a1 k
 unfold wire_S.f
 repeat' first
   | (with_reducible exact wire_U.mono _ _ _)
   | (with_reducible exact LeO.refl _)
   | (with_reducible exact LeO.none _)
   | (with_reducible refine LeO.ite ?_ ?_)
   | (with_reducible refine LeO.bind ?_ (fun _ => ?_))
   | exact wire_U.mono _ _ _
   | exact LeO.none _
   | refine LeO.ite ?_ ?_
   | refine LeO.bind ?_ (fun _ => ?_)
set_option maxHeartbeats 8000000 in
set_option maxRecDepth 100000 in
theorem wire_S.calls (k : Nat) (A0 : Option Addr) (c0 : Nat) (l0 : List Int) (a1 : Int) (r : List Int) (w : World) (hr0 : Kd.C (Kd.int .u8) w A0 l0.length l0) (hc0 : l0.length ≤ c0) (h : wire_S.f k l0 a1 = some r) :
  Calls Try.prog 67 #[.slice A0 l0.length c0, .int .i64 a1] w fun e w' => ∃ v0_ : Value, e = .returned (v0_) ∧ Kd.R (Kd.int .u8) 5 w' w.heap.size (fun _ => True) v0_ r ∧ Below w.heap.size w w' := by
 have HR0 := Aside0.mk hr0
 have HC0 := Aside0.mk hc0
 clear hr0 hc0
 have HB := Aside0.mk (Below.refl w.heap.size w)
 have H : ((wire_U.f k l0 (Go.bits .xor .u64 (IntKind.u64.wrap ((IntKind.u64.wrap (a1)) * 2)) (IntKind.u64.wrap (a1 / 9223372036854775808)))).bind fun t101 => (some t101)) = some r := h
 clear h
 replace H := Option.bind_eq_some_iff.mp H
 obtain ⟨t101, A30, H⟩ := H
 replace H : (some t101) = some r := H
 have A3 := Aside0.mk A30
 clear A30
 obtain rfl := Option.some.inj H
 go_enter Try.func67, Try.ntmps67
 go_wp2_with (first | ((with_reducible refine gate_callee (f := 35) rfl ?_); refine goesL_ (some 13) rfl rfl Try.func35 (by kernel_rfl) rfl #[.slice A0 l0.length c0, .int .u64 (Go.bits .xor .u64 (IntKind.u64.wrap ((IntKind.u64.wrap (a1)) * 2)) (IntKind.u64.wrap (a1 / 9223372036854775808)))] rfl (by (try simp only [List.map_toArray, List.map_cons, List.map_nil]) <;> rfl) ?_; (with_reducible refine (wire_U.calls k _ _ l0 (Go.bits .xor .u64 (IntKind.u64.wrap ((IntKind.u64.wrap (a1)) * 2)) (IntKind.u64.wrap (a1 / 9223372036854775808))) t101 _ ?side1 ?side2 A3.out).mono ?_); (case side1 => exact xC HR0.out); (case side2 => exact HC0.out); rintro e w4 ⟨v102, rfl, ho0, hb⟩; refine ⟨_, rfl, ?_⟩; have n0_ := Aside0.mk (Kd.R_lower ho0 (below_size (xW HB.out))); have n1_ := Aside0.mk (below_step (xW HB.out) hb); clear HB; revert n0_ n1_; intro HO103 HB; (try clear hb); (try clear ho0)))
 go_ret
 exact ⟨_, by first | rfl | simp [*], by (with_reducible repeat (first | apply Kd.R_alloc | apply Kd.R_drewN | apply Kd.R_drew)); exact HO103.out, by repeat (first | (with_reducible first | exact HB.out | apply below_alloc | apply pw_below_drewN | apply below_drew1) | exact HB.out)⟩
def page_delta_encode.l0 : Nat → List Int → Int → List (S26) → Int → Int → Option (List Int)
 | 0, _, _, _, _, _ => none
 | k + 1, x7, x8, x15, x16, x17 => if x17 < x16 then (if 0 ≤ x17 then (if x17 < (x15.length : Int) then (if ((rd_T26 x15 x17).f0 = true) then (page_delta_encode.l0 k x7 x8 x15 x16 (wrap64 (x17 + 1))) else ((wire_S.f k x7 (wrap64 (((rd_T26 x15 x17).f1) - x8))).bind fun t107 => (page_delta_encode.l0 k t107 ((rd_T26 x15 x17).f1) x15 x16 (wrap64 (x17 + 1))))) else (none)) else (none)) else (some x7)
def page_delta_encode.f (k : Nat)  (l1 : List (S26)) (a2 : Int) : Option (List Int) := (page_masked_mask.f k l1).bind fun t102 => (page_delta_encode.l0 k t102 0 l1 (l1.length : Int) 0)
theorem page_delta_encode.mono_l : ∀ k, (∀ y0 y1 y2 y3 y4, LeO (page_delta_encode.l0 k y0 y1 y2 y3 y4) (page_delta_encode.l0 (k + 1) y0 y1 y2 y3 y4))
 | 0 => fun _ _ _ _ _ r h => by simp [page_delta_encode.l0] at h
 | k + 1 => by
  have ih0 := page_delta_encode.mono_l k
  ·intro y0 y1 y2 y3 y4
   unfold page_delta_encode.l0
   repeat' first
   | (with_reducible exact ih0 _ _ _ _ _)
   | (with_reducible exact page_masked_mask.mono _ _)
   | (with_reducible exact wire_S.mono _ _ _)
   | (with_reducible exact LeO.refl _)
   | (with_reducible exact LeO.none _)
   | (with_reducible refine LeO.ite ?_ ?_)
   | (with_reducible refine LeO.bind ?_ (fun _ => ?_))
   | exact ih0 _ _ _ _ _
   | exact page_masked_mask.mono _ _
   | exact wire_S.mono _ _ _
   | exact LeO.none _
   | refine LeO.ite ?_ ?_
   | refine LeO.bind ?_ (fun _ => ?_)
theorem page_delta_encode.mono : ∀ a0 a1 k, LeO (page_delta_encode.f k a0 a1) (page_delta_encode.f (k + 1) a0 a1) := by
 intro a0 a1 k
 have ih0 := page_delta_encode.mono_l k
 unfold page_delta_encode.f
 repeat' first
   | (with_reducible exact ih0 _ _ _ _ _)
   | (with_reducible exact page_masked_mask.mono _ _)
   | (with_reducible exact wire_S.mono _ _ _)
   | (with_reducible exact LeO.refl _)
   | (with_reducible exact LeO.none _)
   | (with_reducible refine LeO.ite ?_ ?_)
   | (with_reducible refine LeO.bind ?_ (fun _ => ?_))
   | exact ih0 _ _ _ _ _
   | exact page_masked_mask.mono _ _
   | exact wire_S.mono _ _ _
   | exact LeO.none _
   | refine LeO.ite ?_ ?_
   | refine LeO.bind ?_ (fun _ => ?_)
set_option maxHeartbeats 8000000 in
set_option maxRecDepth 100000 in
theorem page_delta_encode.calls (k : Nat)  (A1 : Option Addr) (c1 : Nat) (l1 : List (S26)) (a2 : Int) (r : List Int) (w : World) (hr1 : Kd.C k26 w A1 l1.length l1) (hc1 : l1.length ≤ c1) (h : page_delta_encode.f k l1 a2 = some r) :
  Calls Try.prog 106 #[.agg #[], .slice A1 l1.length c1, .int .i64 a2] w fun e w' => ∃ v0_ : Value, e = .returned (v0_) ∧ Kd.R (Kd.int .u8) 5 w' w.heap.size (fun _ => True) v0_ r ∧ Below w.heap.size w w' := by
 have hu79 := Try.underlying79
 have hu75 := Try.underlying75
 have hu26 := Try.underlying26
 have HR1 := Aside0.mk hr1
 have HC1 := Aside0.mk hc1
 clear hr1 hc1
 have HB := Aside0.mk (Below.refl w.heap.size w)
 have H : ((page_masked_mask.f k l1).bind fun t102 => (page_delta_encode.l0 k t102 0 l1 (l1.length : Int) 0)) = some r := h
 clear h
 replace H := Option.bind_eq_some_iff.mp H
 obtain ⟨t102, A40, H⟩ := H
 (try dsimp only at H)
 have A4 := Aside0.mk A40
 clear A40
 have H' := Aside0.mk H
 clear H
 go_enter Try.func106, Try.ntmps106
 go_wp2_with (first | ((with_reducible refine gate_dst (N := 3) rfl ?_); refine box_event ?hg (N := 3) ?hd (cs := #[]) (t := 79) ?hr ?_; (case hd => rfl); (case hg => rfl); (case hr => first | (go_simp; done) | (go_simp; rfl)); intro gb101 hg w5 hbox hb; have n0_ := Aside0.mk (below_step (xW HB.out) hb); have n1_ := Aside0.mk (hbox); have n3_ := Aside0.mk ((by rw [hg]; exact (below_size (xW HB.out)) : w.heap.size ≤ gb101)); clear HB; revert n0_ n1_ n3_; intro HB BK101 GE101; clear hb hbox hg) | ((with_reducible refine gate_callee (f := 61) rfl ?_); refine goesL_ (some 14) rfl rfl Try.func61 (by kernel_rfl) rfl #[.agg #[], .slice A1 l1.length c1] rfl (by (try simp only [List.map_toArray, List.map_cons, List.map_nil]) <;> rfl) ?_; (with_reducible refine (page_masked_mask.calls k  _ _ l1 t102 _ ?side1 ?side2 A4.out).mono ?_); (case side1 => exact xC (Kd.C_below HR1.out HB.out)); (case side2 => exact HC1.out); rintro e w7 ⟨v103, rfl, ho0, hb⟩; refine ⟨_, rfl, ?_⟩; have n0_ := Aside0.mk (Kd.R_lower ho0 (below_size (xS HB.out (ge GE101.out g0)))); have n1_ := Aside0.mk (blk_below (xB BK101.out) hb); have n2_ := Aside0.mk (below_step (xS HB.out (ge GE101.out g0)) hb); clear BK101 HB; revert n0_ n1_ n2_; intro HO104 BK101 HB; (try clear hb); (try clear ho0)))
 rw [part_delta _ BK101.out]
 simp only [Result.andThen]
 rw [Oper.upon_value]
 go_wp2_with (first | ((with_reducible refine gate_dst (N := 3) rfl ?_); refine box_event ?hg (N := 3) ?hd (cs := #[]) (t := 79) ?hr ?_; (case hd => rfl); (case hg => rfl); (case hr => first | (go_simp; done) | (go_simp; rfl)); intro gb101 hg w5 hbox hb; have n0_ := Aside0.mk (below_step (xW HB.out) hb); have n1_ := Aside0.mk (hbox); have n3_ := Aside0.mk ((by rw [hg]; exact (below_size (xW HB.out)) : w.heap.size ≤ gb101)); clear HB; revert n0_ n1_ n3_; intro HB BK101 GE101; clear hb hbox hg) | ((with_reducible refine gate_callee (f := 61) rfl ?_); refine goesL_ (some 14) rfl rfl Try.func61 (by kernel_rfl) rfl #[.agg #[], .slice A1 l1.length c1] rfl (by (try simp only [List.map_toArray, List.map_cons, List.map_nil]) <;> rfl) ?_; (with_reducible refine (page_masked_mask.calls k  _ _ l1 t102 _ ?side1 ?side2 A4.out).mono ?_); (case side1 => exact xC (Kd.C_below HR1.out HB.out)); (case side2 => exact HC1.out); rintro e w7 ⟨v103, rfl, ho0, hb⟩; refine ⟨_, rfl, ?_⟩; have n0_ := Aside0.mk (Kd.R_lower ho0 (below_size (xS HB.out (ge GE101.out g0)))); have n1_ := Aside0.mk (blk_below (xB BK101.out) hb); have n2_ := Aside0.mk (below_step (xS HB.out (ge GE101.out g0)) hb); clear BK101 HB; revert n0_ n1_ n2_; intro HO104 BK101 HB; (try clear hb); (try clear ho0)))
 go_loopg [7, 8, 17] k (fun kq v7 v8 v17 w' => ∃ (x7_1 : List Int) (x8_1 : Int) (x17_1 : Int), v8 = .int .i64 x8_1 ∧ v17 = .int .i64 x17_1 ∧ Aside0 (page_delta_encode.l0 kq x7_1 x8_1 l1 (l1.length : Int) x17_1 = some r) ∧ Aside0 (kq ≤ k) ∧ Aside0 (Kd.R (Kd.int .u8) 5 w' w.heap.size (fun _ => True) v7 x7_1) ∧ Aside0 (w'.heap[gb101]? = some (.cells #[] 79 (0, 0))) ∧ Aside0 (Below w.heap.size w w'))
 case atStart => exact ⟨(t102), (0), (0), (by first | rfl | (simp; done) | (simp [*]; done)), (by first | rfl | (simp; done) | (simp [*]; done)), H', ⟨Nat.le_refl _⟩, ⟨by (with_reducible repeat (first | apply Kd.R_alloc | apply Kd.R_drewN | apply Kd.R_drew)); exact HO104.out⟩, ⟨by (with_reducible repeat (first | refine blk_drewN ?_ _ | refine blk_drew ?_ | refine blk_alloc ?_ _)); exact BK101.out⟩, ⟨by repeat (first | (with_reducible first | exact HB.out | apply below_alloc | apply pw_below_drewN | apply below_drew1 | refine below_set ?_ GE101.out) | exact HB.out)⟩⟩
 case round =>
  clear H'
  try clear c1
  try clear p2
  try clear c6
  obtain ⟨x7_1, x8_1, x17_1, rfl, rfl, HA, HK1, HO_7, BK101, HB⟩ := hrel
  cases gk with
  | zero => exact absurd HA.out (by simp [page_delta_encode.l0])
  | succ k1 =>
   have H := HA.out
   clear HA
   simp only [page_delta_encode.l0] at H
   by_cases c8 : x17_1 < (l1.length : Int)
   rotate_left
   ·rw [if_neg c8] at H
    have c8b0 : decide (x17_1 < (l1.length : Int)) = false := decide_eq_false c8
    clear c8
    obtain rfl := Option.some.inj H
    go_wp2
    go_ret
    exact ⟨_, by first | rfl | simp [*], by (with_reducible repeat (first | apply Kd.R_alloc | apply Kd.R_drewN | apply Kd.R_drew)); exact HO_7.out, by repeat (first | (with_reducible first | exact HB.out | apply below_alloc | apply pw_below_drewN | apply below_drew1 | refine below_set ?_ GE101.out) | exact HB.out)⟩
   rw [if_pos c8] at H
   have c8b0 : decide (x17_1 < (l1.length : Int)) = true := decide_eq_true c8
   clear c8
   by_cases c9 : 0 ≤ x17_1
   rotate_left
   ·rw [if_neg c9] at H
    exact absurd H (by simp)
   rw [if_pos c9] at H
   have c9b0 : decide (0 ≤ x17_1) = true := decide_eq_true c9
   clear c9
   by_cases c10 : x17_1 < (l1.length : Int)
   rotate_left
   ·rw [if_neg c10] at H
    exact absurd H (by simp)
   rw [if_pos c10] at H
   have c10b0 : decide (x17_1 < (l1.length : Int)) = true := decide_eq_true c10
   clear c10
   obtain ⟨bq11, hbq11⟩ : ∃ b_ : Bool, b_ = ((rd_T26 l1 x17_1).f0) := ⟨_, rfl⟩
   replace H : (if (bq11 = true) then (page_delta_encode.l0 k1 x7_1 x8_1 l1 (l1.length : Int) (wrap64 (x17_1 + 1))) else ((wire_S.f k1 x7_1 (wrap64 (((rd_T26 l1 x17_1).f1) - x8_1))).bind fun t107 => (page_delta_encode.l0 k1 t107 ((rd_T26 l1 x17_1).f1) l1 (l1.length : Int) (wrap64 (x17_1 + 1))))) = some r := by rw [← hbq11] at H; exact H
   have Nbq11 := Aside0.mk hbq11
   clear hbq11
   by_cases c12 : (bq11 = true)
   ·subst c12
    rw [if_pos rfl] at H
    have H' := Aside0.mk H
    clear H
    have p105 : 0 ≤ (x17_1 : Int) := of_decide_eq_true (by first | (with_reducible assumption) | assumption)
    have q105 : x17_1 < (l1.length : Int) := of_decide_eq_true (by first | (with_reducible assumption) | assumption)
    obtain ⟨ad105, e105, hx105_0, hx105_1, hx105_2⟩ := at_T26 HR1.out x17_1 p105 q105
    (try rw [← Nbq11.out] at hx105_0)
    cases e105
    replace hx105_0 := (HB.out.cell (World.block_lt_of_cell? w _ hx105_0)).trans hx105_0
    replace hx105_1 := (HB.out.cell (World.block_lt_of_cell? w _ hx105_1)).trans hx105_1
    replace hx105_2 := (HB.out.cell (World.block_lt_of_cell? w _ hx105_2)).trans hx105_2
    replace p105 := eq_true p105
    replace q105 := eq_true q105
    go_wp2_with (first | ((with_reducible refine gate_dst (N := 10) rfl ?_); refine box_event ?hg (N := 10) ?hd (cs := #[.bool false, .int .i64 0, .string (⟨#[]⟩ : ByteArray)]) (t := 26) ?hr ?_; (case hd => rfl); (case hg => rfl); (case hr => first | (go_simp; done) | (go_simp; rfl)); intro gb106 hg w13 hbox hb; have n0_ := Aside0.mk (Kd.R_below (xR HO_7.out) hb); have n1_ := Aside0.mk (blk_below (xB BK101.out) hb); have n2_ := Aside0.mk (below_step (xS HB.out (ge GE101.out g0)) hb); have n3_ := Aside0.mk (hbox); have n5_ := Aside0.mk ((by rw [hg]; exact (below_size (xS HB.out (ge GE101.out g0))) : w.heap.size ≤ gb106)); have n6_ := Aside0.mk ((by rw [hg]; exact Nat.ne_of_lt (blk_lt (xB BK101.out)) : gb101 ≠ gb106)); have n7_ := Aside0.mk ((by rw [hg]; exact Nat.ne_of_gt (blk_lt (xB BK101.out)) : gb106 ≠ gb101)); clear HO_7 BK101 HB; revert n0_ n1_ n2_ n3_ n5_ n6_ n7_; intro HO_7 BK101 HB BK106 GE106 NB101_106 NB106_101; clear hb hbox hg; have hnb14 := NB106_101.out; have hnc14 := NB101_106.out; have hcz15_0 : w13.cell? ⟨gb106, 0, none⟩ = some (.bool false) := (blk_cell BK106.out 0).trans rfl; have hcz15_1 : w13.cell? ⟨gb106, 1, none⟩ = some (.int .i64 0) := (blk_cell BK106.out 1).trans rfl; have hcz15_2 : w13.cell? ⟨gb106, 2, none⟩ = some (.string (⟨#[]⟩ : ByteArray)) := (blk_cell BK106.out 2).trans rfl; have hfz15_0 := blk_frozen BK106.out 0; have hfz15_1 := blk_frozen BK106.out 1; have hfz15_2 := blk_frozen BK106.out 2))
    go_roundg k1
    case measure => have := HK1.out; omega
    case rel => exact ⟨(x7_1), (x8_1), (wrap64 (x17_1 + 1)), (by first | rfl | (simp; done) | (simp [*]; done)), (by first | rfl | (simp; done) | (simp [*]; done)), H', ⟨by have := HK1.out; omega⟩, ⟨by (with_reducible repeat (first | apply Kd.R_alloc | apply Kd.R_drewN | apply Kd.R_drew)); exact Kd.R_mono (Kd.R_far (p := ⟨gb106, 2, none⟩) (Kd.R_far (p := ⟨gb106, 1, none⟩) (Kd.R_far (p := ⟨gb106, 0, none⟩) (Kd.R_types HO_7.out BK106.out (by decide)) (fun _ hk => hk.2) (.bool true)) (fun _ hk => hk.2) (.int .i64 ((rd_T26 l1 x17_1).f1))) (fun _ hk => hk.2) (.string ((rd_T26 l1 x17_1).f2))) (fun _ hk => trivial)⟩, ⟨by (with_reducible repeat (first | refine blk_drewN ?_ _ | refine blk_drew ?_ | refine blk_alloc ?_ _)); refine blk_far ?_ NB101_106.out _; (with_reducible repeat (first | refine blk_drewN ?_ _ | refine blk_drew ?_ | refine blk_alloc ?_ _)); refine blk_far ?_ NB101_106.out _; (with_reducible repeat (first | refine blk_drewN ?_ _ | refine blk_drew ?_ | refine blk_alloc ?_ _)); refine blk_far ?_ NB101_106.out _; (with_reducible repeat (first | refine blk_drewN ?_ _ | refine blk_drew ?_ | refine blk_alloc ?_ _)); exact BK101.out⟩, ⟨by repeat (first | (with_reducible first | exact HB.out | apply below_alloc | apply pw_below_drewN | apply below_drew1 | refine below_set ?_ GE101.out | refine below_set ?_ GE106.out) | exact HB.out)⟩⟩
   ·replace c12 := Bool.eq_false_iff.mpr c12
    subst c12
    rw [if_neg (show ¬ (false = true) by decide)] at H
    replace H := Option.bind_eq_some_iff.mp H
    obtain ⟨t107, A160, H⟩ := H
    (try dsimp only at H)
    have A16 := Aside0.mk A160
    clear A160
    have H' := Aside0.mk H
    clear H
    have p105 : 0 ≤ (x17_1 : Int) := of_decide_eq_true (by first | (with_reducible assumption) | assumption)
    have q105 : x17_1 < (l1.length : Int) := of_decide_eq_true (by first | (with_reducible assumption) | assumption)
    obtain ⟨ad105, e105, hx105_0, hx105_1, hx105_2⟩ := at_T26 HR1.out x17_1 p105 q105
    (try rw [← Nbq11.out] at hx105_0)
    cases e105
    replace hx105_0 := (HB.out.cell (World.block_lt_of_cell? w _ hx105_0)).trans hx105_0
    replace hx105_1 := (HB.out.cell (World.block_lt_of_cell? w _ hx105_1)).trans hx105_1
    replace hx105_2 := (HB.out.cell (World.block_lt_of_cell? w _ hx105_2)).trans hx105_2
    replace p105 := eq_true p105
    replace q105 := eq_true q105
    go_wp2_with (first | ((with_reducible refine gate_dst (N := 10) rfl ?_); refine box_event ?hg (N := 10) ?hd (cs := #[.bool false, .int .i64 0, .string (⟨#[]⟩ : ByteArray)]) (t := 26) ?hr ?_; (case hd => rfl); (case hg => rfl); (case hr => first | (go_simp; done) | (go_simp; rfl)); intro gb106 hg w17 hbox hb; have n0_ := Aside0.mk (Kd.R_below (xR HO_7.out) hb); have n1_ := Aside0.mk (blk_below (xB BK101.out) hb); have n2_ := Aside0.mk (below_step (xS HB.out (ge GE101.out g0)) hb); have n3_ := Aside0.mk (hbox); have n5_ := Aside0.mk ((by rw [hg]; exact (below_size (xS HB.out (ge GE101.out g0))) : w.heap.size ≤ gb106)); have n6_ := Aside0.mk ((by rw [hg]; exact Nat.ne_of_lt (blk_lt (xB BK101.out)) : gb101 ≠ gb106)); have n7_ := Aside0.mk ((by rw [hg]; exact Nat.ne_of_gt (blk_lt (xB BK101.out)) : gb106 ≠ gb101)); clear HO_7 BK101 HB; revert n0_ n1_ n2_ n3_ n5_ n6_ n7_; intro HO_7 BK101 HB BK106 GE106 NB101_106 NB106_101; clear hb hbox hg; have hnb18 := NB106_101.out; have hnc18 := NB101_106.out; have hcz19_0 : w17.cell? ⟨gb106, 0, none⟩ = some (.bool false) := (blk_cell BK106.out 0).trans rfl; have hcz19_1 : w17.cell? ⟨gb106, 1, none⟩ = some (.int .i64 0) := (blk_cell BK106.out 1).trans rfl; have hcz19_2 : w17.cell? ⟨gb106, 2, none⟩ = some (.string (⟨#[]⟩ : ByteArray)) := (blk_cell BK106.out 2).trans rfl; have hfz19_0 := blk_frozen BK106.out 0; have hfz19_1 := blk_frozen BK106.out 1; have hfz19_2 := blk_frozen BK106.out 2; obtain ⟨Ao20, co20, eo20⟩ := Kd.R_slice HO_7.out; subst eo20) | ((with_reducible refine gate_callee (f := 67) rfl ?_); refine goesL_ (some 29) rfl rfl Try.func67 (by kernel_rfl) rfl #[.slice Ao20 x7_1.length co20, .int .i64 (wrap64 (((rd_T26 l1 x17_1).f1) - x8_1))] rfl (by (try simp only [List.map_toArray, List.map_cons, List.map_nil]) <;> rfl) ?_; (with_reducible refine (wire_S.calls k1 _ _ x7_1 (wrap64 (((rd_T26 l1 x17_1).f1) - x8_1)) t107 _ ?side1 ?side2 A16.out).mono ?_); (case side1 => refine (Kd.R_reads' (e := 5) (base := w.heap.size) (ok := fun k_ => True) (n := x7_1.length) (c := co20) ?_).2.2; exact (xT HO_7.out BK106.out (by decide))); (case side2 => exact (Kd.R_reads' HO_7.out).2.1); rintro e w21 ⟨v108, rfl, ho0, hb⟩; refine ⟨_, rfl, ?_⟩; have n1_ := Aside0.mk (Kd.R_lower (Kd.R_new' ho0 (Kd.R_lt (xT HO_7.out BK106.out (by decide)))) (below_size (xS HB.out (ge GE101.out (ge GE106.out g0))))); have n2_ := Aside0.mk (blk_below (xF BK101.out (ge NB101_106.out g0)) hb); have n3_ := Aside0.mk (blk_below (g := gb106) (o := .cells #[.bool false, .int .i64 ((rd_T26 l1 x17_1).f1), .string ((rd_T26 l1 x17_1).f2)] 26 (0, 0)) (xP BK106.out g0 rfl) hb); have n4_ := Aside0.mk (below_step (xS HB.out (ge GE101.out (ge GE106.out g0))) hb); clear HO_7 BK101 BK106 HB; revert n1_ n2_ n3_ n4_; intro HO109 BK101 BK106 HB; (try clear hb); (try clear ho0); have hcz22_0 : w21.cell? ⟨gb106, 0, none⟩ = some (.bool false) := (blk_cell BK106.out 0).trans rfl; have hcz22_1 : w21.cell? ⟨gb106, 1, none⟩ = some (.int .i64 ((rd_T26 l1 x17_1).f1)) := (blk_cell BK106.out 1).trans rfl; have hcz22_2 : w21.cell? ⟨gb106, 2, none⟩ = some (.string ((rd_T26 l1 x17_1).f2)) := (blk_cell BK106.out 2).trans rfl; have hfz22_0 := blk_frozen BK106.out 0; have hfz22_1 := blk_frozen BK106.out 1; have hfz22_2 := blk_frozen BK106.out 2))
    go_roundg k1
    case measure => have := HK1.out; omega
    case rel => exact ⟨(t107), ((rd_T26 l1 x17_1).f1), (wrap64 (x17_1 + 1)), (by first | rfl | (simp; done) | (simp [*]; done)), (by first | rfl | (simp; done) | (simp [*]; done)), H', ⟨by have := HK1.out; omega⟩, ⟨by (with_reducible repeat (first | apply Kd.R_alloc | apply Kd.R_drewN | apply Kd.R_drew)); exact Kd.R_mono HO109.out (fun _ hk => trivial)⟩, ⟨by (with_reducible repeat (first | refine blk_drewN ?_ _ | refine blk_drew ?_ | refine blk_alloc ?_ _)); exact BK101.out⟩, ⟨by repeat (first | (with_reducible first | exact HB.out | apply below_alloc | apply pw_below_drewN | apply below_drew1 | refine below_set ?_ GE101.out | refine below_set ?_ GE106.out) | exact HB.out)⟩⟩
def slices_Clone_api_Value_api_Value.f (l0 : List (S26)) : Option (List (S26)) := if l0.length * 32 ≤ 140737488355328 then some l0 else none
set_option maxHeartbeats 8000000 in
set_option maxRecDepth 100000 in
theorem slices_Clone_api_Value_api_Value.calls (A0 : Option Addr) (c0 : Nat) (l0 : List (S26)) (r : List (S26)) (w : World) (hr0 : Kd.C k26 w A0 l0.length l0) (hc0 : l0.length ≤ c0) (h : slices_Clone_api_Value_api_Value.f l0 = some r) :
    Calls Try.prog 75 #[.slice A0 l0.length c0] w fun e w' => ∃ v0_ : Value, e = .returned (v0_) ∧ Kd.R k26 26 w' w.heap.size (fun _ => True) v0_ r ∧ Below w.heap.size w w' := by
  unfold slices_Clone_api_Value_api_Value.f at h
  split at h
  · rename_i hb
    injection h with h
    subst h
    have hq := fun (W : World) => run_eql_slice_nil (P := Try.prog) W 22 26 A0 l0.length c0 Try.underlying22
    rcases A0 with _ | ad
    · have h0 : l0.length = 0 := by
        rcases Nat.eq_zero_or_pos l0.length with h | h
        · exact h
        · obtain ⟨ad, h, _⟩ := hr0.2.2 h
          cases h
      obtain rfl : l0 = [] := List.eq_nil_of_length_eq_zero h0
      simp only [Option.isNone_none, List.length_nil] at hq ⊢
      clear hr0 hc0 h0 hb
      go_enter Try.func75, Try.ntmps75
      go_wp2
      go_ret
      exact ⟨_, rfl, Kd.R_nil _ _ _ _ _, Below.refl _ _⟩
    · simp only [Option.isNone_some] at hq
      have HR0 := Aside0.mk hr0
      have HC0 := Aside0.mk hc0
      clear hr0 hc0
      have HB := Aside0.mk (Below.refl w.heap.size w)
      have LM := Aside0.mk hb
      clear hb
      go_enter Try.func75, Try.ntmps75
      go_wp2_with (first | ((with_reducible refine gate_dst (N := 5) rfl ?_); refine Kd.R_lit k26 _ 26 ?hg (N := 5) ?hd (xs := ([] : List (S26))) (inner := []) (ok := fun _ => True) (okp := fun _ => True) ?hr ?hp (fun _ hk => hk) trivial (Below.refl _ _) (Nat.le_refl _) (by simp) ?_; (case hd => rfl); (case hg => rfl); (case hr => first | (go_simp; done) | (go_simp; rfl)); (case hp => exact (Reps.none _ _)); intro v235 w5 ho6 hb hg_ hnew_; clear hg_ hnew_; have n0_ := Aside0.mk (Kd.R_lower ho6 (below_size (by repeat (first | (with_reducible first | exact HB.out | apply below_alloc | apply pw_below_drewN | apply below_drew1) | exact HB.out)))); have n1_ := Aside0.mk (below_step (by repeat (first | (with_reducible first | exact HB.out | apply below_alloc | apply pw_below_drewN | apply below_drew1) | exact HB.out)) hb); clear HB; have HO236 := n0_; have HB := n1_; clear n0_ n1_; clear hb ho6) | ((with_reducible refine gate_builtin (b := .append) (xs := #[.tmp 5, .tmp 6]) rfl ?_); at_builtin; refine Kd.R_append_rows k26 (w0 := w) w.heap.size rfl (.tmp 5) (.tmp 6) 22 26 (.agg #[.bool false, .int .i64 0, .string ⟨#[]⟩]) 32 rfl Try.underlying22 info26 rfl (by decide) (by omega) v235 [] l0 _ _ _ (fun _ => True) (fun _ => False) rfl rfl ?aO ?aR (fun _ _ h => h) (fun _ h => h.elim) ?aF ?aB ?aS ?aL ?_; (case aR => repeat (first | exact (Kd.C_below HR0.out HB.out) | (with_reducible refine Kd.C_alloc ?_ _) | (with_reducible refine Kd.C_drewN ?_ _) | (with_reducible refine Kd.C_drew ?_))); (case aB => exact (by repeat (first | (with_reducible first | exact HB.out | apply below_alloc | apply pw_below_drewN | apply below_drew1) | exact HB.out))); (case aF => exact (fun _ _ => trivial)); (case aO => exact (by (with_reducible repeat (first | apply Kd.R_alloc | apply Kd.R_drewN | apply Kd.R_drew)); exact HO236.out)); (case aS => exact (below_size (by repeat (first | (with_reducible first | exact HB.out | apply below_alloc | apply pw_below_drewN | apply below_drew1) | exact HB.out)))); (case aL => have := LM.out; simp only [List.length_nil]; omega); intro v238 w7 ho hb hg hat; have n0_ := Aside0.mk (hb); have n1_ := Aside0.mk (ho); clear HB; clear HO236; have HB := n0_; have HO239 := n1_; clear n0_ n1_; clear ho hb hg hat))
      go_ret
      exact ⟨_, rfl, by simpa using HO239.out, HB.out⟩
  · exact absurd h (by simp)
abbrev five : S26 := ⟨false, 5, ⟨#[]⟩⟩
abbrev nullV : S26 := ⟨true, 0, ⟨#[]⟩⟩
def isFive (x : S26) : Bool := !x.f0 && x.f1 == 5 && x.f2.size == 0
def isNull (x : S26) : Bool := x.f0 && x.f1 == 0 && x.f2.size == 0
theorem bytes_nil {b : ByteArray} (h : b.size = 0) : b = ⟨#[]⟩ := by
  cases b with
  | mk d =>
    have h1 : d.size = 0 := h
    have : d = #[] := Array.eq_empty_of_size_eq_zero h1
    rw [this]
theorem eq_five {x : S26} (h : isFive x = true) : x = five := by
  simp only [isFive, Bool.and_eq_true, Bool.not_eq_true', beq_iff_eq] at h
  obtain ⟨⟨h0, h1⟩, h2⟩ := h
  cases x
  simp only at h0 h1 h2
  rw [h0, h1, bytes_nil h2]
theorem eq_null {x : S26} (h : isNull x = true) : x = nullV := by
  simp only [isNull, Bool.and_eq_true, beq_iff_eq] at h
  obtain ⟨⟨h0, h1⟩, h2⟩ := h
  cases x
  simp only at h0 h1 h2
  rw [h0, h1, bytes_nil h2]
theorem reps_flat (xs : List (S26)) : ∀ inner, Reps (fun (x : S26) (cs : List Value) => cs = [.bool x.f0, .int .i64 x.f1, .string x.f2]) 3 xs inner → inner = xs.flatMap fun x => [.bool x.f0, .int .i64 x.f1, .string x.f2] := by
  induction xs with
  | nil =>
    intro inner hr
    have : inner.length = 0 := by have := hr.1; simpa using this
    simp [List.eq_nil_of_length_eq_zero this]
  | cons x xs ih =>
    intro inner hr
    have h0 := hr.2 0 x rfl
    simp only [Nat.zero_mul, List.drop_zero] at h0
    have hl := hr.1
    simp only [List.length_cons] at hl
    have hd : Reps (fun (x : S26) (cs : List Value) => cs = [.bool x.f0, .int .i64 x.f1, .string x.f2]) 3 xs (inner.drop 3) := by
      refine ⟨by rw [List.length_drop]; omega, fun j p hj => ?_⟩
      have := hr.2 (j + 1) p (by simpa using hj)
      rw [List.drop_drop]
      rwa [show (j + 1) * 3 = 3 + j * 3 from by omega] at this
    have e : inner = inner.take 3 ++ inner.drop 3 := (List.take_append_drop 3 inner).symm
    rw [e, h0, ih _ hd]; simp
theorem flat_reps (xs : List (S26)) {w : World} {base : Nat} {ok : Nat → Prop} : Reps (k26.M w base ok) 3 xs (xs.flatMap fun x => [.bool x.f0, .int .i64 x.f1, .string x.f2]) := by
  induction xs with
  | nil => exact Reps.none _ _
  | cons x xs ih =>
    refine ⟨by simp only [List.flatMap_cons, List.length_append, List.length_cons, List.length_nil, ih.1]; omega, fun j p hj => ?_⟩
    cases j with
    | zero =>
      simp only [List.getElem?_cons_zero, Option.some.injEq] at hj
      subst hj
      simpa using k26_mkM w base ok x
    | succ j =>
      have := ih.2 j p (by simpa using hj)
      rw [List.flatMap_cons, show (j + 1) * 3 = 3 + j * 3 from by omega, ← List.drop_drop]
      exact this
/-- A row of values of one's own: its cells. -/
theorem own_values {w : World} {base : Nat} {ok : Nat → Prop} {v : Value} {xs : List (S26)} (h : Kd.R k26 26 w base ok v xs) (hn : 0 < xs.length) :
    ∃ g cap cur, v = .slice (some ⟨g, 0, none⟩) xs.length cap ∧ ok g ∧ base ≤ g ∧ g < w.heap.size ∧ w.heap[g]? = some (.cells cur 26 (0, 0)) ∧ xs.length ≤ cap ∧ cap ≤ maxLen ∧ cur.size = cap * 3 ∧
      cur.toList.take (xs.length * 3) = xs.flatMap fun x => [.bool x.f0, .int .i64 x.f1, .string x.f2] := by
  obtain ⟨hok, inner, hown, hr⟩ := h
  rcases hown.2 with ⟨_, h0⟩ | ⟨g, cap, cur, rfl, hb, hh, hnc, hcm, hcs, htake⟩
  · omega
  · refine ⟨g, cap, cur, rfl, hok g (by simp [Value.ownBlock]), hb, (Array.getElem?_eq_some_iff.1 hh).1, hh, hnc, hcm, hcs, ?_⟩
    have htake' : cur.toList.take (xs.length * 3) = inner := htake
    rw [htake']
    exact reps_flat xs inner (hr.imp_ (fun p c hp => k26_openM hp))
/-- .. and back. -/
theorem values_own {w : World} {base : Nat} {ok : Nat → Prop} {xs : List (S26)} {g cap : Nat} {cur : Array Value} (hok : ok g) (hb : base ≤ g) (hh : w.heap[g]? = some (.cells cur 26 (0, 0))) (hnc : xs.length ≤ cap) (hcm : cap ≤ maxLen) (hcs : cur.size = cap * 3)
    (ht : cur.toList.take (xs.length * 3) = xs.flatMap fun x => [.bool x.f0, .int .i64 x.f1, .string x.f2]) : Kd.R k26 26 w base ok (.slice (some ⟨g, 0, none⟩) xs.length cap) xs := by
  have hr := flat_reps xs (w := w) (base := base) (ok := fun k => ok k ∧ some k ≠ (Value.slice (some ⟨g, 0, none⟩) xs.length cap).ownBlock)
  refine ⟨fun k hk => ?_, _, ⟨hr.1, .inr ⟨g, cap, cur, rfl, hb, hh, hnc, hcm, hcs, ht⟩⟩, hr⟩
  have : g = k := by simpa [Value.ownBlock] using hk
  exact this ▸ hok
/-- 'clear' of one value at the end of a cut. -/
theorem clear_one (W : World) (g c : Nat) (cs rest : List Value) (x y z : Value) (hh : W.heap[g]? = some (.cells (cs ++ [x, y, z] ++ rest).toArray 26 (0, 0))) :
    ∃ W2, (Builtin.clear_ #[22] 0 #[.slice (some ⟨g, cs.length, none⟩) 1 c]).run Try.prog W = .ok (.tuple #[]) W2 ∧ W2.heap[g]? = some (.cells (cs ++ [Value.bool false, Value.int .i64 0, Value.string ⟨#[]⟩] ++ rest).toArray 26 (0, 0)) ∧
      (∀ k, k ≠ g → W2.heap[k]? = W.heap[k]?) ∧ W2.heap.size = W.heap.size ∧ W2.os = W.os ∧ W2.tape = W.tape ∧ W2.output = W.output := by
  have hz : (zeroValue 26).run Try.prog W = .ok (.agg #[Value.bool false, Value.int .i64 0, Value.string ⟨#[]⟩]) W := by kernel_rfl
  have hst := run_storeCells_at (P := Try.prog) g cs.length 26 [Value.bool false, Value.int .i64 0, Value.string ⟨#[]⟩] 0 _ W hh (by simp) (by intro v hv; simp at hv; rcases hv with rfl | rfl | rfl <;> rfl)
  have hcells : (Builtin.zeroCells (Value.agg #[Value.bool false, Value.int .i64 0, Value.string ⟨#[]⟩]).cells 1).toList = [Value.bool false, Value.int .i64 0, Value.string ⟨#[]⟩] := by kernel_rfl
  have e1 : (cs ++ [x, y, z] ++ rest).take (cs.length + 0) ++ [Value.bool false, Value.int .i64 0, Value.string ⟨#[]⟩] ++ (cs ++ [x, y, z] ++ rest).drop (cs.length + 0 + 3) = cs ++ [Value.bool false, Value.int .i64 0, Value.string ⟨#[]⟩] ++ rest := by
    have h1 : (cs ++ [x, y, z] ++ rest).take (cs.length + 0) = cs := by rw [List.append_assoc]; simp
    have h2 : (cs ++ [x, y, z] ++ rest).drop (cs.length + 0 + 3) = rest := by
      rw [List.append_assoc, Nat.add_zero, ← List.drop_drop]
      simp
    rw [h1, h2]
  refine ⟨W.setRow g (cs ++ [Value.bool false, Value.int .i64 0, Value.string ⟨#[]⟩] ++ rest).toArray, ?_, setRow_heap W g _ _ _ _ hh, fun k hk => setRow_other W g k _ hk, by simp [World.setRow], rfl, rfl, rfl⟩
  have hst' : (storeCells ⟨g, cs.length, none⟩ [Value.bool false, Value.int .i64 0, Value.string ⟨#[]⟩]).run Try.prog W = .ok () (W.setRow g (cs ++ [Value.bool false, Value.int .i64 0, Value.string ⟨#[]⟩] ++ rest).toArray) := by
    rw [hst, ← e1]
    rfl
  have hu := run_underlying (P := Try.prog) Try.underlying22
  simp only [Builtin.clear_]
  simp only [List.getElem?_toArray, hcells, hu, hz, Sem.run_bind, Sem.run_pure, Result.andThen_ok, List.getElem?_cons_zero]
  simp [hu, hz, hcells, hst']
def slices_Compact_api_Value_api_Value.f (l0 : List (S26)) : Option (List (S26)) :=
  match l0 with
  | [x, y] => if (isFive x && isFive y) = true then some [five] else none
  | _ => none
attribute [local go_sem high] eqA26
set_option maxHeartbeats 4000000 in
set_option maxRecDepth 100000 in
theorem slices_Compact_api_Value_api_Value.calls (P0_ : Nat → Prop) (u9000_ : Value) (l0 : List (S26)) (r : List (S26)) (w0 w : World) (hB : Below w0.heap.size w0 w) (ho0 : Kd.R k26 26 w w0.heap.size P0_ u9000_ l0) (h : slices_Compact_api_Value_api_Value.f l0 = some r) :
    Calls Try.prog 79 #[u9000_] w fun e w' => ∃ v0_ : Value, e = .returned (v0_) ∧ Kd.R k26 26 w' w0.heap.size (fun k_ => (P0_ k_ ∨ w.heap.size ≤ k_)) v0_ r ∧ Below w0.heap.size w0 w' ∧ Kept w w' (fun k_ => P0_ k_) := by
  have hl : l0 = [five, five] ∧ r = [five] := by
    unfold slices_Compact_api_Value_api_Value.f at h
    split at h
    · split at h
      · rename_i x y hc
        simp only [Bool.and_eq_true] at hc
        rw [eq_five hc.1, eq_five hc.2]
        exact ⟨rfl, (Option.some.inj h).symm⟩
      · exact absurd h (by simp)
    · exact absurd h (by simp)
  obtain ⟨rfl, rfl⟩ := hl
  clear h
  obtain ⟨g, cap, cur, rfl, hok, hbase, hlt, hh, hnc, hcm, hcs, ht⟩ := own_values ho0 (by decide)
  replace hnc : 2 ≤ cap := hnc
  obtain ⟨rest, rfl⟩ : ∃ rest : List Value, cur = ([Value.bool false, Value.int .i64 5, Value.string ⟨#[]⟩, Value.bool false, Value.int .i64 5, Value.string ⟨#[]⟩] ++ rest).toArray := by
    refine ⟨cur.toList.drop 6, ?_⟩
    have e : cur.toList = cur.toList.take 6 ++ cur.toList.drop 6 := (List.take_append_drop 6 _).symm
    have ht' : cur.toList.take 6 = [Value.bool false, Value.int .i64 5, Value.string ⟨#[]⟩, Value.bool false, Value.int .i64 5, Value.string ⟨#[]⟩] := ht
    apply Array.toList_inj.1
    rw [ht'] at e
    simpa using e
  clear ht
  have hrs : rest.length + 6 = cap * 3 := by simpa using hcs
  have RS := Aside0.mk hrs
  have HH := Aside0.mk hh
  have HB0 := Aside0.mk hB
  have HK := Aside0.mk hok
  have hu := Try.underlying26
  have hm : cap ≤ 9223372036854775807 := by simpa [maxLen] using hcm
  have hcap1 : ¬ cap = 1 := by omega
  have c0 : w.cell? ⟨g, 0, none⟩ = some (.bool false) := (blk_cell hh 0).trans rfl
  have c1 : w.cell? ⟨g, 1, none⟩ = some (.int .i64 5) := (blk_cell hh 1).trans rfl
  have c2 : w.cell? ⟨g, 2, none⟩ = some (.string ⟨#[]⟩) := (blk_cell hh 2).trans rfl
  have c3 : w.cell? ⟨g, 3, none⟩ = some (.bool false) := (blk_cell hh 3).trans rfl
  have c4 : w.cell? ⟨g, 4, none⟩ = some (.int .i64 5) := (blk_cell hh 4).trans rfl
  have c5 : w.cell? ⟨g, 5, none⟩ = some (.string ⟨#[]⟩) := (blk_cell hh 5).trans rfl
  clear hh hB hcs hrs ho0 hok hcm
  show Calls Try.prog 79 #[.slice (some ⟨g, 0, none⟩) 2 cap] w _
  go_enter Try.func79, Try.ntmps79
  go_wp2
  refine wp_loop_rounds 1 ?_
  rw [rounds_succ]
  go_wp2
  go_quiet (fail)
  go_wp2
  refine wp_loop_rounds 1 ?_
  rw [rounds_succ]
  go_wp2
  generalize hW : World.drewN w nq = W
  have hhW : W.heap[g]? = some (.cells ([Value.bool false, Value.int .i64 5, Value.string ⟨#[]⟩, Value.bool false, Value.int .i64 5, Value.string ⟨#[]⟩] ++ rest).toArray 26 (0, 0)) := by rw [← hW]; exact blk_drewN HH.out _
  have hbW : Below w.heap.size w W := by rw [← hW]; exact pw_below_drewN (Below.refl _ _) _
  clear hW
  obtain ⟨w3, hrun, hh3, hfar, hs3, ho3, ht3, hp3⟩ := clear_one W g (cap - 1) [Value.bool false, Value.int .i64 5, Value.string ⟨#[]⟩] rest (Value.bool false) (Value.int .i64 5) (Value.string ⟨#[]⟩) hhW
  simp only [List.length_cons, List.length_nil] at hrun
  rw [hrun]
  simp only [Result.andThen]
  rw [Oper.upon_value]
  have HF := Aside0.mk hfar
  have HH3 := Aside0.mk hh3
  have HS3 := Aside0.mk hs3
  have HO3 := Aside0.mk ho3
  have HT3 := Aside0.mk ht3
  have HP3 := Aside0.mk hp3
  have HBW := Aside0.mk hbW
  clear hrun hfar hh3 hs3 ho3 ht3 hp3 c0 c1 c2 c3 c4 c5 hhW hbW
  go_wp2
  go_ret
  have far : ∀ i, i ≠ g → i < w.heap.size → w3.heap[i]? = w.heap[i]? := by
    intro i hi hlt
    rw [HF.out i hi, HBW.out.block i hlt]
  have hsz : w.heap.size ≤ w3.heap.size := by
    have h1 := HBW.out.size
    have h2 := HS3.out
    omega
  have hso : w3.os = w.os := HO3.out.trans HBW.out.os
  have hst : w3.tape = w.tape := HT3.out.trans HBW.out.tape
  have hsp : w3.output = w.output := HP3.out.trans HBW.out.output
  refine ⟨_, rfl, ?_, ?_, ?_⟩
  · exact values_own (xs := [five]) (.inl HK.out) hbase HH3.out (by show 1 ≤ cap; omega) (by unfold maxLen; omega) (by have := RS.out; simp; omega) (by simp)
  · have b0 := HB0.out
    refine ⟨hso.trans b0.os, hst.trans b0.tape, hsp.trans b0.output, by have := b0.size; omega, fun i hi => ?_⟩
    have hi' : i < w.heap.size := by have := b0.size; omega
    rw [far i (by omega) hi', b0.block i hi]
  · exact ⟨hsz, fun i hi hn => far i (fun he => hn (he ▸ HK.out)) hi⟩
def page_dict_encode_1.f (a0_0 : Bool) (a0_1 : Int) (a0_2 : ByteArray) : Option (Bool) := some a0_0
set_option maxHeartbeats 8000000 in
set_option maxRecDepth 100000 in
theorem page_dict_encode_1.calls (a0_0 : Bool) (a0_1 : Int) (a0_2 : ByteArray) (r : Bool) (w : World) (h : page_dict_encode_1.f a0_0 a0_1 a0_2 = some r) :
  Calls Try.prog 76 #[.agg #[.bool a0_0, .int .i64 a0_1, .string a0_2]] w fun e w' => e = .returned (.bool r) ∧ Below w.heap.size w w' := by
 have hu26 := Try.underlying26
 have HB := Aside0.mk (Below.refl w.heap.size w)
 have H : (some a0_0) = some r := h
 clear h
 obtain rfl := Option.some.inj H
 go_enter Try.func76, Try.ntmps76
 go_wp2_with (first | ((with_reducible refine gate_dst (N := 1) rfl ?_); refine box_event ?hg (N := 1) ?hd (cs := #[.bool a0_0, .int .i64 a0_1, .string a0_2]) (t := 26) ?hr ?_; (case hd => rfl); (case hg => rfl); (case hr => first | (go_simp; done) | (go_simp; rfl)); intro gb101 hg w2 hbox hb; have n0_ := Aside0.mk (below_step (xW HB.out) hb); have n1_ := Aside0.mk (hbox); have n3_ := Aside0.mk ((by rw [hg]; exact (below_size (xW HB.out)) : w.heap.size ≤ gb101)); clear HB; revert n0_ n1_ n3_; intro HB BK101 GE101; clear hb hbox hg; have hcz3_0 : w2.cell? ⟨gb101, 0, none⟩ = some (.bool a0_0) := (blk_cell BK101.out 0).trans rfl; have hcz3_1 : w2.cell? ⟨gb101, 1, none⟩ = some (.int .i64 a0_1) := (blk_cell BK101.out 1).trans rfl; have hcz3_2 : w2.cell? ⟨gb101, 2, none⟩ = some (.string a0_2) := (blk_cell BK101.out 2).trans rfl; have hfz3_0 := blk_frozen BK101.out 0; have hfz3_1 := blk_frozen BK101.out 1; have hfz3_2 := blk_frozen BK101.out 2))
 go_ret
 exact ⟨by first | rfl | simp [*], by repeat (first | (with_reducible first | exact HB.out | apply below_alloc | apply pw_below_drewN | apply below_drew1 | refine below_set ?_ GE101.out) | exact HB.out)⟩
def slices_IndexFunc_api_Value_api_Value.l0 : Nat → List (S26) → Int → Int → Option (Int)
 | 0, _, _, _ => none
 | k + 1, x0, x7, x8 => if x8 < x7 then (if 0 ≤ x8 then (if x8 < (x0.length : Int) then ((page_dict_encode_1.f ((rd_T26 x0 x8).f0) ((rd_T26 x0 x8).f1) ((rd_T26 x0 x8).f2)).bind fun t102 => (if t102 = true then (some x8) else (slices_IndexFunc_api_Value_api_Value.l0 k x0 x7 (wrap64 (x8 + 1))))) else (none)) else (none)) else (some (-1))
def slices_IndexFunc_api_Value_api_Value.f (k : Nat) (l0 : List (S26))  : Option (Int) := slices_IndexFunc_api_Value_api_Value.l0 k l0 (l0.length : Int) 0
theorem slices_IndexFunc_api_Value_api_Value.mono_l : ∀ k, (∀ y0 y1 y2, LeO (slices_IndexFunc_api_Value_api_Value.l0 k y0 y1 y2) (slices_IndexFunc_api_Value_api_Value.l0 (k + 1) y0 y1 y2))
 | 0 => fun _ _ _ r h => by simp [slices_IndexFunc_api_Value_api_Value.l0] at h
 | k + 1 => by
  have ih0 := slices_IndexFunc_api_Value_api_Value.mono_l k
  ·intro y0 y1 y2
   unfold slices_IndexFunc_api_Value_api_Value.l0
   repeat' first
   | (with_reducible exact ih0 _ _ _)
   | (with_reducible exact LeO.refl _)
   | (with_reducible exact LeO.none _)
   | (with_reducible refine LeO.ite ?_ ?_)
   | (with_reducible refine LeO.bind ?_ (fun _ => ?_))
   | exact ih0 _ _ _
   | exact LeO.none _
   | refine LeO.ite ?_ ?_
   | refine LeO.bind ?_ (fun _ => ?_)
theorem slices_IndexFunc_api_Value_api_Value.mono : ∀ a0 k, LeO (slices_IndexFunc_api_Value_api_Value.f k a0) (slices_IndexFunc_api_Value_api_Value.f (k + 1) a0) := by
 intro a0 k
 have ih0 := slices_IndexFunc_api_Value_api_Value.mono_l k
 unfold slices_IndexFunc_api_Value_api_Value.f
 repeat' first
   | (with_reducible exact ih0 _ _ _)
   | (with_reducible exact LeO.refl _)
   | (with_reducible exact LeO.none _)
   | (with_reducible refine LeO.ite ?_ ?_)
   | (with_reducible refine LeO.bind ?_ (fun _ => ?_))
   | exact ih0 _ _ _
   | exact LeO.none _
   | refine LeO.ite ?_ ?_
   | refine LeO.bind ?_ (fun _ => ?_)
set_option maxHeartbeats 8000000 in
set_option maxRecDepth 100000 in
theorem slices_IndexFunc_api_Value_api_Value.calls (k : Nat) (A0 : Option Addr) (c0 : Nat) (l0 : List (S26))  (r : Int) (w : World) (hr0 : Kd.C k26 w A0 l0.length l0) (hc0 : l0.length ≤ c0) (h : slices_IndexFunc_api_Value_api_Value.f k l0 = some r) :
  Calls Try.prog 81 #[.slice A0 l0.length c0, .func (.func 76) #[] #[]] w fun e w' => e = .returned (.int .i64 r) ∧ Below w.heap.size w w' := by
 have hu26 := Try.underlying26
 have HR0 := Aside0.mk hr0
 have HC0 := Aside0.mk hc0
 clear hr0 hc0
 have HB := Aside0.mk (Below.refl w.heap.size w)
 have H : (slices_IndexFunc_api_Value_api_Value.l0 k l0 (l0.length : Int) 0) = some r := h
 clear h
 have H' := Aside0.mk H
 clear H
 go_enter Try.func81, Try.ntmps81
 go_wp2
 go_loopg [8] k (fun kq v8 w' => ∃ (x8_1 : Int), v8 = .int .i64 x8_1 ∧ Aside0 (slices_IndexFunc_api_Value_api_Value.l0 kq l0 (l0.length : Int) x8_1 = some r) ∧ Aside0 (kq ≤ k) ∧ Aside0 (Below w.heap.size w w'))
 case atStart => exact ⟨(0), (by first | rfl | (simp; done) | (simp [*]; done)), H', ⟨Nat.le_refl _⟩, ⟨by repeat (first | (with_reducible first | exact HB.out | apply below_alloc | apply pw_below_drewN | apply below_drew1) | exact HB.out)⟩⟩
 case round =>
  clear H'
  try clear p2
  obtain ⟨x8_1, rfl, HA, HK1, HB⟩ := hrel
  cases gk with
  | zero => exact absurd HA.out (by simp [slices_IndexFunc_api_Value_api_Value.l0])
  | succ k1 =>
   have H := HA.out
   clear HA
   simp only [slices_IndexFunc_api_Value_api_Value.l0] at H
   by_cases c3 : x8_1 < (l0.length : Int)
   rotate_left
   ·rw [if_neg c3] at H
    have c3b0 : decide (x8_1 < (l0.length : Int)) = false := decide_eq_false c3
    clear c3
    obtain rfl := Option.some.inj H
    go_wp2
    go_ret
    exact ⟨by first | rfl | simp [*], by repeat (first | (with_reducible first | exact HB.out | apply below_alloc | apply pw_below_drewN | apply below_drew1) | exact HB.out)⟩
   rw [if_pos c3] at H
   have c3b0 : decide (x8_1 < (l0.length : Int)) = true := decide_eq_true c3
   clear c3
   by_cases c4 : 0 ≤ x8_1
   rotate_left
   ·rw [if_neg c4] at H
    exact absurd H (by simp)
   rw [if_pos c4] at H
   have c4b0 : decide (0 ≤ x8_1) = true := decide_eq_true c4
   clear c4
   by_cases c5 : x8_1 < (l0.length : Int)
   rotate_left
   ·rw [if_neg c5] at H
    exact absurd H (by simp)
   rw [if_pos c5] at H
   have c5b0 : decide (x8_1 < (l0.length : Int)) = true := decide_eq_true c5
   clear c5
   replace H := Option.bind_eq_some_iff.mp H
   obtain ⟨t102, A60, H⟩ := H
   (try dsimp only at H)
   have A6 := Aside0.mk A60
   clear A60
   by_cases c7 : t102 = true
   ·subst c7
    rw [if_pos rfl] at H
    obtain rfl := Option.some.inj H
    have p101 : 0 ≤ (x8_1 : Int) := of_decide_eq_true (by first | (with_reducible assumption) | assumption)
    have q101 : x8_1 < (l0.length : Int) := of_decide_eq_true (by first | (with_reducible assumption) | assumption)
    obtain ⟨ad101, e101, hx101_0, hx101_1, hx101_2⟩ := at_T26 HR0.out x8_1 p101 q101
    cases e101
    replace hx101_0 := (HB.out.cell (World.block_lt_of_cell? w _ hx101_0)).trans hx101_0
    replace hx101_1 := (HB.out.cell (World.block_lt_of_cell? w _ hx101_1)).trans hx101_1
    replace hx101_2 := (HB.out.cell (World.block_lt_of_cell? w _ hx101_2)).trans hx101_2
    replace p101 := eq_true p101
    replace q101 := eq_true q101
    go_wp2_with (first | (go_at_call 76; (with_reducible refine (page_dict_encode_1.calls ((rd_T26 l0 x8_1).f0) ((rd_T26 l0 x8_1).f1) ((rd_T26 l0 x8_1).f2) true _ A6.out).mono ?_); rintro e w8 ⟨rfl, hb⟩; have n0_ := Aside0.mk (below_step (xW HB.out) hb); clear HB; revert n0_; intro HB; (try clear hb)))
    go_ret
    exact ⟨by first | rfl | simp [*], by repeat (first | (with_reducible first | exact HB.out | apply below_alloc | apply pw_below_drewN | apply below_drew1) | exact HB.out)⟩
   ·replace c7 := Bool.eq_false_iff.mpr c7
    subst c7
    rw [if_neg (show ¬ (false = true) by decide)] at H
    have H' := Aside0.mk H
    clear H
    have p101 : 0 ≤ (x8_1 : Int) := of_decide_eq_true (by first | (with_reducible assumption) | assumption)
    have q101 : x8_1 < (l0.length : Int) := of_decide_eq_true (by first | (with_reducible assumption) | assumption)
    obtain ⟨ad101, e101, hx101_0, hx101_1, hx101_2⟩ := at_T26 HR0.out x8_1 p101 q101
    cases e101
    replace hx101_0 := (HB.out.cell (World.block_lt_of_cell? w _ hx101_0)).trans hx101_0
    replace hx101_1 := (HB.out.cell (World.block_lt_of_cell? w _ hx101_1)).trans hx101_1
    replace hx101_2 := (HB.out.cell (World.block_lt_of_cell? w _ hx101_2)).trans hx101_2
    replace p101 := eq_true p101
    replace q101 := eq_true q101
    go_wp2_with (first | (go_at_call 76; (with_reducible refine (page_dict_encode_1.calls ((rd_T26 l0 x8_1).f0) ((rd_T26 l0 x8_1).f1) ((rd_T26 l0 x8_1).f2) false _ A6.out).mono ?_); rintro e w9 ⟨rfl, hb⟩; have n0_ := Aside0.mk (below_step (xW HB.out) hb); clear HB; revert n0_; intro HB; (try clear hb)))
    go_roundg k1
    case measure => have := HK1.out; omega
    case rel => exact ⟨(wrap64 (x8_1 + 1)), (by first | rfl | (simp; done) | (simp [*]; done)), H', ⟨by have := HK1.out; omega⟩, ⟨by repeat (first | (with_reducible first | exact HB.out | apply below_alloc | apply pw_below_drewN | apply below_drew1) | exact HB.out)⟩⟩
def slices_DeleteFunc_api_Value_api_Value.f (l0 : List (S26)) : Option (List (S26)) :=
  match l0 with
  | [x, y, z] => if (isFive x && isNull y && isFive z) = true then some [five, five] else none
  | _ => none
set_option maxHeartbeats 4000000 in
set_option maxRecDepth 100000 in
theorem slices_DeleteFunc_api_Value_api_Value.calls (P0_ : Nat → Prop) (u9000_ : Value) (l0 : List (S26)) (r : List (S26)) (w0 w : World) (hB : Below w0.heap.size w0 w) (ho0 : Kd.R k26 26 w w0.heap.size P0_ u9000_ l0) (h : slices_DeleteFunc_api_Value_api_Value.f l0 = some r) :
    Calls Try.prog 74 #[u9000_, .func (.func 76) #[] #[]] w fun e w' => ∃ v0_ : Value, e = .returned (v0_) ∧ Kd.R k26 26 w' w0.heap.size (fun k_ => (P0_ k_ ∨ w.heap.size ≤ k_)) v0_ r ∧ Below w0.heap.size w0 w' ∧ Kept w w' (fun k_ => P0_ k_) := by
  have hl : l0 = [five, nullV, five] ∧ r = [five, five] := by
    unfold slices_DeleteFunc_api_Value_api_Value.f at h
    split at h
    · split at h
      · rename_i x y z hc
        simp only [Bool.and_eq_true] at hc
        rw [eq_five hc.1.1, eq_null hc.1.2, eq_five hc.2]
        exact ⟨rfl, (Option.some.inj h).symm⟩
      · exact absurd h (by simp)
    · exact absurd h (by simp)
  obtain ⟨rfl, rfl⟩ := hl
  clear h
  obtain ⟨g, cap, cur, rfl, hok, hbase, hlt, hh, hnc, hcm, hcs, ht⟩ := own_values ho0 (by decide)
  replace hnc : 3 ≤ cap := hnc
  obtain ⟨rest, rfl⟩ : ∃ rest : List Value, cur = ([Value.bool false, Value.int .i64 5, Value.string ⟨#[]⟩, Value.bool true, Value.int .i64 0, Value.string ⟨#[]⟩, Value.bool false, Value.int .i64 5, Value.string ⟨#[]⟩] ++ rest).toArray := by
    refine ⟨cur.toList.drop 9, ?_⟩
    have e : cur.toList = cur.toList.take 9 ++ cur.toList.drop 9 := (List.take_append_drop 9 _).symm
    have ht' : cur.toList.take 9 = [Value.bool false, Value.int .i64 5, Value.string ⟨#[]⟩, Value.bool true, Value.int .i64 0, Value.string ⟨#[]⟩, Value.bool false, Value.int .i64 5, Value.string ⟨#[]⟩] := ht
    apply Array.toList_inj.1
    rw [ht'] at e
    simpa using e
  clear ht
  have hrs : rest.length + 9 = cap * 3 := by simpa using hcs
  have RS := Aside0.mk hrs
  obtain ⟨_, hcap3, hC⟩ := Kd.R_reads' ho0
  have HC0 := Aside0.mk hC
  have HH := Aside0.mk hh
  have HB0 := Aside0.mk hB
  have HK := Aside0.mk hok
  clear hC hh hB hcs hrs ho0 hok
  have hu := Try.underlying26
  have hm : cap ≤ 9223372036854775807 := by simpa [maxLen] using hcm
  clear hcm
  have hz : ∀ W : World, (zeroValue 26).run Try.prog W = .ok (.agg #[.bool false, .int .i64 0, .string ⟨#[]⟩]) W := fun W => by kernel_rfl
  have hcap2 : ¬ cap = 2 := by omega
  have CI := Aside0.mk (show Calls Try.prog 81 #[.slice (some ⟨g, 0, none⟩) 3 cap, .func (.func 76) #[] #[]] w (fun e w' => e = .returned (.int .i64 1) ∧ Below w.heap.size w w') from
    slices_IndexFunc_api_Value_api_Value.calls 10 (some ⟨g, 0, none⟩) cap [five, nullV, five] 1 w HC0.out hcap3 (by kernel_rfl))
  have CE := Aside0.mk (show ∀ W : World, Calls Try.prog 76 #[.agg #[.bool false, .int .i64 5, .string ⟨#[]⟩]] W (fun e w' => e = .returned (.bool false) ∧ Below W.heap.size W w') from fun W => page_dict_encode_1.calls false 5 ⟨#[]⟩ false W (by kernel_rfl))
  clear hcap3 HC0
  show Calls Try.prog 74 #[.slice (some ⟨g, 0, none⟩) 3 cap, .func (.func 76) #[] #[]] w _
  go_enter Try.func74, Try.ntmps74
  go_wp2_with (go_at_call 81; (with_reducible refine CI.out.mono ?_); rintro e w1 ⟨rfl, hb1⟩)
  have hs1 := hb1.size
  have hh1 : w1.heap[g]? = _ := blk_below HH.out hb1
  have hlt1 : g < w1.heap.size := by omega
  have hne1 : ¬ g = w1.heap.size := by omega
  have c0 : w1.cell? ⟨g, 6, none⟩ = some (.bool false) := (blk_cell hh1 6).trans rfl
  have c1 : w1.cell? ⟨g, 7, none⟩ = some (.int .i64 5) := (blk_cell hh1 7).trans rfl
  have c2 : w1.cell? ⟨g, 8, none⟩ = some (.string ⟨#[]⟩) := (blk_cell hh1 8).trans rfl
  have c3 : w1.cell? ⟨g, 3, none⟩ = some (.bool true) := (blk_cell hh1 3).trans rfl
  have c4 : w1.cell? ⟨g, 4, none⟩ = some (.int .i64 0) := (blk_cell hh1 4).trans rfl
  have c5 : w1.cell? ⟨g, 5, none⟩ = some (.string ⟨#[]⟩) := (blk_cell hh1 5).trans rfl
  have f3 := blk_frozen hh1 3
  have f4 := blk_frozen hh1 4
  have f5 := blk_frozen hh1 5
  have f6 := blk_frozen hh1 6
  have f7 := blk_frozen hh1 7
  have f8 := blk_frozen hh1 8
  have HH1 := Aside0.mk hh1
  have HB1 := Aside0.mk hb1
  clear hh1 hb1
  go_wp2
  refine wp_loop_rounds 2 ?_
  rw [rounds_succ]
  go_wp2_with (go_at_call 76; (with_reducible refine (CE.out _).mono ?_); rintro e w2 ⟨rfl, hb2⟩; have hbx : w2.heap[w1.heap.size]? = some (.cells #[.bool false, .int .i64 5, .string ⟨#[]⟩] 26 (0, 0)) := blk_below (blk_new w1 _) hb2; have hh2 : w2.heap[g]? = _ := blk_below (blk_alloc HH1.out _) hb2; have d0 : w2.cell? ⟨w1.heap.size, 0, none⟩ = some (.bool false) := (blk_cell hbx 0).trans rfl; have d1 : w2.cell? ⟨w1.heap.size, 1, none⟩ = some (.int .i64 5) := (blk_cell hbx 1).trans rfl; have d2 : w2.cell? ⟨w1.heap.size, 2, none⟩ = some (.string ⟨#[]⟩) := (blk_cell hbx 2).trans rfl; have e3 : w2.cell? ⟨g, 3, none⟩ = some (.bool true) := (blk_cell hh2 3).trans rfl; have e4 : w2.cell? ⟨g, 4, none⟩ = some (.int .i64 0) := (blk_cell hh2 4).trans rfl; have e5 : w2.cell? ⟨g, 5, none⟩ = some (.string ⟨#[]⟩) := (blk_cell hh2 5).trans rfl; have e6 : w2.cell? ⟨g, 6, none⟩ = some (.bool false) := (blk_cell hh2 6).trans rfl; have e7 : w2.cell? ⟨g, 7, none⟩ = some (.int .i64 5) := (blk_cell hh2 7).trans rfl; have e8 : w2.cell? ⟨g, 8, none⟩ = some (.string ⟨#[]⟩) := (blk_cell hh2 8).trans rfl; have k3 := blk_frozen hh2 3; have k4 := blk_frozen hh2 4; have k5 := blk_frozen hh2 5; have k6 := blk_frozen hh2 6; have k7 := blk_frozen hh2 7; have k8 := blk_frozen hh2 8; have HH2 := Aside0.mk hh2; have HB2 := Aside0.mk hb2; clear hh2 hb2 hbx)
  rw [rounds_succ]
  go_wp2
  obtain ⟨w3, hrun, hh3, hfar, hs3, ho3, ht3, hp3⟩ := clear_one (((w2.setCell ⟨g, 3, none⟩ (.bool false)).setCell ⟨g, 4, none⟩ (.int .i64 5)).setCell ⟨g, 5, none⟩ (.string ⟨#[]⟩)) g (cap - 2) [Value.bool false, Value.int .i64 5, Value.string ⟨#[]⟩, Value.bool false, Value.int .i64 5, Value.string ⟨#[]⟩] rest (Value.bool false) (Value.int .i64 5) (Value.string ⟨#[]⟩) (blk_put (blk_put (blk_put HH2.out 3 _ rfl) 4 _ rfl) 5 _ (by simp))
  simp only [List.length_cons, List.length_nil] at hrun
  rw [hrun]
  simp only [Result.andThen]
  rw [Oper.upon_value]
  have HF := Aside0.mk hfar
  have HH3 := Aside0.mk hh3
  have HS3 := Aside0.mk hs3
  have HO3 := Aside0.mk ho3
  have HT3 := Aside0.mk ht3
  have HP3 := Aside0.mk hp3
  clear hrun hfar hh3 hs3 ho3 ht3 hp3 c0 c1 c2 c3 c4 c5 d0 d1 d2 e3 e4 e5 e6 e7 e8 k3 k4 k5 k6 k7 k8 f3 f4 f5 f6 f7 f8
  go_wp2
  go_ret
  have far : ∀ i, i ≠ g → i < w1.heap.size → w3.heap[i]? = w1.heap[i]? := by
    intro i hi hlt
    rw [HF.out i hi, Below.heap_setCell _ _ _ i (by simpa using hi), Below.heap_setCell _ _ _ i (by simpa using hi), Below.heap_setCell _ _ _ i (by simpa using hi), HB2.out.block i (by simp; omega)]
    exact Below.heap_alloc w1 _ i hlt
  have hsz : w1.heap.size ≤ w3.heap.size := by
    have h1 := HB2.out.size
    have h2 : w3.heap.size = w2.heap.size := by rw [HS3.out]; simp [World.setCell]
    simp at h1
    omega
  have hso : w3.os = w1.os := HO3.out.trans HB2.out.os
  have hst : w3.tape = w1.tape := HT3.out.trans HB2.out.tape
  have hsp : w3.output = w1.output := HP3.out.trans HB2.out.output
  refine ⟨_, rfl, ?_, ?_, ?_⟩
  · exact values_own (xs := [five, five]) (.inl HK.out) hbase HH3.out (by show 2 ≤ cap; omega) (by unfold maxLen; omega) (by have := RS.out; simp; omega) (by simp)
  · have b0 := HB0.out
    have b1 := HB1.out
    refine ⟨hso.trans (b1.os.trans b0.os), hst.trans (b1.tape.trans b0.tape), hsp.trans (b1.output.trans b0.output), by have := b0.size; omega, fun i hi => ?_⟩
    have hi' : i < w.heap.size := by have := b0.size; omega
    rw [far i (by omega) (by omega), b1.block i hi', b0.block i hi]
  · refine ⟨by omega, fun i hi hn => ?_⟩
    rw [far i (fun he => hn (he ▸ HK.out)) (by omega), HB1.out.block i hi]
def wire_sized_string.f (k : Nat) (l0 : List Int) (a1 : ByteArray) : Option (List Int) := (wire_room.f l0 (wrap64 (10 + (a1.size : Int)))).bind fun t101 => ((wire_number.f k t101 (IntKind.u64.wrap ((a1.size : Int)))).bind fun t104 => (if t104.length + a1.size < 140737488355328 then (some (t104 ++ bytesOf a1)) else (none)))
theorem wire_sized_string.mono : ∀ a0 a1 k, LeO (wire_sized_string.f k a0 a1) (wire_sized_string.f (k + 1) a0 a1) := by
 intro a0 a1 k
 unfold wire_sized_string.f
 repeat' first
   | (with_reducible exact wire_number.mono _ _ _)
   | (with_reducible exact LeO.refl _)
   | (with_reducible exact LeO.none _)
   | (with_reducible refine LeO.ite ?_ ?_)
   | (with_reducible refine LeO.bind ?_ (fun _ => ?_))
   | exact wire_number.mono _ _ _
   | exact LeO.none _
   | refine LeO.ite ?_ ?_
   | refine LeO.bind ?_ (fun _ => ?_)
set_option maxHeartbeats 8000000 in
set_option maxRecDepth 100000 in
theorem wire_sized_string.calls (k : Nat) (A0 : Option Addr) (c0 : Nat) (l0 : List Int) (a1 : ByteArray) (r : List Int) (w : World) (hr0 : Kd.C (Kd.int .u8) w A0 l0.length l0) (hc0 : l0.length ≤ c0) (h : wire_sized_string.f k l0 a1 = some r) :
  Calls Try.prog 69 #[.slice A0 l0.length c0, .string a1] w fun e w' => ∃ v0_ : Value, e = .returned (v0_) ∧ Kd.R (Kd.int .u8) 5 w' w.heap.size (fun _ => True) v0_ r ∧ Below w.heap.size w w' := by
 have HR0 := Aside0.mk hr0
 have HC0 := Aside0.mk hc0
 clear hr0 hc0
 have HB := Aside0.mk (Below.refl w.heap.size w)
 have H : ((wire_room.f l0 (wrap64 (10 + (a1.size : Int)))).bind fun t101 => ((wire_number.f k t101 (IntKind.u64.wrap ((a1.size : Int)))).bind fun t104 => (if t104.length + a1.size < 140737488355328 then (some (t104 ++ bytesOf a1)) else (none)))) = some r := h
 clear h
 replace H := Option.bind_eq_some_iff.mp H
 obtain ⟨t101, A30, H⟩ := H
 (try dsimp only at H)
 have A3 := Aside0.mk A30
 clear A30
 replace H := Option.bind_eq_some_iff.mp H
 obtain ⟨t104, A40, H⟩ := H
 (try dsimp only at H)
 have A4 := Aside0.mk A40
 clear A40
 by_cases c5 : t104.length + a1.size < 140737488355328
 rotate_left
 ·rw [if_neg c5] at H
  exact absurd H (by simp)
 rw [if_pos c5] at H
 have LMc5 := Aside0.mk c5
 clear c5
 obtain ⟨y107, hy107⟩ : ∃ y_ : List Int, y_ = (t104 ++ bytesOf a1) := ⟨_, rfl⟩
 replace H : (some y107) = some r := by first | (rw [hy107]; with_reducible exact H) | (have H2_ := (Option.bind_some _ _).symm.trans H; rw [hy107]; with_reducible exact H2_) | (have H2_ := (Option.bind_some _ _).symm.trans H; with_reducible exact H2_) | with_reducible exact H | (rw [hy107]; exact H) | exact H
 have Ny107 := Aside0.mk hy107
 clear hy107
 obtain rfl := Option.some.inj H
 go_enter Try.func69, Try.ntmps69
 go_wp2_with (first | ((with_reducible refine gate_callee (f := 42) rfl ?_); refine goesL_ (some 10) rfl rfl Try.func42 (by kernel_rfl) rfl #[.slice A0 l0.length c0, .int .i64 (wrap64 (10 + (a1.size : Int)))] rfl (by (try simp only [List.map_toArray, List.map_cons, List.map_nil]) <;> rfl) ?_; (with_reducible refine (wire_room.calls _ _ l0 (wrap64 (10 + (a1.size : Int))) t101 _ ?side1 ?side2 A3.out).mono ?_); (case side1 => exact xC HR0.out); (case side2 => exact HC0.out); rintro e w6 ⟨v102, rfl, ho0, hb⟩; refine ⟨_, rfl, ?_⟩; have n0_ := Aside0.mk (Kd.R_lower ho0 (below_size (xW HB.out))); have n1_ := Aside0.mk (below_step (xW HB.out) hb); clear HB; revert n0_ n1_; intro HO103 HB; (try clear hb); (try clear ho0); obtain ⟨Ao7, co7, eo7⟩ := Kd.R_slice HO103.out; subst eo7) | ((with_reducible refine gate_callee (f := 44) rfl ?_); refine goesL_ (some 14) rfl rfl Try.func44 (by kernel_rfl) rfl #[.slice Ao7 t101.length co7, .int .u64 (IntKind.u64.wrap ((a1.size : Int)))] rfl (by (try simp only [List.map_toArray, List.map_cons, List.map_nil]) <;> rfl) ?_; (with_reducible refine (wire_number.calls k (fun k_ => some k_ = (.slice Ao7 t101.length co7 : Value).ownBlock) (.slice Ao7 t101.length co7) t101 (IntKind.u64.wrap ((a1.size : Int))) t104 w _ ?side1 ?side2 A4.out).mono ?_); (case side1 => repeat (first | (with_reducible first | exact HB.out | apply below_alloc | apply pw_below_drewN | apply below_drew1) | exact HB.out)); (case side2 => exact Kd.R_tight rfl HO103.out); rintro e w8 ⟨v105, rfl, ho0, hb, hkp⟩; refine ⟨_, rfl, ?_⟩; have n0_ := Aside0.mk (Kd.R_mono (ok' := fun k_ => True) ho0 (fun k_ hk_ => trivial)); have n1_ := Aside0.mk (hb); clear HB HO103; revert n0_ n1_; intro HO106 HB; (try clear hb); (try clear hkp); (try clear ho0)) | (at_builtin; refine print_append_str (w0 := w) w.heap.size rfl (.tmp 15) _ 32 9 5 rfl Try.underlying32 Try.underlying9 info5 v105 t104 a1 rfl rfl ?aO ?aB ?aS ?aL ?_; (case aB => exact (xW HB.out)); (case aO => exact (Kd.own_of_R (xR HO106.out))); (case aS => exact (below_size (xW HB.out))); (case aL => have := LMc5.out; omega); intro v108 w9 ho0 hb hg; have ho := Kd.R_of_own (h1 := fun _ => rfl) (ok := fun _ => True) ho0 (fun _ _ => trivial); clear ho0; have hat := True.intro; rw [← Ny107.out] at ho; change Kd.R (Kd.int .u8) 5 w9 w.heap.size (fun _ => True) v108 y107 at ho; have n0_ := Aside0.mk (hb); have n1_ := Aside0.mk (ho); clear HB HO106; revert n0_ n1_; intro HB HO109; clear ho hb hg hat))
 go_ret
 exact ⟨_, by first | rfl | simp [*], by (with_reducible repeat (first | apply Kd.R_alloc | apply Kd.R_drewN | apply Kd.R_drew)); exact HO109.out, by repeat (first | (with_reducible first | exact HB.out | apply below_alloc | apply pw_below_drewN | apply below_drew1) | exact HB.out)⟩
def wire_Text.f (k : Nat) (l0 : List Int) (a1 : ByteArray) : Option (List Int) := (wire_sized_string.f k l0 a1).bind fun t101 => (some t101)
theorem wire_Text.mono : ∀ a0 a1 k, LeO (wire_Text.f k a0 a1) (wire_Text.f (k + 1) a0 a1) := by
 intro a0 a1 k
 unfold wire_Text.f
 repeat' first
   | (with_reducible exact wire_sized_string.mono _ _ _)
   | (with_reducible exact LeO.refl _)
   | (with_reducible exact LeO.none _)
   | (with_reducible refine LeO.ite ?_ ?_)
   | (with_reducible refine LeO.bind ?_ (fun _ => ?_))
   | exact wire_sized_string.mono _ _ _
   | exact LeO.none _
   | refine LeO.ite ?_ ?_
   | refine LeO.bind ?_ (fun _ => ?_)
set_option maxHeartbeats 8000000 in
set_option maxRecDepth 100000 in
theorem wire_Text.calls (k : Nat) (A0 : Option Addr) (c0 : Nat) (l0 : List Int) (a1 : ByteArray) (r : List Int) (w : World) (hr0 : Kd.C (Kd.int .u8) w A0 l0.length l0) (hc0 : l0.length ≤ c0) (h : wire_Text.f k l0 a1 = some r) :
  Calls Try.prog 66 #[.slice A0 l0.length c0, .string a1] w fun e w' => ∃ v0_ : Value, e = .returned (v0_) ∧ Kd.R (Kd.int .u8) 5 w' w.heap.size (fun _ => True) v0_ r ∧ Below w.heap.size w w' := by
 have HR0 := Aside0.mk hr0
 have HC0 := Aside0.mk hc0
 clear hr0 hc0
 have HB := Aside0.mk (Below.refl w.heap.size w)
 have H : ((wire_sized_string.f k l0 a1).bind fun t101 => (some t101)) = some r := h
 clear h
 replace H := Option.bind_eq_some_iff.mp H
 obtain ⟨t101, A30, H⟩ := H
 replace H : (some t101) = some r := H
 have A3 := Aside0.mk A30
 clear A30
 obtain rfl := Option.some.inj H
 go_enter Try.func66, Try.ntmps66
 go_wp2_with (first | ((with_reducible refine gate_callee (f := 69) rfl ?_); refine goesL_ (some 7) rfl rfl Try.func69 (by kernel_rfl) rfl #[.slice A0 l0.length c0, .string a1] rfl (by (try simp only [List.map_toArray, List.map_cons, List.map_nil]) <;> rfl) ?_; (with_reducible refine (wire_sized_string.calls k _ _ l0 a1 t101 _ ?side1 ?side2 A3.out).mono ?_); (case side1 => exact xC HR0.out); (case side2 => exact HC0.out); rintro e w4 ⟨v102, rfl, ho0, hb⟩; refine ⟨_, rfl, ?_⟩; have n0_ := Aside0.mk (Kd.R_lower ho0 (below_size (xW HB.out))); have n1_ := Aside0.mk (below_step (xW HB.out) hb); clear HB; revert n0_ n1_; intro HO103 HB; (try clear hb); (try clear ho0)))
 go_ret
 exact ⟨_, by first | rfl | simp [*], by (with_reducible repeat (first | apply Kd.R_alloc | apply Kd.R_drewN | apply Kd.R_drew)); exact HO103.out, by repeat (first | (with_reducible first | exact HB.out | apply below_alloc | apply pw_below_drewN | apply below_drew1) | exact HB.out)⟩
def page_bare.f (k : Nat) (l0 : List Int) (a1_0 : Bool) (a1_1 : Int) (a1_2 : ByteArray) (a2 : Int) : Option (List Int) := if a2 = 4 then ((wire_Text.f k l0 a1_2).bind fun t102 => (some t102)) else ((wire_S.f k l0 a1_1).bind fun t105 => (some t105))
theorem page_bare.mono : ∀ a0 a1 a2 a3 a4 k, LeO (page_bare.f k a0 a1 a2 a3 a4) (page_bare.f (k + 1) a0 a1 a2 a3 a4) := by
 intro a0 a1 a2 a3 a4 k
 unfold page_bare.f
 repeat' first
   | (with_reducible exact wire_S.mono _ _ _)
   | (with_reducible exact wire_Text.mono _ _ _)
   | (with_reducible exact LeO.refl _)
   | (with_reducible exact LeO.none _)
   | (with_reducible refine LeO.ite ?_ ?_)
   | (with_reducible refine LeO.bind ?_ (fun _ => ?_))
   | exact wire_S.mono _ _ _
   | exact wire_Text.mono _ _ _
   | exact LeO.none _
   | refine LeO.ite ?_ ?_
   | refine LeO.bind ?_ (fun _ => ?_)
set_option maxHeartbeats 8000000 in
set_option maxRecDepth 100000 in
theorem page_bare.calls (k : Nat) (A0 : Option Addr) (c0 : Nat) (l0 : List Int) (a1_0 : Bool) (a1_1 : Int) (a1_2 : ByteArray) (a2 : Int) (r : List Int) (w : World) (hr0 : Kd.C (Kd.int .u8) w A0 l0.length l0) (hc0 : l0.length ≤ c0) (h : page_bare.f k l0 a1_0 a1_1 a1_2 a2 = some r) :
  Calls Try.prog 64 #[.slice A0 l0.length c0, .agg #[.bool a1_0, .int .i64 a1_1, .string a1_2], .int .i64 a2] w fun e w' => ∃ v0_ : Value, e = .returned (v0_) ∧ Kd.R (Kd.int .u8) 5 w' w.heap.size (fun _ => True) v0_ r ∧ Below w.heap.size w w' := by
 have hu26 := Try.underlying26
 have HR0 := Aside0.mk hr0
 have HC0 := Aside0.mk hc0
 clear hr0 hc0
 have HB := Aside0.mk (Below.refl w.heap.size w)
 have H : (if a2 = 4 then ((wire_Text.f k l0 a1_2).bind fun t102 => (some t102)) else ((wire_S.f k l0 a1_1).bind fun t105 => (some t105))) = some r := h
 clear h
 by_cases c4 : a2 = 4
 ·rw [if_pos c4] at H
  have c4b0 : (a2 == 4) = true := beq_iff_eq.mpr c4
  have c4b1 : (a2 != 4) = false := bne_eq_false_iff_eq.mpr c4
  clear c4
  replace H := Option.bind_eq_some_iff.mp H
  obtain ⟨t102, A50, H⟩ := H
  replace H : (some t102) = some r := H
  have A5 := Aside0.mk A50
  clear A50
  obtain rfl := Option.some.inj H
  go_enter Try.func64, Try.ntmps64
  go_wp2_with (first | ((with_reducible refine gate_dst (N := 4) rfl ?_); refine box_event ?hg (N := 4) ?hd (cs := #[.bool a1_0, .int .i64 a1_1, .string a1_2]) (t := 26) ?hr ?_; (case hd => rfl); (case hg => rfl); (case hr => first | (go_simp; done) | (go_simp; rfl)); intro gb101 hg w6 hbox hb; have n0_ := Aside0.mk (below_step (xW HB.out) hb); have n1_ := Aside0.mk (hbox); have n3_ := Aside0.mk ((by rw [hg]; exact (below_size (xW HB.out)) : w.heap.size ≤ gb101)); clear HB; revert n0_ n1_ n3_; intro HB BK101 GE101; clear hb hbox hg; have hcz7_0 : w6.cell? ⟨gb101, 0, none⟩ = some (.bool a1_0) := (blk_cell BK101.out 0).trans rfl; have hcz7_1 : w6.cell? ⟨gb101, 1, none⟩ = some (.int .i64 a1_1) := (blk_cell BK101.out 1).trans rfl; have hcz7_2 : w6.cell? ⟨gb101, 2, none⟩ = some (.string a1_2) := (blk_cell BK101.out 2).trans rfl; have hfz7_0 := blk_frozen BK101.out 0; have hfz7_1 := blk_frozen BK101.out 1; have hfz7_2 := blk_frozen BK101.out 2) | ((with_reducible refine gate_callee (f := 66) rfl ?_); refine goesL_ (some 12) rfl rfl Try.func66 (by kernel_rfl) rfl #[.slice A0 l0.length c0, .string a1_2] rfl (by (try simp only [List.map_toArray, List.map_cons, List.map_nil]) <;> rfl) ?_; (with_reducible refine (wire_Text.calls k _ _ l0 a1_2 t102 _ ?side1 ?side2 A5.out).mono ?_); (case side1 => exact xC (Kd.C_below HR0.out HB.out)); (case side2 => exact HC0.out); rintro e w8 ⟨v103, rfl, ho0, hb⟩; refine ⟨_, rfl, ?_⟩; have n0_ := Aside0.mk (Kd.R_lower ho0 (below_size (xS HB.out (ge GE101.out g0)))); have n2_ := Aside0.mk (below_step (xS HB.out (ge GE101.out g0)) hb); clear HB; revert n0_ n2_; intro HO104 HB; (try clear hb); (try clear ho0)))
  go_ret
  exact ⟨_, by first | rfl | simp [*], by (with_reducible repeat (first | apply Kd.R_alloc | apply Kd.R_drewN | apply Kd.R_drew)); exact HO104.out, by repeat (first | (with_reducible first | exact HB.out | apply below_alloc | apply pw_below_drewN | apply below_drew1 | refine below_set ?_ GE101.out) | exact HB.out)⟩
 ·rw [if_neg c4] at H
  have c4b0 : (a2 == 4) = false := beq_eq_false_iff_ne.mpr c4
  have c4b1 : (a2 != 4) = true := bne_iff_ne.mpr c4
  replace H := Option.bind_eq_some_iff.mp H
  obtain ⟨t105, A90, H⟩ := H
  replace H : (some t105) = some r := H
  have A9 := Aside0.mk A90
  clear A90
  obtain rfl := Option.some.inj H
  go_enter Try.func64, Try.ntmps64
  go_wp2_with (first | ((with_reducible refine gate_dst (N := 4) rfl ?_); refine box_event ?hg (N := 4) ?hd (cs := #[.bool a1_0, .int .i64 a1_1, .string a1_2]) (t := 26) ?hr ?_; (case hd => rfl); (case hg => rfl); (case hr => first | (go_simp; done) | (go_simp; rfl)); intro gb101 hg w10 hbox hb; have n0_ := Aside0.mk (below_step (xW HB.out) hb); have n1_ := Aside0.mk (hbox); have n3_ := Aside0.mk ((by rw [hg]; exact (below_size (xW HB.out)) : w.heap.size ≤ gb101)); clear HB; revert n0_ n1_ n3_; intro HB BK101 GE101; clear hb hbox hg; have hcz11_0 : w10.cell? ⟨gb101, 0, none⟩ = some (.bool a1_0) := (blk_cell BK101.out 0).trans rfl; have hcz11_1 : w10.cell? ⟨gb101, 1, none⟩ = some (.int .i64 a1_1) := (blk_cell BK101.out 1).trans rfl; have hcz11_2 : w10.cell? ⟨gb101, 2, none⟩ = some (.string a1_2) := (blk_cell BK101.out 2).trans rfl; have hfz11_0 := blk_frozen BK101.out 0; have hfz11_1 := blk_frozen BK101.out 1; have hfz11_2 := blk_frozen BK101.out 2) | ((with_reducible refine gate_callee (f := 67) rfl ?_); refine goesL_ (some 16) rfl rfl Try.func67 (by kernel_rfl) rfl #[.slice A0 l0.length c0, .int .i64 a1_1] rfl (by (try simp only [List.map_toArray, List.map_cons, List.map_nil]) <;> rfl) ?_; (with_reducible refine (wire_S.calls k _ _ l0 a1_1 t105 _ ?side1 ?side2 A9.out).mono ?_); (case side1 => exact xC (Kd.C_below HR0.out HB.out)); (case side2 => exact HC0.out); rintro e w12 ⟨v106, rfl, ho0, hb⟩; refine ⟨_, rfl, ?_⟩; have n0_ := Aside0.mk (Kd.R_lower ho0 (below_size (xS HB.out (ge GE101.out g0)))); have n2_ := Aside0.mk (below_step (xS HB.out (ge GE101.out g0)) hb); clear HB; revert n0_ n2_; intro HO107 HB; (try clear hb); (try clear ho0)))
  go_ret
  exact ⟨_, by first | rfl | simp [*], by (with_reducible repeat (first | apply Kd.R_alloc | apply Kd.R_drewN | apply Kd.R_drew)); exact HO107.out, by repeat (first | (with_reducible first | exact HB.out | apply below_alloc | apply pw_below_drewN | apply below_drew1 | refine below_set ?_ GE101.out) | exact HB.out)⟩
theorem fn_enters {f : FuncId} {fn : Func} (hf : Try.prog.funcs[f]? = some fn) (hname : (fn.name == "runtime.NumGoroutine") = false) (hb : fn.body.isSome = true)
    {oi : Oper} {x : Operand} {xs : Array Operand} {ts : Array TypeId} {a : Act} {w : World} {args : Array Value}
    (hop : oi.op = .call { callee := .value x, args := xs, argTypes := ts }) (hx : a.eval x = .func (.func f) #[] #[]) (hargs : xs.map a.eval = args) :
    (execOp a.eval oi).run Try.prog w = .ok (.enter f args) w := by
  have he := enters_ hf hname hb args w
  subst hargs
  unfold execOp
  simp [hop, resolve, Deferred.ofValue, invoke, hx, he]
def cmp_isNaN_int64.f (a0 : Int) : Option (Bool) := some (a0 != a0)
set_option maxHeartbeats 8000000 in
set_option maxRecDepth 100000 in
theorem cmp_isNaN_int64.calls (a0 : Int) (r : Bool) (w : World) (h : cmp_isNaN_int64.f a0 = some r) :
  Calls Try.prog 97 #[.int .i64 a0] w fun e w' => e = .returned (.bool r) ∧ Drawn0 w w' := by
 have H : (some (a0 != a0)) = some r := h
 clear h
 obtain rfl := Option.some.inj H
 go_enter Try.func97, Try.ntmps97
 go_wp2
 go_ret
 exact ⟨by first | rfl | (simp; done) | (simp [*]; done), by repeat (first | exact Drawn0.refl _ | apply Drawn0.step)⟩
def cmp_Compare_int64.f (a0 : Int) (a1 : Int) : Option (Int) := (cmp_isNaN_int64.f a0).bind fun t101 => ((cmp_isNaN_int64.f a1).bind fun t102 => (if t101 = true then (if t102 = true then (some 0) else (some (-1))) else (if t102 = true then (some 1) else (if a0 < a1 then (some (-1)) else (if a0 > a1 then (some 1) else (some 0))))))
set_option maxHeartbeats 8000000 in
set_option maxRecDepth 100000 in
theorem cmp_Compare_int64.calls (a0 : Int) (a1 : Int) (r : Int) (w : World) (h : cmp_Compare_int64.f a0 a1 = some r) :
  Calls Try.prog 85 #[.int .i64 a0, .int .i64 a1] w fun e w' => e = .returned (.int .i64 r) ∧ Drawn0 w w' := by
 have H : ((cmp_isNaN_int64.f a0).bind fun t101 => ((cmp_isNaN_int64.f a1).bind fun t102 => (if t101 = true then (if t102 = true then (some 0) else (some (-1))) else (if t102 = true then (some 1) else (if a0 < a1 then (some (-1)) else (if a0 > a1 then (some 1) else (some 0))))))) = some r := h
 clear h
 replace H := Option.bind_eq_some_iff.mp H
 obtain ⟨t101, A30, H⟩ := H
 (try dsimp only at H)
 have A3 := Aside0.mk A30
 clear A30
 replace H := Option.bind_eq_some_iff.mp H
 obtain ⟨t102, A40, H⟩ := H
 (try dsimp only at H)
 have A4 := Aside0.mk A40
 clear A40
 by_cases c5 : t101 = true
 ·subst c5
  rw [if_pos rfl] at H
  by_cases c6 : t102 = true
  rotate_left
  ·replace c6 := Bool.eq_false_iff.mpr c6
   subst c6
   rw [if_neg (show ¬ (false = true) by decide)] at H
   obtain rfl := Option.some.inj H
   go_enter Try.func85, Try.ntmps85
   go_wp2_with (first | ((with_reducible refine gate_callee (f := 97) rfl ?_); refine goesL_ (some 8) rfl rfl Try.func97 (by kernel_rfl) rfl #[.int .i64 a0] rfl (by (try simp only [List.map_toArray, List.map_cons, List.map_nil]) <;> rfl) ?_; (with_reducible refine (cmp_isNaN_int64.calls a0 true _ A3.out).mono ?_); rintro e w' ⟨rfl, ⟨nd, rfl⟩⟩; refine ⟨_, rfl, ?_⟩) | ((with_reducible refine gate_callee (f := 97) rfl ?_); refine goesL_ (some 10) rfl rfl Try.func97 (by kernel_rfl) rfl #[.int .i64 a1] rfl (by (try simp only [List.map_toArray, List.map_cons, List.map_nil]) <;> rfl) ?_; (with_reducible refine (cmp_isNaN_int64.calls a1 false _ A4.out).mono ?_); rintro e w' ⟨rfl, ⟨nd, rfl⟩⟩; refine ⟨_, rfl, ?_⟩))
   go_ret
   exact ⟨by first | rfl | (simp; done) | (simp [*]; done), by repeat (first | exact Drawn0.refl _ | apply Drawn0.step)⟩
  subst c6
  rw [if_pos rfl] at H
  obtain rfl := Option.some.inj H
  go_enter Try.func85, Try.ntmps85
  go_wp2_with (first | ((with_reducible refine gate_callee (f := 97) rfl ?_); refine goesL_ (some 8) rfl rfl Try.func97 (by kernel_rfl) rfl #[.int .i64 a0] rfl (by (try simp only [List.map_toArray, List.map_cons, List.map_nil]) <;> rfl) ?_; (with_reducible refine (cmp_isNaN_int64.calls a0 true _ A3.out).mono ?_); rintro e w' ⟨rfl, ⟨nd, rfl⟩⟩; refine ⟨_, rfl, ?_⟩) | ((with_reducible refine gate_callee (f := 97) rfl ?_); refine goesL_ (some 10) rfl rfl Try.func97 (by kernel_rfl) rfl #[.int .i64 a1] rfl (by (try simp only [List.map_toArray, List.map_cons, List.map_nil]) <;> rfl) ?_; (with_reducible refine (cmp_isNaN_int64.calls a1 true _ A4.out).mono ?_); rintro e w' ⟨rfl, ⟨nd, rfl⟩⟩; refine ⟨_, rfl, ?_⟩))
  go_ret
  exact ⟨by first | rfl | (simp; done) | (simp [*]; done), by repeat (first | exact Drawn0.refl _ | apply Drawn0.step)⟩
 ·replace c5 := Bool.eq_false_iff.mpr c5
  subst c5
  rw [if_neg (show ¬ (false = true) by decide)] at H
  by_cases c7 : t102 = true
  ·subst c7
   rw [if_pos rfl] at H
   obtain rfl := Option.some.inj H
   go_enter Try.func85, Try.ntmps85
   go_wp2_with (first | ((with_reducible refine gate_callee (f := 97) rfl ?_); refine goesL_ (some 8) rfl rfl Try.func97 (by kernel_rfl) rfl #[.int .i64 a0] rfl (by (try simp only [List.map_toArray, List.map_cons, List.map_nil]) <;> rfl) ?_; (with_reducible refine (cmp_isNaN_int64.calls a0 false _ A3.out).mono ?_); rintro e w' ⟨rfl, ⟨nd, rfl⟩⟩; refine ⟨_, rfl, ?_⟩) | ((with_reducible refine gate_callee (f := 97) rfl ?_); refine goesL_ (some 10) rfl rfl Try.func97 (by kernel_rfl) rfl #[.int .i64 a1] rfl (by (try simp only [List.map_toArray, List.map_cons, List.map_nil]) <;> rfl) ?_; (with_reducible refine (cmp_isNaN_int64.calls a1 true _ A4.out).mono ?_); rintro e w' ⟨rfl, ⟨nd, rfl⟩⟩; refine ⟨_, rfl, ?_⟩))
   go_ret
   exact ⟨by first | rfl | (simp; done) | (simp [*]; done), by repeat (first | exact Drawn0.refl _ | apply Drawn0.step)⟩
  ·replace c7 := Bool.eq_false_iff.mpr c7
   subst c7
   rw [if_neg (show ¬ (false = true) by decide)] at H
   by_cases c8 : a0 < a1
   ·rw [if_pos c8] at H
    have c8b0 : decide (a0 < a1) = true := decide_eq_true c8
    clear c8
    obtain rfl := Option.some.inj H
    go_enter Try.func85, Try.ntmps85
    go_wp2_with (first | ((with_reducible refine gate_callee (f := 97) rfl ?_); refine goesL_ (some 8) rfl rfl Try.func97 (by kernel_rfl) rfl #[.int .i64 a0] rfl (by (try simp only [List.map_toArray, List.map_cons, List.map_nil]) <;> rfl) ?_; (with_reducible refine (cmp_isNaN_int64.calls a0 false _ A3.out).mono ?_); rintro e w' ⟨rfl, ⟨nd, rfl⟩⟩; refine ⟨_, rfl, ?_⟩) | ((with_reducible refine gate_callee (f := 97) rfl ?_); refine goesL_ (some 10) rfl rfl Try.func97 (by kernel_rfl) rfl #[.int .i64 a1] rfl (by (try simp only [List.map_toArray, List.map_cons, List.map_nil]) <;> rfl) ?_; (with_reducible refine (cmp_isNaN_int64.calls a1 false _ A4.out).mono ?_); rintro e w' ⟨rfl, ⟨nd, rfl⟩⟩; refine ⟨_, rfl, ?_⟩))
    go_ret
    exact ⟨by first | rfl | (simp; done) | (simp [*]; done), by repeat (first | exact Drawn0.refl _ | apply Drawn0.step)⟩
   ·rw [if_neg c8] at H
    have c8b0 : decide (a0 < a1) = false := decide_eq_false c8
    clear c8
    by_cases c9 : a0 > a1
    rotate_left
    ·rw [if_neg c9] at H
     have c9b0 : decide (a1 < a0) = false := decide_eq_false c9
     clear c9
     obtain rfl := Option.some.inj H
     go_enter Try.func85, Try.ntmps85
     go_wp2_with (first | ((with_reducible refine gate_callee (f := 97) rfl ?_); refine goesL_ (some 8) rfl rfl Try.func97 (by kernel_rfl) rfl #[.int .i64 a0] rfl (by (try simp only [List.map_toArray, List.map_cons, List.map_nil]) <;> rfl) ?_; (with_reducible refine (cmp_isNaN_int64.calls a0 false _ A3.out).mono ?_); rintro e w' ⟨rfl, ⟨nd, rfl⟩⟩; refine ⟨_, rfl, ?_⟩) | ((with_reducible refine gate_callee (f := 97) rfl ?_); refine goesL_ (some 10) rfl rfl Try.func97 (by kernel_rfl) rfl #[.int .i64 a1] rfl (by (try simp only [List.map_toArray, List.map_cons, List.map_nil]) <;> rfl) ?_; (with_reducible refine (cmp_isNaN_int64.calls a1 false _ A4.out).mono ?_); rintro e w' ⟨rfl, ⟨nd, rfl⟩⟩; refine ⟨_, rfl, ?_⟩))
     go_ret
     exact ⟨by first | rfl | (simp; done) | (simp [*]; done), by repeat (first | exact Drawn0.refl _ | apply Drawn0.step)⟩
    rw [if_pos c9] at H
    have c9b0 : decide (a1 < a0) = true := decide_eq_true c9
    clear c9
    obtain rfl := Option.some.inj H
    go_enter Try.func85, Try.ntmps85
    go_wp2_with (first | ((with_reducible refine gate_callee (f := 97) rfl ?_); refine goesL_ (some 8) rfl rfl Try.func97 (by kernel_rfl) rfl #[.int .i64 a0] rfl (by (try simp only [List.map_toArray, List.map_cons, List.map_nil]) <;> rfl) ?_; (with_reducible refine (cmp_isNaN_int64.calls a0 false _ A3.out).mono ?_); rintro e w' ⟨rfl, ⟨nd, rfl⟩⟩; refine ⟨_, rfl, ?_⟩) | ((with_reducible refine gate_callee (f := 97) rfl ?_); refine goesL_ (some 10) rfl rfl Try.func97 (by kernel_rfl) rfl #[.int .i64 a1] rfl (by (try simp only [List.map_toArray, List.map_cons, List.map_nil]) <;> rfl) ?_; (with_reducible refine (cmp_isNaN_int64.calls a1 false _ A4.out).mono ?_); rintro e w' ⟨rfl, ⟨nd, rfl⟩⟩; refine ⟨_, rfl, ?_⟩))
    go_ret
    exact ⟨by first | rfl | (simp; done) | (simp [*]; done), by repeat (first | exact Drawn0.refl _ | apply Drawn0.step)⟩
end
end Go.Proofs.Ytnfdhgfpjamphaa.X
