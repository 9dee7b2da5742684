/- The law PagePut of fenland/fenlandlaw10 answers true: for every page p, all bytes b and every offset at, page.Get agrees with the reference, page.Put writes what the reference writes, a page that Get accepts is put back as the same bytes, and a page of a valid kind and number of rows that was put behind b is got back where it ends.
Conditions: none beyond those of the row's 'Upto' form (arguments whose bulk is at most 1048576); no promise of other goroutines. -/
import Derived.Below
import Derived.ChangeOld
import Derived.JoinedCond
import Derived.Laws.Bits64
import Derived.Laws.BitsLemmas
import Derived.OpenShut
import Derived.ProofKit
import Derived.Test.YtnfdhgfpjamphaaRows
import Derived.Test.YtnfdhgfpjamphaaYLawPagePut0
import Derived.Test.YtnfdhgfpjamphaaYLawPagePut1
import Derived.Test.YtnfdhgfpjamphaaYLawPagePut10
import Derived.Test.YtnfdhgfpjamphaaYLawPagePut11
import Derived.Test.YtnfdhgfpjamphaaYLawPagePut12
import Derived.Test.YtnfdhgfpjamphaaYLawPagePut6
import Derived.Test.YtnfdhgfpjamphaaYLawPagePut8
import Derived.Test.YtnfdhgfpjamphaaYLawPagePut9
import Derived.WalkKit
namespace Go.Proofs.Ytnfdhgfpjamphaa.X
section
open Go.RowKit Go.Proofs.YtnfdhgfpjamphaaW.PrintWords Go.Proofs.YtnfdhgfpjamphaaW.PrintLast Go.Proofs.YtnfdhgfpjamphaaW.PrintMore
attribute [local go_sem] max2_int min2_int max_two min_two max_three min_three max_four min_four   -- for this text's walks alone
set_option linter.unusedVariables false
set_option linter.unusedSimpArgs false
theorem wraps_u64 (n : Int) (h₀ : 0 ≤ n) (h₁ : n < 2 ^ 64) : IntKind.u64.wrap n = n := by rw [IntKind.wrap_u64]; omega
theorem wrap64_id (n : Int) (h₀ : -9223372036854775808 ≤ n) (h₁ : n < 9223372036854775808) : wrap64 n = n := by unfold wrap64; omega
theorem w_succ (i : Nat) (h : i ≤ 9) : wrap64 ((i : Int) + 1) = ((i + 1 : Nat) : Int) := by
  have e : ((i + 1 : Nat) : Int) = (i : Int) + 1 := by simp
  rw [e]; exact wrap64_id _ (by omega) (by omega)
theorem w_seven (i : Nat) (h : i ≤ 9) : 0 ≤ wrap64 (7 * (i : Int)) := by rw [wrap64_id _ (by omega) (by omega)]; omega
theorem w_add (a i : Int) (h0 : 0 ≤ a) (h1 : 0 ≤ i) (h2 : a + i < 9223372036854775807) : wrap64 (a + i) = a + i := wrap64_id _ (by omega) (by omega)
theorem w_add2 (a i : Int) (h0 : 0 ≤ a) (h1 : 0 ≤ i) (h2 : a + i < 9223372036854775807) : wrap64 (wrap64 (a + i) + 1) = a + (i + 1) := by
  rw [w_add a i h0 h1 h2, wrap64_id _ (by omega) (by omega)]; omega
theorem w_sub (a i : Int) (h0 : 0 ≤ a) (h1 : 0 ≤ i) (h2 : a < 9223372036854775807) (h3 : i < 9223372036854775807) : wrap64 (a - i) = a - i := wrap64_id _ (by omega) (by omega)
def leb (n : Nat) : List Int := if n < 128 then [(n : Int)] else ((n % 128 + 128 : Nat) : Int) :: leb (n / 128)
termination_by n
decreasing_by omega
def p7 (i : Nat) : Int := 2 ^ (7 * i)
theorem p7_0 : p7 0 = 1 := by decide
theorem p7_9 : p7 9 = 9223372036854775808 := by decide
theorem p7_8 : p7 8 = 72057594037927936 := by decide
def scan : Nat → Int → List Int → Int × Int × Int
  | _, _, [] => (0, 0, 6)
  | i, n, c :: t => if i = 9 ∧ c > 1 then (0, 0, 5) else if c ≥ 128 then scan (i + 1) (n + (c % 128) * p7 i) t else if c = 0 ∧ i > 0 then (0, 0, 5) else (n + c * p7 i, (i : Int) + 1, 0)
def fin (at_ : Int) (s : Int × Int × Int) : Int × Int × Int := (s.1, if s.2.2 = 0 then at_ + s.2.1 else 0, s.2.2)
def Bytes (l : List Int) : Prop := ∀ c ∈ l, 0 ≤ c ∧ c < 256
theorem Bytes.nil : Bytes [] := by simp [Bytes]
theorem Bytes.append {a b : List Int} (ha : Bytes a) (hb : Bytes b) : Bytes (a ++ b) := fun c hc => (List.mem_append.1 hc).elim (ha c) (hb c)
theorem Bytes.drop {a : List Int} (ha : Bytes a) (n : Nat) : Bytes (a.drop n) := fun c hc => ha c (List.mem_of_mem_drop hc)
theorem Bytes.take {a : List Int} (ha : Bytes a) (n : Nat) : Bytes (a.take n) := fun c hc => ha c (List.mem_of_mem_take hc)
theorem pow7 (i : Nat) (h : i ≤ 9) : (0 : Int) < p7 i ∧ p7 i ≤ 9223372036854775808 ∧ p7 (i + 1) = 128 * p7 i ∧ (i ≤ 8 → p7 i ≤ 72057594037927936) := by
  have : i = 0 ∨ i = 1 ∨ i = 2 ∨ i = 3 ∨ i = 4 ∨ i = 5 ∨ i = 6 ∨ i = 7 ∨ i = 8 ∨ i = 9 := by omega
  rcases this with h | h | h | h | h | h | h | h | h | h <;> subst h <;> decide
theorem shl_part (c : Int) (i : Nat) (h0 : 0 ≤ c) (h1 : c < 256) (hi : i ≤ 9) (h9 : i = 9 → c ≤ 1) :
    shl .u64 (IntKind.u64.wrap (Go.bits .and .u8 c 127)) (wrap64 (7 * (i : Int))) = (c % 128) * p7 i := by
  have e1 : Go.bits .and .u8 c 127 = c % 128 := bits_mask .u8 8 (by decide) wraps_u8 7 (by decide) c h0 h1
  have e2 : wrap64 (7 * (i : Int)) = 7 * (i : Int) := wrap64_id _ (by omega) (by omega)
  have e3 : min ((7 * (i : Int)).toNat) IntKind.u64.bits = 7 * i := by
    have : IntKind.u64.bits = 64 := rfl
    omega
  obtain ⟨p0, p1, p2, p3⟩ := pow7 i hi
  rw [e1, e2, wraps_u64 _ (by omega) (by omega)]
  unfold shl
  rw [e3]
  change IntKind.u64.wrap (c % 128 * p7 i) = _
  generalize hp : p7 i = p at *
  have hc : 0 ≤ c % 128 ∧ c % 128 < 128 := by omega
  have hm0 : 0 ≤ (c % 128) * p := Int.mul_nonneg hc.1 (by omega)
  have hm1 : (c % 128) * p < 2 ^ 64 := by
    by_cases h8 : i ≤ 8
    · have := p3 h8
      calc (c % 128) * p ≤ 128 * p := Int.mul_le_mul_of_nonneg_right (by omega) (by omega)
        _ < 2 ^ 64 := by omega
    · have := h9 (by omega)
      have : c % 128 ≤ 1 := by omega
      calc (c % 128) * p ≤ 1 * p := Int.mul_le_mul_of_nonneg_right (by omega) (by omega)
        _ < 2 ^ 64 := by omega
  exact wraps_u64 _ hm0 hm1
theorem or_part (n x : Int) (j : Nat) (h0 : 0 ≤ n) (h1 : n < 2 ^ j) (hn : n < 2 ^ 64) (hx0 : 0 ≤ x) (hx : x % 2 ^ j = 0) (hx1 : x < 2 ^ 64) : Go.bits .or .u64 n x = n + x := by
  obtain ⟨a, rfl⟩ := Int.eq_ofNat_of_zero_le hx0
  obtain ⟨b, rfl⟩ := Int.eq_ofNat_of_zero_le h0
  have ha : a < 2 ^ 64 := by exact_mod_cast hx1
  have hb : b < 2 ^ 64 := by exact_mod_cast hn
  have hb' : b < 2 ^ j := by exact_mod_cast h1
  have hd : a % 2 ^ j = 0 := by exact_mod_cast hx
  have hq : a = 2 ^ j * (a / 2 ^ j) := by
    have := Nat.div_add_mod a (2 ^ j)
    omega
  rw [(bits_nat .u64 64 (by decide) wraps_u64 b a hb ha).2, Nat.or_comm]
  rw [hq, ← Nat.two_pow_add_eq_or_of_lt hb' (a / 2 ^ j)]
  push_cast
  omega
theorem acc_part (n c : Int) (i : Nat) (h0 : 0 ≤ c) (h1 : c < 256) (hi : i ≤ 9) (h9 : i = 9 → c ≤ 1) (hn : 0 ≤ n) (hn1 : n < p7 i) :
    Go.bits .or .u64 n (shl .u64 (IntKind.u64.wrap (Go.bits .and .u8 c 127)) (wrap64 (7 * (i : Int)))) = n + (c % 128) * p7 i ∧ 0 ≤ n + (c % 128) * p7 i ∧ n + (c % 128) * p7 i < p7 (i + 1) ∧ n + (c % 128) * p7 i < 2 ^ 64 := by
  rw [shl_part c i h0 h1 hi h9]
  obtain ⟨p0, p1, p2, p3⟩ := pow7 i hi
  have hc : 0 ≤ c % 128 ∧ c % 128 ≤ 127 := by omega
  have hm0 : 0 ≤ (c % 128) * p7 i := Int.mul_nonneg hc.1 (by omega)
  have hmd : ((c % 128) * p7 i) % p7 i = 0 := Int.mul_emod_left _ _
  have hm2 : (c % 128) * p7 i ≤ 127 * p7 i := Int.mul_le_mul_of_nonneg_right (by omega) (by omega)
  have hm1 : (c % 128) * p7 i < 2 ^ 64 ∧ n + (c % 128) * p7 i < 2 ^ 64 := by
    by_cases h8 : i ≤ 8
    · have := p3 h8
      omega
    · have := h9 (by omega)
      have : (c % 128) * p7 i ≤ 1 * p7 i := Int.mul_le_mul_of_nonneg_right (by omega) (by omega)
      omega
  refine ⟨or_part n _ (7 * i) hn hn1 (by omega) hm0 hmd hm1.1, by omega, by rw [p2]; omega, hm1.2⟩
theorem rd_drop {L : List Int} {i : Nat} {c : Int} {t : List Int} (h : L.drop i = c :: t) : i < L.length ∧ rd L (i : Int) = c ∧ L.drop (i + 1) = t ∧ c ∈ L := by
  have hl : i < L.length := by
    have := congrArg List.length h
    simp at this; omega
  have e := List.drop_eq_getElem_cons hl
  rw [h] at e
  injection e with e1 e2
  refine ⟨hl, ?_, e2.symm, ?_⟩
  · unfold rd
    simp [List.getD, hl, e1]
  · rw [e1]; exact List.getElem_mem hl
theorem wire_l0 (L : List Int) (hL : Bytes L) (a : Int) (ha : 0 ≤ a) (hlen : a + (L.length : Int) < 4611686018427387904) :
    ∀ (rest : List Int) (i k : Nat) (n : Int), i ≤ 9 → L.drop i = rest → 0 ≤ n → n < p7 i → rest.length < k →
      wire_ReadU.l0 k a n 6 L (L.length : Int) (i : Int) = some (fin a (scan i n rest)) := by
  intro rest
  induction rest with
  | nil =>
    intro i k n hi hd h0 h1 hk
    obtain ⟨k, rfl⟩ : ∃ k', k = k' + 1 := ⟨k - 1, by simp at hk; omega⟩
    have hl : L.length ≤ i := by have := congrArg List.length hd; simp at this; omega
    have hx : ¬ ((i : Int) < (L.length : Int)) := by omega
    simp only [wire_ReadU.l0, hx, if_false, scan, fin]
    simp
  | cons c t ih =>
    intro i k n hi hd h0 h1 hk
    obtain ⟨k, rfl⟩ : ∃ k', k = k' + 1 := ⟨k - 1, by simp at hk; omega⟩
    obtain ⟨hl, hrd, hd', hc⟩ := rd_drop hd
    obtain ⟨c0, c1⟩ := hL c hc
    have x1 : ((i : Int) < (L.length : Int)) := by omega
    have x2 : (0 : Int) ≤ (i : Int) := by omega
    have x3 : (0 : Int) ≤ wrap64 (7 * (i : Int)) := w_seven i hi
    have x4 : wrap64 ((i : Int) + 1) = ((i + 1 : Nat) : Int) := w_succ i hi
    have x5 : wrap64 ((wrap64 (a + (i : Int))) + 1) = a + ((i : Int) + 1) := w_add2 a i ha x2 (by clear h1; omega)
    simp only [wire_ReadU.l0, x1, x2, x3, hrd, if_true, scan, x5]
    by_cases h9 : i = 9
    · subst h9
      have y : ((9 : Nat) : Int) = 9 := rfl
      by_cases hc1 : c > 1
      · simp [hc1, fin]
      · have hcl : ¬ c ≥ 128 := by clear x3 x4 x5; omega
        have hm : c % 128 = c := by clear x3 x4 x5; omega
        have hacc := (acc_part n c 9 c0 c1 (by clear x3 x4 x5; omega) (by clear x3 x4 x5; omega) h0 h1).1
        rw [hm] at hacc
        rw [y] at hacc
        by_cases hz : c = 0
        · subst hz; simp [fin]
        · simp only [hcl, hc1, hz, if_false, false_and, and_false, hacc, y, fin, if_true]
    · have y9 : ¬ ((i : Int) = 9) := fun h => h9 (by exact_mod_cast h)
      obtain ⟨b1, b2, b3, b4⟩ := acc_part n c i c0 c1 hi (fun h => absurd h h9) h0 h1
      by_cases hcl : c ≥ 128
      · simp only [hcl, y9, h9, if_true, if_false, false_and, b1, x4]
        exact ih (i + 1) k _ (by clear x3 x4 x5 b1; omega) hd' b2 b3 (by clear x3 x4 x5 b1; simp at hk; omega)
      · have hm : c % 128 = c := by clear x3 x4 x5 b1; omega
        rw [hm] at b1
        simp only [hcl, y9, h9, if_false, false_and, b1]
        by_cases hz : c = 0
        · subst hz
          by_cases hi0 : i = 0
          · subst hi0; simp [fin]
          · have g1 : (i : Int) > 0 := by clear x3 x4 x5 b1; omega
            have g2 : i > 0 := by clear x3 x4 x5 b1; omega
            simp [g1, g2, fin, hi0]
        · simp only [hz, if_false, false_and, fin, if_true]
theorem wire_ReadU_eq (l : List Int) (hl : Bytes l) (hlen : (l.length : Int) < 1152921504606846976) (a : Int) (k : Nat) (hk : l.length < k) :
    wire_ReadU.f k l a = some (if a < 0 ∨ a > (l.length : Int) then (0, 0, 1) else fin a (scan 0 0 (l.drop a.toNat))) := by
  unfold wire_ReadU.f
  by_cases h0 : a < 0
  · simp [h0]
  · by_cases h1 : a > (l.length : Int)
    · simp [h0, h1]
    · have e0 : (0 : Int) ≤ a := by omega
      have e1 : a ≤ (l.length : Int) := by omega
      simp only [h0, h1, if_false, e0, e1, if_true, or_self]
      have hd : (l.drop a.toNat).length = l.length - a.toNat := List.length_drop ..
      have := wire_l0 (l.drop a.toNat) (hl.drop _) a e0 (by rw [hd]; omega) (l.drop a.toNat) 0 k 0 (by omega) (by simp) (by decide) (by decide) (by rw [hd]; omega)
      simpa [p7_0] using this
theorem ref_l0 (l : List Int) (hL : Bytes l) (a : Nat) (ha : a ≤ l.length) (hlen : (l.length : Int) < 1152921504606846976) :
    ∀ (rest : List Int) (i k : Nat) (n : Int), i ≤ 9 → l.drop (a + i) = rest → a + i ≤ l.length → 0 ≤ n → n < p7 i → 2 * rest.length < k →
      fenlandref01_ReadU.l0 k l (a : Int) n (p7 i) (i : Int) = some (fin a (scan i n rest)) := by
  intro rest
  induction rest with
  | nil =>
    intro i k n hi hd hai h0 h1 hk
    obtain ⟨k, rfl⟩ : ∃ k', k = k' + 1 := ⟨k - 1, by simp at hk; omega⟩
    have hl : l.length ≤ a + i := by have := congrArg List.length hd; simp at this; omega
    have z1 : (i : Int) < 10 := by omega
    have z2 : (i : Int) ≥ wrap64 ((l.length : Int) - (a : Int)) := by clear h1; rw [w_sub _ _ (by omega) (by omega) (by omega) (by omega)]; omega
    simp only [fenlandref01_ReadU.l0, z1, z2, if_true, scan, fin]
    simp
  | cons c t ih =>
    intro i k n hi hd hai h0 h1 hk
    obtain ⟨k, rfl⟩ : ∃ k', k = k' + 2 := ⟨k - 2, by simp at hk; omega⟩
    obtain ⟨hl, hrd, hd', hc⟩ := rd_drop hd
    obtain ⟨c0, c1⟩ := hL c hc
    obtain ⟨p0, p1, p2, p3⟩ := pow7 i hi
    have z1 : (i : Int) < 10 := by omega
    have z4 : (0 : Int) ≤ ((a + i : Nat) : Int) := by omega
    have z5 : ((a + i : Nat) : Int) < (l.length : Int) := by omega
    have z8 : IntKind.u64.wrap c = c := wraps_u64 _ c0 (by omega)
    have z2 : ¬ ((i : Int) ≥ wrap64 ((l.length : Int) - (a : Int))) := by clear h1 p0 p1 p2 p3 z8; rw [w_sub _ _ (by omega) (by omega) (by omega) (by omega)]; omega
    have z3 : wrap64 ((a : Int) + (i : Int)) = ((a + i : Nat) : Int) := by clear h1 p0 p1 p2 p3 z2 z8; rw [w_add _ _ (by omega) (by omega) (by omega)]; simp
    have z6 : wrap64 (((a + i : Nat) : Int) + 1) = (a : Int) + ((i : Int) + 1) := by clear h1 p0 p1 p2 p3 z2 z3 z8; rw [w_add _ _ (by omega) (by omega) (by omega)]; simp; omega
    have z7 : wrap64 ((i : Int) + 1) = ((i + 1 : Nat) : Int) := w_succ i hi
    have z9 : Int.tmod c 128 = c % 128 := Int.tmod_eq_emod_of_nonneg c0
    simp only [fenlandref01_ReadU.l0, z1, z2, z3, z4, z5, if_true, if_false, hrd, z8]
    by_cases h9 : i = 9
    · subst h9
      have y : ((9 : Nat) : Int) = 9 := rfl
      simp only [y, if_true, fenlandref01_ReadU.j2, scan]
      by_cases hc1 : c > 1
      · simp [hc1, fin]
      · have hcl : c < 128 := by clear z2 z3 z6 z7 z8; omega
        have hm : c % 128 = c := by clear z2 z3 z6 z7 z8; omega
        obtain ⟨b1, b2, b3, b4⟩ := acc_part n c 9 c0 c1 (by clear z2 z3 z6 z7 z8; omega) (by clear z2 z3 z6 z7 z8; omega) h0 h1
        have hcl2 : ¬ c ≥ 128 := by clear z2 z3 z6 z7 z8; omega
        rw [hm] at b2 b4
        by_cases hz : c = 0
        · subst hz; simp [fin]
        · have g : c * p7 9 < 2 ^ 64 := by clear z2 z3 z6 z7 z8; omega
          have g0 : 0 ≤ c * p7 9 := Int.mul_nonneg c0 (by decide)
          simp only [hcl, hc1, hz, hcl2, if_false, false_and, and_false, if_true, decide_false, Bool.false_eq_true, z9, hm, fin, y]
          rw [show ((9 : Int)) = ((9 : Nat) : Int) from rfl, z3, z6]
          rw [Int.mul_comm (p7 9) c, wraps_u64 (c * p7 9) g0 g, wraps_u64 _ b2 b4]
    · have y9 : ¬ ((i : Int) = 9) := fun h => h9 (by exact_mod_cast h)
      simp only [y9, if_false, fenlandref01_ReadU.j2, scan, h9, false_and, Bool.false_eq_true, z9]
      obtain ⟨b1, b2, b3, b4⟩ := acc_part n c i c0 c1 hi (by clear z2 z3 z6 z7 z8; omega) h0 h1
      have hm0 : 0 ≤ (c % 128) * p7 i := Int.mul_nonneg (by clear z2 z3 z6 z7 z8; omega) (by clear z2 z3 z6 z7 z8; omega)
      have e1 : IntKind.u64.wrap (n + IntKind.u64.wrap (p7 i * (c % 128))) = n + (c % 128) * p7 i := by
        rw [Int.mul_comm (p7 i) (c % 128), wraps_u64 ((c % 128) * p7 i) hm0 (by clear z2 z3 z6 z7 z8; omega), wraps_u64 _ b2 b4]
      rw [e1]
      by_cases hcl : c ≥ 128
      · have hcl2 : ¬ c < 128 := by clear z2 z3 z6 z7 z8; omega
        have e2 : IntKind.u64.wrap (p7 i * 128) = p7 (i + 1) := by
          have := p3 (by clear z2 z3 z6 z7 z8; omega)
          rw [p2, Int.mul_comm, wraps_u64 _ (by clear z2 z3 z6 z7 z8; omega) (by clear z2 z3 z6 z7 z8; omega)]
        simp only [hcl, hcl2, if_true, if_false, e2, z7]
        exact ih (i + 1) k _ (by clear z2 z3 z6 z7 z8; omega) (by rw [← Nat.add_assoc]; exact hd') (by clear z2 z3 z6 z7 z8; omega) b2 b3 (by clear z2 z3 z6 z7 z8; simp at hk; omega)
      · have hcl2 : c < 128 := by clear z2 z3 z6 z7 z8; omega
        have hm : c % 128 = c := by clear z2 z3 z6 z7 z8; omega
        rw [hm]
        simp only [hcl, hcl2, if_true, if_false, z3, z6]
        by_cases hz : c = 0
        · subst hz
          by_cases hi0 : i = 0
          · subst hi0; simp [fin]
          · have g1 : (i : Int) > 0 := by clear z2 z3 z6 z7 z8; omega
            have g2 : i > 0 := by clear z2 z3 z6 z7 z8; omega
            simp [g1, g2, fin, hi0]
        · simp only [hz, if_false, false_and, fin, if_true]
theorem ref_ReadU_eq (l : List Int) (hl : Bytes l) (hlen : (l.length : Int) < 1152921504606846976) (a : Int) (k : Nat) (hk : 2 * l.length + 2 < k) :
    fenlandref01_ReadU.f k l a = some (if a < 0 ∨ a > (l.length : Int) then (0, 0, 1) else fin a (scan 0 0 (l.drop a.toNat))) := by
  obtain ⟨k, rfl⟩ : ∃ k', k = k' + 1 := ⟨k - 1, by omega⟩
  unfold fenlandref01_ReadU.f
  by_cases h0 : a < 0
  · simp [h0, fenlandref01_ReadU.j0]
  · by_cases h1 : a > (l.length : Int)
    · simp [h0, h1, fenlandref01_ReadU.j0]
    · simp only [h0, h1, if_false, or_self, fenlandref01_ReadU.j0, decide_false, Bool.false_eq_true]
      obtain ⟨b, rfl⟩ := Int.eq_ofNat_of_zero_le (show (0 : Int) ≤ a by omega)
      have hd : (l.drop b).length = l.length - b := List.length_drop ..
      have := ref_l0 l hl b (by omega) hlen (l.drop b) 0 k 0 (by omega) (by simp) (by omega) (by decide) (by decide) (by rw [hd]; omega)
      simpa [p7_0] using this
/-! what scan answers -/
theorem scan_bad : ∀ (rest : List Int) (i : Nat) (n : Int), (scan i n rest).2.2 ≠ 0 → ((scan i n rest).2.2 = 5 ∨ (scan i n rest).2.2 = 6) ∧ (scan i n rest).1 = 0
  | [], i, n => by simp [scan]
  | c :: t, i, n => by
    unfold scan
    split
    · simp
    · split
      · exact scan_bad t _ _
      · split <;> simp
theorem leb_length_pos (n : Nat) : 0 < (leb n).length := by unfold leb; split <;> simp
theorem leb_length : ∀ (j n : Nat), n < 128 ^ (j + 1) → (leb n).length ≤ j + 1
  | 0, n, h => by unfold leb; simp at h; simp [h]
  | j + 1, n, h => by
    unfold leb
    split
    · simp
    · have := leb_length j (n / 128) (by rw [Nat.div_lt_iff_lt_mul (by decide)]; rw [Nat.pow_succ] at h; exact h)
      simp; omega
theorem leb_bytes : ∀ (n : Nat), Bytes (leb n) := by
  intro n
  induction n using Nat.strongRecOn with
  | ind n ih =>
    unfold leb
    split
    · intro c hc; simp at hc; omega
    · intro c hc
      rcases List.mem_cons.1 hc with h | h
      · omega
      · exact ih (n / 128) (by omega) c h
theorem scan_leb : ∀ (n : Nat) (i : Nat) (acc : Int) (t : List Int), i ≤ 9 → (n : Int) * p7 i < 2 ^ 64 → (i > 0 → n > 0) →
    scan i acc (leb n ++ t) = (acc + (n : Int) * p7 i, (i : Int) + ((leb n).length : Int), 0) := by
  intro n
  induction n using Nat.strongRecOn with
  | ind n ih =>
    intro i acc t hi hb hp
    obtain ⟨p0, p1, p2, p3⟩ := pow7 i hi
    unfold leb
    by_cases h : n < 128
    · have h9 : ¬ (i = 9 ∧ (n : Int) > 1) := by
        rintro ⟨rfl, h2⟩
        have : (2 : Int) * p7 9 ≤ (n : Int) * p7 9 := Int.mul_le_mul_of_nonneg_right (by omega) (by decide)
        have := p7_9
        omega
      have g : ¬ ((n : Int) ≥ 128) := by omega
      have g2 : ¬ ((n : Int) = 0 ∧ i > 0) := by rintro ⟨a, b⟩; have := hp b; omega
      simp only [h, if_true, List.cons_append, List.nil_append, scan, h9, g, g2, if_false, List.length_singleton]
      simp
    · simp only [h, if_false, List.cons_append, scan]
      have h9 : i ≤ 8 := by
        rcases Nat.lt_or_ge i 9 with h9 | h9
        · omega
        · have : i = 9 := by omega
          subst this
          have : (128 : Int) * p7 9 ≤ (n : Int) * p7 9 := Int.mul_le_mul_of_nonneg_right (by omega) (by decide)
          have := p7_9
          omega
      have h9' : ¬ (i = 9 ∧ ((n % 128 + 128 : Nat) : Int) > 1) := by omega
      have g : ((n % 128 + 128 : Nat) : Int) ≥ 128 := by omega
      simp only [h9', if_false, g, if_true]
      have hdm : (n : Int) = 128 * ((n / 128 : Nat) : Int) + ((n % 128 : Nat) : Int) := by omega
      have hmul : ((n / 128 : Nat) : Int) * (128 * p7 i) + ((n % 128 : Nat) : Int) * p7 i = (n : Int) * p7 i := by
        rw [hdm, Int.add_mul, ← Int.mul_assoc, Int.mul_comm ((n / 128 : Nat) : Int) 128]
        first | done | omega
      have hnn : 0 ≤ ((n % 128 : Nat) : Int) * p7 i := Int.mul_nonneg (by omega) (by omega)
      have hr := ih (n / 128) (by omega) (i + 1) (acc + ((n % 128 + 128 : Nat) : Int) % 128 * p7 i) t (by omega) (by rw [p2]; omega) (by intro _; omega)
      rw [hr, p2]
      have e : ((n % 128 + 128 : Nat) : Int) % 128 = ((n % 128 : Nat) : Int) := by omega
      rw [e]
      simp only [Prod.mk.injEq, List.length_cons, and_true]
      refine ⟨by rw [← hmul]; omega, by push_cast; omega⟩
theorem hi128 (m : Nat) (h : m < 256) : m ||| 128 = m % 128 + 128 := by
  have hh : ∀ m : Fin 256, m.val ||| 128 = m.val % 128 + 128 := by decide +kernel
  exact hh ⟨m, h⟩
theorem scan_ok : ∀ (rest : List Int) (i : Nat) (acc : Int), Bytes rest → i ≤ 9 → (scan i acc rest).2.2 = 0 →
    ∃ (m : Nat) (t : List Int), rest = leb m ++ t ∧ scan i acc rest = (acc + (m : Int) * p7 i, (i : Int) + ((leb m).length : Int), 0) ∧ (m : Int) * p7 i < 2 ^ 64 ∧ (i > 0 → m > 0)
  | [], i, acc, _, _, h => by simp [scan] at h
  | c :: t, i, acc, hB, hi, h => by
    obtain ⟨c0, c1⟩ := hB c (by simp)
    obtain ⟨p0, p1, p2, p3⟩ := pow7 i hi
    unfold scan at h ⊢
    split at h
    · simp at h
    · rename_i h9
      split at h
      · rename_i hc
        obtain ⟨m, t', rfl, e, hm, hp⟩ := scan_ok t (i + 1) _ (fun x hx => hB x (by simp [hx])) (by omega) h
        have hp' := hp (by omega)
        refine ⟨m * 128 + (c % 128).toNat, t', ?_, ?_, ?_, by omega⟩
        · rw [leb.eq_1 (m * 128 + (c % 128).toNat)]
          have : ¬ (m * 128 + (c % 128).toNat < 128) := by omega
          simp only [this, if_false, List.cons_append]
          have e1 : (m * 128 + (c % 128).toNat) / 128 = m := by omega
          have e2 : (((m * 128 + (c % 128).toNat) % 128 + 128 : Nat) : Int) = c := by omega
          rw [e1, e2]
        · simp only [h9, if_false, hc, if_true]
          rw [e, p2]
          rw [leb.eq_1 (m * 128 + (c % 128).toNat)]
          have : ¬ (m * 128 + (c % 128).toNat < 128) := by omega
          have e1 : (m * 128 + (c % 128).toNat) / 128 = m := by omega
          simp only [this, if_false, e1, List.length_cons, Prod.mk.injEq, and_true]
          refine ⟨?_, by push_cast; omega⟩
          have e3 : ((m * 128 + (c % 128).toNat : Nat) : Int) = (m : Int) * 128 + c % 128 := by omega
          rw [e3, Int.add_mul, Int.mul_assoc]
          omega
        · have e3 : ((m * 128 + (c % 128).toNat : Nat) : Int) = (m : Int) * 128 + c % 128 := by omega
          rw [e3, Int.add_mul, Int.mul_assoc]
          rw [p2] at hm
          by_cases h8 : i ≤ 8
          · have q := p3 h8
            have hm2 : (c % 128) * p7 i < 128 * p7 i := Int.mul_lt_mul_of_pos_right (by omega) p0
            have hml : (m : Int) * (128 * p7 i) + (128 * p7 i) ≤ 2 ^ 64 := by
              have hq : (2 : Int) ^ 64 = (2 ^ (64 - 7 * (i + 1))) * (p7 (i + 1)) ∨ i = 8 ∨ i = 9 ∧ False := by
                have : i = 0 ∨ i = 1 ∨ i = 2 ∨ i = 3 ∨ i = 4 ∨ i = 5 ∨ i = 6 ∨ i = 7 ∨ i = 8 := by omega
                rcases this with h | h | h | h | h | h | h | h | h <;> subst h <;> simp [p7]
              rcases hq with hq | hq | hq
              · rw [← p2] at hm ⊢
                generalize p7 (i + 1) = P at *
                generalize (2 : Int) ^ (64 - 7 * (i + 1)) = Q at *
                rw [hq] at hm ⊢
                have : (m : Int) < Q := Int.lt_of_mul_lt_mul_right hm (by omega)
                calc (m : Int) * P + P = ((m : Int) + 1) * P := by rw [Int.add_mul, Int.one_mul]
                  _ ≤ Q * P := Int.mul_le_mul_of_nonneg_right (by omega) (by omega)
              · subst hq
                rw [p7_8] at hm ⊢
                omega
              · exact hq.2.elim
            omega
          · exfalso; have : i = 9 := by omega
            omega
      · rename_i hc
        split at h
        · simp at h
        · rename_i hz
          refine ⟨c.toNat, t, ?_, ?_, ?_, by omega⟩
          · rw [leb.eq_1]
            have : c.toNat < 128 := by omega
            simp [this]; omega
          · rw [leb.eq_1]
            have : c.toNat < 128 := by omega
            have e : ((c.toNat : Nat) : Int) = c := by omega
            simp only [h9, hc, hz, if_false, this, if_true, e, List.length_singleton]
            simp
          · have e : ((c.toNat : Nat) : Int) = c := by omega
            rw [e]
            by_cases h8 : i ≤ 8
            · have := p3 h8
              have : c * p7 i ≤ 128 * p7 i := Int.mul_le_mul_of_nonneg_right (by omega) (by omega)
              omega
            · have : c ≤ 1 := by omega
              have : c * p7 i ≤ 1 * p7 i := Int.mul_le_mul_of_nonneg_right (by omega) (by omega)
              omega
/-! what number and U append -/
theorem wire_number_eq : ∀ (j : Nat) (x : List Int) (n : Nat) (k : Nat), n < 128 ^ (j + 1) → n < 2 ^ 64 → j < k → x.length + j + 1 < 140737488355328 → wire_number.l0 k x (n : Int) = some (x ++ leb n)
  | j, x, n, 0, _, _, hk, _ => by omega
  | j, x, n, k + 1, hn, h64, hk, hx => by
    unfold wire_number.l0 leb
    have hl : x.length < 140737488355328 := by omega
    by_cases h : n < 128
    · have g : ¬ ((n : Int) ≥ 128) := by omega
      have e : (n : Int) % 256 = n := by omega
      simp [h, g, hl, e]
    · have g : (n : Int) ≥ 128 := by omega
      cases j with
      | zero => simp at hn; omega
      | succ j =>
        have e : Go.bits .or .u8 ((n : Int) % 256) 128 = ((n % 128 + 128 : Nat) : Int) := by
          have := (bits_nat .u8 8 (by decide) wraps_u8 (n % 256) 128 (by omega) (by decide)).2
          have e0 : (n : Int) % 256 = ((n % 256 : Nat) : Int) := by omega
          rw [e0]
          have e1 : (((128 : Nat)) : Int) = 128 := rfl
          rw [← e1, this]
          congr 1
          rw [hi128 _ (by omega)]; omega
        have e2 : (n : Int) / 128 = ((n / 128 : Nat) : Int) := by omega
        simp only [h, g, hl, if_true, if_false, e, e2]
        rw [wire_number_eq j _ (n / 128) k (by rw [Nat.div_lt_iff_lt_mul (by decide)]; rw [Nat.pow_succ] at hn; exact hn) (by omega) (by omega) (by simp; omega)]
        simp
theorem ref_U_l0_eq : ∀ (j : Nat) (x : List Int) (n : Nat) (k : Nat), n < 128 ^ (j + 1) → n < 2 ^ 64 → j < k → x.length + j + 1 < 140737488355328 → fenlandref01_U.l0 k (n : Int) x = some (x ++ leb n)
  | j, x, n, 0, _, _, hk, _ => by omega
  | j, x, n, k + 1, hn, h64, hk, hx => by
    unfold fenlandref01_U.l0 leb
    have hl : x.length < 140737488355328 := by omega
    by_cases h : n < 128
    · have g : ¬ ((n : Int) > 127) := by omega
      have e : (n : Int) % 256 = n := by omega
      simp [h, g, hl, e]
    · have g : (n : Int) > 127 := by omega
      cases j with
      | zero => simp at hn; omega
      | succ j =>
        have e1 : Int.tmod (n : Int) 128 = ((n % 128 : Nat) : Int) := by rw [Int.tmod_eq_emod_of_nonneg (by omega)]; omega
        have e2 : Int.tdiv (n : Int) 128 = ((n / 128 : Nat) : Int) := by rw [Int.tdiv_eq_ediv_of_nonneg (by omega)]; omega
        have e : IntKind.u64.wrap (128 + ((n % 128 : Nat) : Int)) % 256 = ((n % 128 + 128 : Nat) : Int) := by
          rw [wraps_u64 _ (by omega) (by omega)]; omega
        have e3 : IntKind.u64.wrap (((n / 128 : Nat) : Int)) = ((n / 128 : Nat) : Int) := wraps_u64 _ (by omega) (by omega)
        simp only [h, g, hl, if_true, if_false, e1, e2, e, e3]
        rw [ref_U_l0_eq j _ (n / 128) k (by rw [Nat.div_lt_iff_lt_mul (by decide)]; rw [Nat.pow_succ] at hn; exact hn) (by omega) (by omega) (by simp; omega)]
        simp
theorem wire_U_eq (l : List Int) (a : Int) (k : Nat) (hl : l.length ≤ 17592186044416) (h0 : 0 ≤ a) (h1 : a < 2 ^ 64) (hk : 10 < k) : wire_U.f k l a = some (l ++ leb a.toNat) := by
  obtain ⟨n, rfl⟩ := Int.eq_ofNat_of_zero_le h0
  have e0 : wire_room.f l 10 = some l := by
    unfold wire_room.f; rw [if_pos]; omega
  unfold wire_U.f wire_number.f
  rw [e0, Option.bind_some, wire_number_eq 9 l n k (by simp; omega) (by omega) (by omega) (by omega)]
  simp
theorem ref_U_eq (l : List Int) (a : Int) (k : Nat) (hl : l.length ≤ 17592186044416) (h0 : 0 ≤ a) (h1 : a < 2 ^ 64) (hk : 10 < k) : fenlandref01_U.f k l a = some (l ++ leb a.toNat) := by
  obtain ⟨n, rfl⟩ := Int.eq_ofNat_of_zero_le h0
  have hl2 : l.length < 140737488355328 := by omega
  unfold fenlandref01_U.f
  simp only [Option.bind_some, List.length_nil, Nat.zero_add, hl2, if_true, List.nil_append]
  rw [ref_U_l0_eq 9 l n k (by simp; omega) (by omega) (by omega) (by omega)]
  simp
theorem u64_range (a : Int) : 0 ≤ IntKind.u64.wrap a ∧ IntKind.u64.wrap a < 2 ^ 64 := by rw [IntKind.wrap_u64]; omega
theorem leb10 (a : Int) (h0 : 0 ≤ a) (h1 : a < 2 ^ 64) : (leb a.toNat).length ≤ 10 := leb_length 9 _ (by simp; omega)
theorem wire_Bytes_eq (l p : List Int) (k : Nat) (hl : l.length ≤ 1099511627776) (hp : p.length ≤ 1099511627776) (hk : 10 < k) : wire_Bytes.f k l p = some (l ++ leb p.length ++ p) := by
  have e0 : wire_room.f l (wrap64 (10 + (p.length : Int))) = some l := by
    rw [wrap64_id _ (by omega) (by omega)]
    unfold wire_room.f; rw [if_pos]; omega
  have e1 : IntKind.u64.wrap (p.length : Int) = (p.length : Int) := wraps_u64 _ (by omega) (by omega)
  unfold wire_Bytes.f wire_sized_byte.f wire_number.f
  rw [e0, Option.bind_some, e1, wire_number_eq 9 l p.length k (by simp; omega) (by omega) (by omega) (by omega)]
  have := leb_length 9 p.length (by simp; omega)
  have h2 : (l ++ leb p.length).length + p.length < 140737488355328 := by simp; omega
  simp only [Option.bind_some, h2, if_true]
theorem ref_Bytes_eq (l p : List Int) (k : Nat) (hl : l.length ≤ 1099511627776) (hp : p.length ≤ 1099511627776) (hk : 10 < k) : fenlandref01_Bytes.f k l p = some (l ++ leb p.length ++ p) := by
  have e1 : IntKind.u64.wrap (p.length : Int) = (p.length : Int) := wraps_u64 _ (by omega) (by omega)
  unfold fenlandref01_Bytes.f
  rw [e1, ref_U_eq l _ k (by omega) (by omega) (by omega) hk]
  have := leb_length 9 p.length (by simp; omega)
  have e3 : ((p.length : Int)).toNat = p.length := by omega
  have h2 : (l ++ leb p.length).length + p.length < 140737488355328 := by simp; omega
  simp only [Option.bind_some, e3, h2, if_true]
def put (l : List Int) (a0 a1 : Int) (p : List Int) : List Int := l ++ leb (IntKind.u64.wrap a0).toNat ++ leb (IntKind.u64.wrap a1).toNat ++ leb p.length ++ p
theorem page_Put_eq (l p : List Int) (a0 a1 : Int) (k : Nat) (hl : l.length ≤ 1000000000000) (hp : p.length ≤ 1000000000000) (hk : 10 < k) : page_Put.f k l a0 a1 p = some (put l a0 a1 p) := by
  have h0 := u64_range a0; have h1 := u64_range a1
  have g0 := leb10 _ h0.1 h0.2; have g1 := leb10 _ h1.1 h1.2
  unfold page_Put.f put
  rw [wire_U_eq l _ k (by omega) h0.1 h0.2 hk, Option.bind_some, wire_U_eq _ _ k (by simp; omega) h1.1 h1.2 hk, Option.bind_some, wire_Bytes_eq _ p k (by simp; omega) (by omega) hk]
  rfl
theorem ref_Put_eq (l p : List Int) (a0 a1 : Int) (k : Nat) (hl : l.length ≤ 1000000000000) (hp : p.length ≤ 1000000000000) (hk : 10 < k) : fenlandref10_Put.f k l a0 a1 p = some (put l a0 a1 p) := by
  have h0 := u64_range a0; have h1 := u64_range a1
  have g0 := leb10 _ h0.1 h0.2; have g1 := leb10 _ h1.1 h1.2
  unfold fenlandref10_Put.f put
  rw [ref_U_eq l _ k (by omega) h0.1 h0.2 hk, Option.bind_some, ref_U_eq _ _ k (by simp; omega) h1.1 h1.2 hk, Option.bind_some, ref_Bytes_eq _ p k (by simp; omega) (by omega) hk]
  rfl
theorem Same_l0_eq (x : List Int) (hx : (x.length : Int) < 4611686018427387904) : ∀ (n i k : Nat), i + n = x.length → n < k → fenlandref01_Same.l0 k x x (i : Int) = some true
  | n, i, 0, _, hk => by omega
  | 0, i, k + 1, h, hk => by
    have : ¬ ((i : Int) < (x.length : Int)) := by omega
    simp only [fenlandref01_Same.l0, this, if_false]
  | n + 1, i, k + 1, h, hk => by
    have h1 : (i : Int) < (x.length : Int) := by omega
    have h0 : (0 : Int) ≤ (i : Int) := by omega
    have e : wrap64 ((i : Int) + 1) = ((i + 1 : Nat) : Int) := by
      have e : ((i + 1 : Nat) : Int) = (i : Int) + 1 := by simp
      rw [e]; exact wrap64_id _ (by omega) (by omega)
    simp only [fenlandref01_Same.l0, h1, h0, if_true, e]
    exact Same_l0_eq x hx n (i + 1) k (by omega) (by omega)
theorem Same_eq (x : List Int) (k : Nat) (hx : (x.length : Int) < 4611686018427387904) (hk : x.length < k) : fenlandref01_Same.f k x x = some true := by
  unfold fenlandref01_Same.f
  rw [if_pos rfl]
  have := Same_l0_eq x hx x.length 0 k (by omega) hk
  simpa using this
theorem PSame_eq (a b : Int) (x : List Int) (k : Nat) (hx : (x.length : Int) < 4611686018427387904) (hk : x.length < k) : fenlandref10_Same.f k a b x a b x = some true := by
  unfold fenlandref10_Same.f
  simp only [if_true, Same_eq x k hx hk, Option.bind_some]
/-! reading -/
def ru (l : List Int) (a : Int) : Int × Int × Int := if a < 0 ∨ a > (l.length : Int) then (0, 0, 1) else fin a (scan 0 0 (l.drop a.toNat))
theorem ru_cases (l : List Int) (a : Int) (hB : Bytes l) : ((ru l a).2.2 ≠ 0 ∧ (ru l a).2.1 = 0) ∨ ∃ (m b : Nat) (t : List Int), a = (b : Int) ∧ b ≤ l.length ∧ l.drop b = leb m ++ t ∧ (m : Int) < 2 ^ 64 ∧ ru l a = ((m : Int), (b : Int) + ((leb m).length : Int), 0) ∧ b + (leb m).length ≤ l.length := by
  unfold ru
  split
  · left; simp
  · rename_i h
    by_cases he : (scan 0 0 (l.drop a.toNat)).2.2 = 0
    · right
      obtain ⟨m, t, h1, h2, h3, h4⟩ := scan_ok _ 0 0 (hB.drop _) (by omega) he
      refine ⟨m, a.toNat, t, by omega, by omega, h1, by simpa [p7_0] using h3, ?_, ?_⟩
      · rw [h2]; simp [fin, p7_0]; omega
      · have := congrArg List.length h1
        simp at this; omega
    · left
      simp [fin, he]
theorem ru_leb (l : List Int) (b m : Nat) (t : List Int) (hb : b ≤ l.length) (hd : l.drop b = leb m ++ t) (hm : (m : Int) < 2 ^ 64) : ru l (b : Int) = ((m : Int), (b : Int) + ((leb m).length : Int), 0) := by
  unfold ru
  have h : ¬ ((b : Int) < 0 ∨ (b : Int) > (l.length : Int)) := by omega
  rw [if_neg h]
  have e : ((b : Int)).toNat = b := by omega
  rw [e, hd, scan_leb m 0 0 t (by omega) (by simpa [p7_0] using hm) (by omega)]
  simp [fin, p7_0]
def rb (l : List Int) (a : Int) : List Int × Int × Int :=
  if (ru l a).2.2 = 0 then (if (ru l a).1 > 1048576 then ([], 0, 2) else if (ru l a).1 > (l.length : Int) - (ru l a).2.1 then ([], 0, 6) else ((l.take ((ru l a).2.1 + (ru l a).1).toNat).drop (ru l a).2.1.toNat, (ru l a).2.1 + (ru l a).1, 0)) else ([], 0, (ru l a).2.2)
theorem wire_rb (l : List Int) (a : Int) (k : Nat) (hB : Bytes l) (hl : (l.length : Int) ≤ 1000000000000) (hk : 2 * l.length + 2 < k) : wire_ReadBytes.f k l a = some (rb l a) := by
  have hr : wire_ReadU.f k l a = some (ru l a) := wire_ReadU_eq l hB (by omega) a k (by omega)
  unfold wire_ReadBytes.f wire_span.f rb
  rw [hr]
  simp only [Option.bind_some]
  rcases ru_cases l a hB with ⟨h1, h2⟩ | ⟨m, b, t, rfl, hb, hd, hm, e, hle⟩
  · simp only [h1, if_false, Option.bind_some]
    simp [wire_room.f]
  · rw [e]
    simp only [if_true]
    by_cases hbig : (m : Int) > 1048576
    · simp only [hbig, if_true, Option.bind_some]
      simp [wire_room.f]
    · have w1 : wrap64 (m : Int) = (m : Int) := wrap64_id _ (by omega) (by omega)
      have w2 : wrap64 ((l.length : Int) - ((b : Int) + ((leb m).length : Int))) = (l.length : Int) - ((b : Int) + ((leb m).length : Int)) := by
        apply wrap64_id
        · clear w1 hr; omega
        · clear w1 hr; omega
      simp only [hbig, if_false, w1, w2]
      by_cases hs : (m : Int) > (l.length : Int) - ((b : Int) + ((leb m).length : Int))
      · simp only [hs, if_true, Option.bind_some]
        simp [wire_room.f]
      · have w3 : wrap64 ((b : Int) + ((leb m).length : Int) + (m : Int)) = (b : Int) + ((leb m).length : Int) + (m : Int) := by
          apply wrap64_id
          · clear w1 w2 hr; omega
          · clear w1 w2 hr; omega
        simp only [hs, if_false, w3, Option.bind_some]
        clear w1 w2 w3 hr
        have g1 : (0 : Int) ≤ (b : Int) + ((leb m).length : Int) := by omega
        have g2 : (b : Int) + ((leb m).length : Int) ≤ (b : Int) + ((leb m).length : Int) + (m : Int) := by omega
        have g3 : (b : Int) + ((leb m).length : Int) + (m : Int) ≤ (l.length : Int) := by omega
        simp only [g1, g2, g3, if_true]
        unfold wire_room.f
        rw [if_pos]
        · rfl
        · refine ⟨by omega, ?_⟩
          simp only [List.length_drop, List.length_take]
          omega
theorem ref_rb (l : List Int) (a : Int) (k : Nat) (hB : Bytes l) (hl : (l.length : Int) ≤ 1000000000000) (hk : 2 * l.length + 2 < k) : fenlandref01_ReadBytes.f k l a = some (rb l a) := by
  have hr : fenlandref01_ReadU.f k l a = some (ru l a) := ref_ReadU_eq l hB (by omega) a k (by omega)
  unfold fenlandref01_ReadBytes.f rb
  rw [hr]
  simp only [Option.bind_some]
  rcases ru_cases l a hB with ⟨h1, h2⟩ | ⟨m, b, t, rfl, hb, hd, hm, e, hle⟩
  · simp only [h1, if_false]
  · rw [e]
    simp only [if_true]
    by_cases hbig : (m : Int) > 1048576
    · simp only [hbig, if_true]
    · have w1 : wrap64 (m : Int) = (m : Int) := wrap64_id _ (by omega) (by omega)
      have w2 : wrap64 ((l.length : Int) - ((b : Int) + ((leb m).length : Int))) = (l.length : Int) - ((b : Int) + ((leb m).length : Int)) := by
        apply wrap64_id
        · clear w1 hr; omega
        · clear w1 hr; omega
      simp only [hbig, if_false, w1, w2]
      by_cases hs : (m : Int) > (l.length : Int) - ((b : Int) + ((leb m).length : Int))
      · simp only [hs, if_true]
      · have w3 : wrap64 ((b : Int) + ((leb m).length : Int) + (m : Int)) = (b : Int) + ((leb m).length : Int) + (m : Int) := by
          apply wrap64_id
          · clear w1 w2 hr; omega
          · clear w1 w2 hr; omega
        simp only [hs, if_false, w3, Option.bind_some]
        clear w1 w2 w3 hr
        have g1 : (0 : Int) ≤ (b : Int) + ((leb m).length : Int) := by omega
        have g2 : (b : Int) + ((leb m).length : Int) ≤ (b : Int) + ((leb m).length : Int) + (m : Int) := by omega
        have g3 : (b : Int) + ((leb m).length : Int) + (m : Int) ≤ (l.length : Int) := by omega
        simp only [g1, g2, g3, if_true]
        rw [if_pos]
        · simp
        · simp only [List.length_drop, List.length_take, List.length_nil]
          omega
def get (l : List Int) (a : Int) : Int × Int × List Int × Int × Int :=
  if (ru l a).2.2 = 0 then
    if (ru l a).1 < 1 ∨ (ru l a).1 > 4 then (0, 0, [], 0, 100)
    else if (ru l (ru l a).2.1).2.2 = 0 then
      if (ru l (ru l a).2.1).1 > 1024 then (0, 0, [], 0, 100)
      else if (rb l (ru l (ru l a).2.1).2.1).2.2 = 0 then ((ru l a).1, (ru l (ru l a).2.1).1, (rb l (ru l (ru l a).2.1).2.1).1, (rb l (ru l (ru l a).2.1).2.1).2.1, 0)
      else (0, 0, [], 0, (rb l (ru l (ru l a).2.1).2.1).2.2)
    else (0, 0, [], 0, (ru l (ru l a).2.1).2.2)
  else (0, 0, [], 0, (ru l a).2.2)
theorem ru_range (l : List Int) (a : Int) (hB : Bytes l) : (ru l a).2.2 = 0 → 0 ≤ (ru l a).1 ∧ (ru l a).1 < 2 ^ 64 := by
  intro h
  rcases ru_cases l a hB with ⟨h1, h2⟩ | ⟨m, b, t, rfl, hb, hd, hm, e, hle⟩
  · exact absurd h h1
  · rw [e]; constructor
    · simp
    · simpa using hm
theorem page_Get_eq (l : List Int) (a : Int) (k : Nat) (hB : Bytes l) (hl : (l.length : Int) ≤ 1000000000000) (hk : 2 * l.length + 3 < k) : page_Get.f k l a = some (get l a) := by
  obtain ⟨k, rfl⟩ : ∃ k', k = k' + 1 := ⟨k - 1, by omega⟩
  have hr0 : wire_ReadU.f (k + 1) l a = some (ru l a) := wire_ReadU_eq l hB (by omega) a _ (by omega)
  have hr : ∀ x, wire_ReadU.f k l x = some (ru l x) := fun x => wire_ReadU_eq l hB (by omega) x k (by omega)
  have hb : ∀ x, wire_ReadBytes.f k l x = some (rb l x) := fun x => wire_rb l x k hB hl (by omega)
  have hrg := ru_range l a hB
  have hrg2 := ru_range l (ru l a).2.1 hB
  unfold page_Get.f get
  rw [hr0, Option.bind_some]
  generalize ru l a = A at *
  obtain ⟨A1, A2, A3⟩ := A
  simp only at *
  by_cases h0 : A3 = 0
  · have g := hrg h0
    simp only [h0, if_true]
    by_cases h4 : A1 > 4
    · simp [h4, page_Get.j0]
    · have e1 : wrap64 A1 = A1 := wrap64_id _ (by omega) (by omega)
      simp only [h4, if_false, page_coderOf.f, e1, Option.bind_some, page_Get.j0, or_false]
      by_cases h1 : A1 < 1
      · simp [codNil, h1]
      · have e2 : codNil A1 = false := by simp [codNil]; omega
        simp only [e2, Bool.false_eq_true, if_false, h1, hr, Option.bind_some, hb]
        by_cases h2 : (ru l A2).2.2 = 0
        · simp only [h2, if_true]
          by_cases h3 : (ru l A2).1 > 1024
          · simp only [h3, if_true]
          · have g2 := hrg2 h2
            have e3 : wrap64 (ru l A2).1 = (ru l A2).1 := wrap64_id _ (by clear e1; omega) (by clear e1; omega)
            simp only [h3, if_false, e3]
            split <;> rfl
        · simp only [h2, if_false]
  · simp only [h0, if_false]
theorem ref_Get_eq (l : List Int) (a : Int) (k : Nat) (hB : Bytes l) (hl : (l.length : Int) ≤ 1000000000000) (hk : 2 * l.length + 3 < k) : fenlandref10_Get.f k l a = some (get l a) := by
  obtain ⟨k, rfl⟩ : ∃ k', k = k' + 1 := ⟨k - 1, by omega⟩
  have hr0 : fenlandref01_ReadU.f (k + 1) l a = some (ru l a) := ref_ReadU_eq l hB (by omega) a _ (by omega)
  have hr : ∀ x, fenlandref01_ReadU.f k l x = some (ru l x) := fun x => ref_ReadU_eq l hB (by omega) x k (by omega)
  have hb : ∀ x, fenlandref01_ReadBytes.f k l x = some (rb l x) := fun x => ref_rb l x k hB hl (by omega)
  have hrg := ru_range l a hB
  have hrg2 := ru_range l (ru l a).2.1 hB
  unfold fenlandref10_Get.f get
  rw [hr0, Option.bind_some]
  generalize ru l a = A at *
  obtain ⟨A1, A2, A3⟩ := A
  simp only at *
  by_cases h0 : A3 = 0
  · have g := hrg h0
    simp only [h0, if_true]
    by_cases h1 : A1 < 1
    · simp [h1, fenlandref10_Get.j0]
    · have e1 : wrap64 A1 = A1 ∨ A1 > 4 := by
        rcases Int.lt_or_le 4 A1 with h | h
        · exact Or.inr h
        · exact Or.inl (wrap64_id _ (by omega) (by omega))
      by_cases h4 : A1 > 4
      · simp [h1, h4, fenlandref10_Get.j0]
      · replace e1 := e1.resolve_right h4
        simp only [h4, h1, decide_false, if_false, e1, Option.bind_some, fenlandref10_Get.j0, or_false, Bool.false_eq_true, hr, hb]
        by_cases h2 : (ru l A2).2.2 = 0
        · simp only [h2, if_true]
          by_cases h3 : (ru l A2).1 > 1024
          · simp only [h3, if_true]
          · have g2 := hrg2 h2
            have e3 : wrap64 (ru l A2).1 = (ru l A2).1 := wrap64_id _ (by clear e1; omega) (by clear e1; omega)
            simp only [h3, if_false, e3]
            split <;> rfl
        · simp only [h2, if_false]
  · simp only [h0, if_false]
theorem drop_app {l x t : List Int} {b : Nat} (hd : l.drop b = x ++ t) : l.drop (b + x.length) = t := by
  rw [← List.drop_drop, hd]; simp
theorem take_app {l x t : List Int} {b : Nat} (hb : b ≤ l.length) (hd : l.drop b = x ++ t) : l.take (b + x.length) = l.take b ++ x := by
  rw [List.take_add, hd]; simp
/-- what Get accepts is put back as the same bytes -/
theorem get_put (l : List Int) (a : Int) (hB : Bytes l) (hl : (l.length : Int) ≤ 1000000000000) (h : (get l a).2.2.2.2 = 0) :
    ∃ (b c : Nat), a = (b : Int) ∧ b ≤ l.length ∧ (get l a).2.2.2.1 = (c : Int) ∧ c ≤ l.length ∧ put (l.take b) (get l a).1 (get l a).2.1 (get l a).2.2.1 = l.take c ∧ (get l a).2.2.1.length ≤ 1048576 := by
  unfold get at h ⊢
  rcases ru_cases l a hB with ⟨h1, h2⟩ | ⟨m, b, t, rfl, hb, hd, hm, e, hle⟩
  · rw [if_neg h1] at h; exact absurd h h1
  · rw [e] at h ⊢
    simp only [if_true] at h ⊢
    by_cases g1 : (m : Int) < 1 ∨ (m : Int) > 4
    · simp [g1] at h
    · simp only [g1, if_false] at h ⊢
      rcases ru_cases l ((b : Int) + ((leb m).length : Int)) hB with ⟨h1, h2⟩ | ⟨m2, b2, t2, eb2, hb2, hd2, hm2, e2, hle2⟩
      · rw [if_neg h1] at h; exact absurd h h1
      · rw [e2] at h ⊢
        simp only [if_true] at h ⊢
        by_cases g2 : (m2 : Int) > 1024
        · simp [g2] at h
        · simp only [g2, if_false] at h ⊢
          unfold rb at h ⊢
          rcases ru_cases l ((b2 : Int) + ((leb m2).length : Int)) hB with ⟨h1, h2⟩ | ⟨m3, b3, t3, eb3, hb3, hd3, hm3, e3, hle3⟩
          · rw [if_neg h1] at h; simp only at h; rw [if_neg h1] at h; exact absurd h h1
          · rw [e3] at h ⊢
            simp only [if_true] at h ⊢
            by_cases g3 : (m3 : Int) > 1048576
            · simp [g3] at h
            · simp only [g3, if_false] at h ⊢
              by_cases g4 : (m3 : Int) > (l.length : Int) - ((b3 : Int) + ((leb m3).length : Int))
              · simp [g4] at h
              · simp only [g4, if_false, if_true] at h ⊢
                have q2 : b2 = b + (leb m).length := by omega
                have q3 : b3 = b2 + (leb m2).length := by omega
                have e4 : ((b3 : Int) + ((leb m3).length : Int) + (m3 : Int)).toNat = b3 + (leb m3).length + m3 := by omega
                have e5 : ((b3 : Int) + ((leb m3).length : Int)).toNat = b3 + (leb m3).length := by omega
                rw [e4, e5]
                refine ⟨b, b3 + (leb m3).length + m3, rfl, hb, by omega, by omega, ?_, ?_⟩
                · have lenp : ((l.take (b3 + (leb m3).length + m3)).drop (b3 + (leb m3).length)).length = m3 := by
                    simp only [List.length_drop, List.length_take]; omega
                  have w1 : (IntKind.u64.wrap (m : Int)).toNat = m := by rw [wraps_u64 _ (by omega) (by omega)]; omega
                  have w2 : (IntKind.u64.wrap (m2 : Int)).toNat = m2 := by rw [wraps_u64 _ (by omega) (by omega)]; omega
                  unfold put
                  rw [lenp, w1, w2]
                  rw [← take_app hb hd, ← q2, ← take_app hb2 hd2, ← q3, ← take_app hb3 hd3]
                  have hcut : (l.take (b3 + (leb m3).length + m3)).take (b3 + (leb m3).length) = l.take (b3 + (leb m3).length) := by
                    rw [List.take_take]; congr 1; omega
                  rw [← hcut, List.take_append_drop]
                · simp only [List.length_drop, List.length_take]; omega
/-- what is put is got back -/
theorem put_get (l p t : List Int) (a0 a1 : Int) (hB : Bytes (put l a0 a1 p ++ t)) (hl : (l.length : Int) ≤ 1000000000000) (hp : p.length ≤ 20000) :
    get (put l a0 a1 p ++ t) (l.length : Int) = if a0 < 1 ∨ a0 > 4 ∨ a1 < 0 ∨ a1 > 1024 then get (put l a0 a1 p ++ t) (l.length : Int) else (a0, a1, p, ((put l a0 a1 p).length : Int), 0) := by
  split
  · rfl
  · rename_i h
    have w1 : IntKind.u64.wrap a0 = a0 := wraps_u64 _ (by omega) (by omega)
    have w2 : IntKind.u64.wrap a1 = a1 := wraps_u64 _ (by omega) (by omega)
    unfold get
    generalize hL : put l a0 a1 p ++ t = L at *
    have hL' : L = l ++ (leb a0.toNat ++ (leb a1.toNat ++ (leb p.length ++ (p ++ t)))) := by
      rw [← hL]; unfold put; rw [w1, w2]; simp
    have hlen : L.length = l.length + ((leb a0.toNat).length + ((leb a1.toNat).length + ((leb p.length).length + (p.length + t.length)))) := by rw [hL']; simp
    have d1 : L.drop l.length = leb a0.toNat ++ (leb a1.toNat ++ (leb p.length ++ (p ++ t))) := by rw [hL']; simp
    have d2 := drop_app d1
    have d3 := drop_app d2
    have d4 := drop_app d3
    have r1 := ru_leb L l.length a0.toNat _ (by omega) d1 (by omega)
    have r2 := ru_leb L _ a1.toNat _ (by omega) d2 (by omega)
    have r3 := ru_leb L _ p.length _ (by omega) d3 (by omega)
    have c2 : (l.length : Int) + ((leb a0.toNat).length : Int) = ((l.length + (leb a0.toNat).length : Nat) : Int) := by simp
    have c3 : ((l.length + (leb a0.toNat).length : Nat) : Int) + ((leb a1.toNat).length : Int) = ((l.length + (leb a0.toNat).length + (leb a1.toNat).length : Nat) : Int) := by simp
    have t0 : ((a0.toNat : Nat) : Int) = a0 := by omega
    have t1 : ((a1.toNat : Nat) : Int) = a1 := by omega
    rw [r1]
    simp only [c2]
    rw [r2]
    simp only [c3, t0, t1]
    have n1 : ¬ (a0 < 1 ∨ a0 > 4) := by omega
    have n2 : ¬ (a1 > 1024) := by omega
    simp only [if_true, n1, n2, if_false]
    unfold rb
    rw [r3]
    have n3 : ¬ ((p.length : Int) > 1048576) := by omega
    have n4 : ¬ ((p.length : Int) > (L.length : Int) - (((l.length + (leb a0.toNat).length + (leb a1.toNat).length : Nat) : Int) + ((leb p.length).length : Int))) := by omega
    simp only [if_true, n3, n4, if_false]
    have e4 : ((((l.length + (leb a0.toNat).length + (leb a1.toNat).length : Nat) : Int) + ((leb p.length).length : Int)) + (p.length : Int)).toNat = l.length + (leb a0.toNat).length + (leb a1.toNat).length + (leb p.length).length + p.length := by omega
    have e5 : (((l.length + (leb a0.toNat).length + (leb a1.toNat).length : Nat) : Int) + ((leb p.length).length : Int)).toNat = l.length + (leb a0.toNat).length + (leb a1.toNat).length + (leb p.length).length := by omega
    rw [e4, e5, List.drop_take, d4]
    have e6 : (put l a0 a1 p).length = l.length + (leb a0.toNat).length + (leb a1.toNat).length + (leb p.length).length + p.length := by
      unfold put; rw [w1, w2]; simp; omega
    rw [e6]
    simp
    try omega
theorem get_bad (l p t : List Int) (a0 a1 : Int) (hl : (l.length : Int) ≤ 1000000000000) (hp : p.length ≤ 20000) (h : a0 < 1 ∨ a0 > 4 ∨ a1 < 0 ∨ a1 > 1024) (r0 : -9223372036854775808 ≤ a0 ∧ a0 < 9223372036854775808) (r1 : -9223372036854775808 ≤ a1 ∧ a1 < 9223372036854775808) :
    get (put l a0 a1 p ++ t) (l.length : Int) = (0, 0, [], 0, 100) := by
  have h0 := u64_range a0; have h1 := u64_range a1
  unfold get
  generalize hL : put l a0 a1 p ++ t = L at *
  have hL' : L = l ++ (leb (IntKind.u64.wrap a0).toNat ++ (leb (IntKind.u64.wrap a1).toNat ++ (leb p.length ++ (p ++ t)))) := by
    rw [← hL]; unfold put; simp
  have hlen : L.length = l.length + ((leb (IntKind.u64.wrap a0).toNat).length + ((leb (IntKind.u64.wrap a1).toNat).length + ((leb p.length).length + (p.length + t.length)))) := by rw [hL']; simp
  have d1 : L.drop l.length = leb (IntKind.u64.wrap a0).toNat ++ (leb (IntKind.u64.wrap a1).toNat ++ (leb p.length ++ (p ++ t))) := by rw [hL']; simp
  have d2 := drop_app d1
  have q1 := ru_leb L l.length (IntKind.u64.wrap a0).toNat _ (by omega) d1 (by omega)
  have q2 := ru_leb L _ (IntKind.u64.wrap a1).toNat _ (by omega) d2 (by omega)
  have c2 : (l.length : Int) + ((leb (IntKind.u64.wrap a0).toNat).length : Int) = ((l.length + (leb (IntKind.u64.wrap a0).toNat).length : Nat) : Int) := by simp
  have t0 : (((IntKind.u64.wrap a0).toNat : Nat) : Int) = IntKind.u64.wrap a0 := by omega
  have t1 : (((IntKind.u64.wrap a1).toNat : Nat) : Int) = IntKind.u64.wrap a1 := by omega
  rw [q1]
  simp only [c2]
  rw [q2]
  simp only [t0, t1, if_true]
  split
  · rfl
  · rename_i g
    rw [if_pos]
    rw [IntKind.wrap_u64] at g ⊢
    omega
/-- the law, the sanity apart -/
theorem law_put (k : Nat) (a0 a1 : Int) (p b : List Int) (a : Int) (hs : fenlandlaw10_sanity.f k = some true) (r0 : -9223372036854775808 ≤ a0 ∧ a0 < 9223372036854775808) (r1 : -9223372036854775808 ≤ a1 ∧ a1 < 9223372036854775808)
    (hB : Bytes b) (hP : Bytes p) (hl : b.length ≤ 100000000) (hk : 1000000000 < k) : fenlandlaw10_PagePut.f k a0 a1 p b a = some true := by
  unfold fenlandlaw10_PagePut.f
  rw [hs, Option.bind_some]
  split
  · rfl
  · rename_i hp
    obtain ⟨k, rfl⟩ : ∃ k', k = k' + 1 := ⟨k - 1, by omega⟩
    have G0 : page_Get.f (k + 1) b a = some (get b a) := page_Get_eq b a _ hB (by omega) (by omega)
    have G1 : fenlandref10_Get.f (k + 1) b a = some (get b a) := ref_Get_eq b a _ hB (by omega) (by omega)
    have P0 : ∀ j, j = k ∨ j = k + 1 → page_Put.f j b a0 a1 p = some (put b a0 a1 p) := fun j hj => page_Put_eq b p a0 a1 j (by omega) (by omega) (by omega)
    have P1 : fenlandref10_Put.f (k + 1) b a0 a1 p = some (put b a0 a1 p) := ref_Put_eq b p a0 a1 _ (by omega) (by omega) (by omega)
    have h0 := u64_range a0; have h1 := u64_range a1
    have g0 := leb10 _ h0.1 h0.2; have g1 := leb10 _ h1.1 h1.2
    have g2 := leb_length 9 p.length (by simp; omega)
    have lp : (put b a0 a1 p).length = b.length + (leb (IntKind.u64.wrap a0).toNat).length + (leb (IntKind.u64.wrap a1).toNat).length + (leb p.length).length + p.length := by
      unfold put; simp; omega
    have pB : Bytes (put b a0 a1 p) := by
      unfold put; exact ((((hB.append (leb_bytes _)).append (leb_bytes _)).append (leb_bytes _)).append hP)
    have hgl : (get b a).2.2.1.length ≤ 1000000000 := by
      by_cases he : (get b a).2.2.2.2 = 0
      · obtain ⟨_, _, _, _, _, _, _, h⟩ := get_put b a hB (by omega) he; omega
      · have : (get b a).2.2.1 = [] := by
          unfold get at he ⊢
          repeat' split
          all_goals first | rfl | skip
          all_goals simp_all
        rw [this]; simp
    have S0 := PSame_eq (get b a).1 (get b a).2.1 (get b a).2.2.1 (k + 1) (by omega) (by omega)
    have S1 := Same_eq (put b a0 a1 p) (k + 1) (by omega) (by omega)
    rw [G0, Option.bind_some, G1, Option.bind_some, S0, Option.bind_some, P0 _ (by omega), Option.bind_some, P1, Option.bind_some, S1, Option.bind_some]
    simp only [if_true]
    have J : fenlandlaw10_PagePut.j0 (k + 1) b true false a0 a1 p = some true := by
      simp only [fenlandlaw10_PagePut.j0, Bool.false_eq_true, if_false]
      have jl : fenlandref01_Join.f (put b a0 a1 p) b = some (put b a0 a1 p ++ b) := by
        have x1 : (put b a0 a1 p).length < 140737488355328 := by omega
        have x2 : (put b a0 a1 p).length + b.length < 140737488355328 := by omega
        unfold fenlandref01_Join.f
        simp [x1, x2]
      have G2 : page_Get.f k (put b a0 a1 p ++ b) (b.length : Int) = some (get (put b a0 a1 p ++ b) (b.length : Int)) := page_Get_eq _ _ _ (pB.append hB) (by simp; omega) (by simp; omega)
      rw [P0 _ (by omega), Option.bind_some, jl, Option.bind_some, G2, Option.bind_some]
      by_cases hbad : a0 < 1 ∨ a0 > 4 ∨ a1 < 0 ∨ a1 > 1024
      · rw [get_bad b p b a0 a1 (by omega) (by omega) hbad r0 r1]
        simp only [if_true, Bool.false_eq_true, if_false]
        rcases hbad with h | h | h | h
        · simp [h]
        · simp [h]
        · simp [h]
        · simp [h]
      · have e := put_get b p b a0 a1 (pB.append hB) (by omega) (by omega)
        rw [if_neg hbad] at e
        rw [e]
        have x1 : ¬ a0 < 1 := by omega
        have x2 : ¬ a0 > 4 := by omega
        have x3 : ¬ a1 < 0 := by omega
        have x4 : ¬ a1 > 1024 := by omega
        simp only [Bool.false_eq_true, if_false, x1, x2, x3, x4, PSame_eq a0 a1 p k (by omega) (by omega), Option.bind_some, if_true]
    split
    · rename_i he
      obtain ⟨x, c, rfl, hx, hc, hcl, hput, hpl⟩ := get_put b a hB (by omega) he
      have x1 : (0 : Int) ≤ (x : Int) := by omega
      have x2 : (x : Int) ≤ (b.length : Int) := by omega
      have x3 : (0 : Int) ≤ (c : Int) := by omega
      have x4 : (c : Int) ≤ (b.length : Int) := by omega
      have x5 : ((x : Int)).toNat = x := by omega
      have x6 : ((c : Int)).toNat = c := by omega
      rw [hc]
      simp only [x1, x2, x3, x4, x5, x6, if_true]
      rw [page_Put_eq _ _ _ _ _ (by simp; omega) (by omega) (by omega), Option.bind_some, hput, Same_eq _ _ (by simp; omega) (by simp; omega), Option.bind_some, Bool.not_true]
      exact J
    · exact J
set_option maxRecDepth 100000 in
theorem sane_some : fenlandlaw10_sanity.f 60 = some true := by kernel_rfl
theorem sane_all (k : Nat) (h : 60 ≤ k) : fenlandlaw10_sanity.f k = some true := by
  obtain ⟨j, rfl⟩ : ∃ j, k = 60 + j := ⟨k - 60, by omega⟩
  clear h
  induction j with
  | zero => exact sane_some
  | succ j ih => exact fenlandlaw10_sanity.mono _ _ ih
end
end Go.Proofs.Ytnfdhgfpjamphaa.X
namespace Go.Proofs.Ytnfdhgfpjamphaa.pagePut
section
open Go.ChangeShapes Go.WideShapes Go.ChangeAt Go.RowKit Go.Proofs.Ytnfdhgfpjamphaa.X
open Go.RowKit Go.Proofs.YtnfdhgfpjamphaaW.PrintWords Go.Proofs.YtnfdhgfpjamphaaW.PrintLast Go.Proofs.YtnfdhgfpjamphaaW.PrintMore
set_option linter.unusedVariables false
theorem own : ownKnob Try.prog.godebug = none := by kernel_rfl
theorem laidOut : laidOutB Try.prog = true := by kernel_rfl
theorem bytes_of {l : List Int} (h : ∀ x ∈ l, (Lit.int .u8 x).wf = true) : Bytes l := fun c hc => by
  have := h c hc
  simp [Lit.wf, IntKind.min, IntKind.max, IntKind.signed, IntKind.bits] at this
  omega
theorem range_of {x : Int} (h : (Lit.int .i64 x).wf = true) : -9223372036854775808 ≤ x ∧ x < 9223372036854775808 := by
  simp [Lit.wf, IntKind.min, IntKind.max, IntKind.signed, IntKind.bits] at h
  omega
abbrev pageK : Kd (Int × Int × List Int) := Kd.pair (Kd.int .i64) (Kd.pair (Kd.int .i64) (Kd.slice 5 (Kd.int .u8)))
set_option maxHeartbeats 2000000 in
set_option maxRecDepth 100000 in
theorem contract (H : Type) (enc : TypeId × Value → H) (W : World) (base : Nat) (args : Array Value) (ds gs : List (DataW H)) (before : List MemPlace)
    (hval0 : ∀ (j : Nat) t v, Try.f4.params[j]? = some t → args[j]? = some v → Value.okWide Try.prog W .any base t v)
    (hW : DataW.Whole enc Try.prog Try.f4.params.toList Rows.pagePutSpec.vars false W args.toList ds gs before)
    (hk : Rows.uptoSmall H (ds ++ gs) = true) :
    Calls Try.prog 4 args W fun e W' => ∃ v, e = .returned v ∧ Rows.pagePutSpec.post enc Try.prog Try.f4 false true false false W args v W' := by
  have hval := hval0
  have hW' := hW
  obtain ⟨p, q, hA0, hV, rfl, hfz, hnd⟩ := hW
  have hA : DataW.TrodAll enc Try.prog W 0 (fun _ => true) true Try.f4.params.toList args.toList ds p := hA0
  rw [Try.params4] at hA hval
  obtain ⟨v0, vs0, d0, ds0, p0, q0, hargs, rfl, rfl, h0, r0⟩ := trodAll_cons hA
  obtain ⟨v1, vs1, d1, ds1, p1, q1, rfl, rfl, rfl, h1, r1⟩ := trodAll_cons r0
  obtain ⟨v2, vs2, d2, ds2, p2, q2, rfl, rfl, rfl, h2, r2⟩ := trodAll_cons r1
  obtain ⟨rfl, rfl, rfl⟩ := trodAll_nil r2
  obtain rfl : args = #[v0, v1, v2] := by cases args; simp_all
  obtain ⟨rfl, rfl⟩ := trodVars_none hV
  have s0 := bulk_of_small (d := d0) hk (by simp)
  have s1 := bulk_of_small (d := d1) hk (by simp)
  have sz := sizeOk_bulk (H := H) 1048576
  have oU : Opens enc Try.prog W (fun d => Rows.uptoBulk d ≤ 1048576) 32 (Kd.slice 5 (Kd.int .u8)) _ := opens_slice sz Try.underlying32 (by kernel_rfl) (opens_int Try.underlying5)
  have oI : Opens enc Try.prog W (fun d => Rows.uptoBulk d ≤ 1048576) 3 (Kd.int .i64) _ := opens_int Try.underlying3
  have oP : Opens enc Try.prog W (fun d => Rows.uptoBulk d ≤ 1048576) 34 pageK _ := opens_struct sz Try.underlying34 (by kernel_rfl) (row_cons oI (row_cons oI (row_one oU)))
  have k0 := h0
  have k1 := h1
  have k2 := h2
  have lt0 : ∀ x ∈ p0, x.block < W.heap.size := by obtain ⟨m, hm⟩ := k0; exact DataW.trod_lt m _ _ _ hm
  have lt1 : ∀ x ∈ p1, x.block < W.heap.size := by obtain ⟨m, hm⟩ := k1; exact DataW.trod_lt m _ _ _ hm
  obtain ⟨cs0, rfl, _⟩ := okWide_struct Try.underlying34 (hval 0 34 v0 rfl rfl)
  obtain ⟨A1, n1, c1, rfl⟩ := okWide_slice Try.underlying32 (hval 1 32 v1 rfl rfl)
  obtain ⟨a2, rfl, rfl, rfl, w2⟩ := open_int Try.underlying3 (hval 2 3 v2 rfl rfl) h2
  obtain ⟨⟨x0, x1, x2⟩, ⟨c00, c01, e0, rfl, ⟨c02, c03, rfl, rfl, ⟨A2, cap2, rfl, hl2, hC2⟩⟩⟩, wf0, wf1, wf2, wf3⟩ := opens_arg oP h0 s0
  obtain ⟨l1, ⟨A1', cap1, e1, hl1, hC1⟩, wl1, wx1⟩ := opens_arg oU h1 s1
  simp [Value.cells] at e1
  obtain ⟨rfl, rfl, rfl⟩ := e1
  obtain rfl : cs0 = #[.int .i64 x0, .int .i64 x1, .slice A2 x2.length cap2] := by
    simp [Value.cells] at e0
    cases cs0; simp_all
  have h := law_put 1000000001 x0 x1 x2 l1 a2 (sane_all _ (by omega)) (range_of wf0) (range_of wf1) (bytes_of wx1) (bytes_of wf3) (by omega) (by omega)
  clear hA0 hval0
  refine (fenlandlaw10_PagePut.calls 1000000001 x0 x1 A2 cap2 x2 A1 c1 l1 a2 true W hC2 hl2 hC1 hl1 h).mono fun e W' ⟨he, bel⟩ => ?_
  subst he
  exact ⟨_, rfl, _, _, _, [], _, [], hW', trodAll_mk1 (shut_bool Try.underlying4 _), (trodAll_cons_mk (Below.trod laidOut (by kernel_rfl) (of_decide_eq_true (by kernel_rfl)) k0 bel lt0) (trodAll_cons_mk (Below.trod laidOut (by kernel_rfl) (of_decide_eq_true (by kernel_rfl)) k1 bel lt1) (trodAll_cons_mk (shut_int Try.underlying3 w2) trodAll_mk0))), rfl, bel.frame _, fun h => by cases h⟩
set_option maxRecDepth 100000 in
theorem lifted (os : Os) (started : os.Started) (H : Type) (enc : TypeId × Value → H) (F : Stop.Interp) :
    ReturnsInHanded {} Try.checked os 4 .any ((Rows.OpenSpec.upto Rows.pagePutSpec).pre6 enc Try.prog Try.f4 Rows.pagePutUptoRow.domain false) (((Rows.OpenSpec.upto Rows.pagePutSpec).at F).post enc Try.prog Try.f4 false true false false) := by
  refine returnsInHanded_of_cond (C := Try.checked) (s := Rows.OpenSpec.upto Rows.pagePutSpec) (k := Rows.uptoSmall) rfl own started (by kernel_rfl) Try.func4
    (OpenSpec.witness (enc := enc) (C := Try.checked) (s := Rows.OpenSpec.upto Rows.pagePutSpec) (k := Rows.uptoSmall) rfl false ⟨#[], #[.agg #[.int .i64 0, .int .i64 0, .slice none 0 0], .slice none 0 0, .int .i64 0], []⟩ 8 (by kernel_rfl) (by kernel_rfl) (by kernel_rfl)
      (x := ([.agg [.lit (.int .i64 0), .lit (.int .i64 0), .nil], .nil, .lit (.int .i64 0)], [], [])) (by kernel_rfl) rfl (by kernel_rfl)) ?_
  intro W base args ds gs before hval hW _ hk _
  exact contract H enc W base args ds gs before hval hW hk
theorem over : Rows.pagePutUptoRow.holds Try.pinned (Rows.OpenSpec.upto Rows.pagePutSpec) :=
  OpenClaim.holds_of_cond 4 Try.f4 rfl rfl rfl rfl rfl rfl rfl ⟨rfl, rfl, rfl, rfl, rfl⟩ rfl rfl rfl rfl rfl (by kernel_rfl) Try.func4 (by kernel_rfl)
    (of_decide_eq_true (by kernel_rfl)) (by unfold Func.isWrapper; first | (rw [if_pos (by decide +kernel)]; kernel_rfl) | (rw [if_neg (by decide +kernel)]; exact ⟨rfl, rfl⟩))
    (fun os started H enc _ F => lifted os started H enc F)
theorem proved : Rows.PagePutUptoSaid := over
#print axioms proved
end
end Go.Proofs.Ytnfdhgfpjamphaa.pagePut
