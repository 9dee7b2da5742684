/- The law 'ValueCanonical' (package fenlandlaw05) returns true for every slice of bytes and all offsets and types, and leaves its arguments as they were. Conditions: the five package-level variables of the library that the row lists read as listed (they are tied to the program's text by the card); no condition of our own. -/
import Derived.Below
import Derived.ChangeOld
import Derived.LaidMore
import Derived.Lib.Bytealg
import Derived.Lib.Bytes
import Derived.Lib.ItoaLen
import Derived.Lib.ItoaMem
import Derived.Lib.ItoaNum
import Derived.Lib.LazyBuf
import Derived.Lib.ParseIntB
import Derived.Lib.SmallJoins
import Derived.Lib.Strings
import Derived.OpenShut
import Derived.ProofKit
import Derived.SevenTiedAt
import Derived.Test.YtlcibkbpppijdaaDoorCards
import Derived.Test.YtlcibkbpppijdaaDoorRows
import Derived.Test.YtlcibkbpppijdaaDoorTie
import Derived.Test.YtlcibkbpppijdaaDoorYLawCanonical0
import Derived.Test.YtlcibkbpppijdaaDoorYLawCanonical1
import Derived.Test.YtlcibkbpppijdaaDoorYLawCanonical2
import Derived.Test.YtlcibkbpppijdaaDoorYLawCanonical3
import Derived.Test.YtlcibkbpppijdaaDoorYLawCanonical4
import Derived.Test.YtlcibkbpppijdaaDoorYLawCanonical5
import Derived.Test.YtlcibkbpppijdaaDoorYLawCanonical6
import Derived.WalkKit
namespace Go.Proofs.YtlcibkbpppijdaaDoor.X
section
open Go.RowKit Go.Proofs.YtlcibkbpppijdaaDoorW.PrintWords Go.Proofs.YtlcibkbpppijdaaDoorW.PrintLast Go.Proofs.YtlcibkbpppijdaaDoorW.PrintMore
attribute [local go_sem] max2_int min2_int max_two min_two max_three min_three max_four min_four   -- for this text's walks alone
set_option linter.unusedVariables false
set_option linter.unusedSimpArgs false
theorem tl (s : ByteArray) : s.toList = s.data.toList := Go.Lib.toList_data s
theorem tl_mk (l : List UInt8) : (⟨l.toArray⟩ : ByteArray).toList = l := by rw [tl]
theorem sz_mk (l : List UInt8) : (⟨l.toArray⟩ : ByteArray).size = l.length := by rw [Go.Lib.size_eq]
theorem cat_mk (a b : List UInt8) : (⟨a.toArray⟩ : ByteArray) ++ ⟨b.toArray⟩ = ⟨(a ++ b).toArray⟩ := ByteArray.ext (by rw [ByteArray.data_append]; simp)
theorem isType_eq (t : Int) : value_isType.f t = some (decide (1 ≤ t ∧ t ≤ 5)) := by
  unfold value_isType.f
  by_cases h : t ≥ 1
  · rw [if_pos h]; simp [show 1 ≤ t from h]
  · rw [if_neg h]; simp [show ¬ 1 ≤ t from h]
def lo (t : Int) : Int := if t = 1 then 0 else if t = 2 then -2147483648 else if t = 5 then -1000000 else -9223372036854775808
def hi (t : Int) : Int := if t = 1 then 1 else if t = 2 then 2147483647 else if t = 5 then 1000000 else 9223372036854775807
theorem limits_eq (t : Int) : value_limits.f t = some (lo t, hi t) := by
  unfold value_limits.f lo hi
  repeat' split
  all_goals rfl
theorem lohi (t : Int) : -9223372036854775808 ≤ lo t ∧ hi t ≤ 9223372036854775807 := by
  unfold lo hi
  repeat' split
  all_goals omega
inductive Vk (t : Int) : Bool → Int → ByteArray → Prop
  | null (s : ByteArray) (h : s.toList = []) : Vk t true 0 s
  | text (s : ByteArray) (ht : t = 4) (h : (s.size : Int) ≤ 200) : Vk t false 0 s
  | num (n : Int) (s : ByteArray) (ht : t ≠ 4) (h : s.toList = []) (h0 : lo t ≤ n) (h1 : n ≤ hi t) : Vk t false n s
theorem Valid_some (b : Bool) (n : Int) (s : ByteArray) (t : Int) : ∃ r, value_Valid.f b n s t = some r ∧ (r = true ↔ (1 ≤ t ∧ t ≤ 5) ∧ Vk t b n s) := by
  unfold value_Valid.f
  rw [isType_eq, Option.bind_some]
  by_cases ht : 1 ≤ t ∧ t ≤ 5
  · rw [if_pos (by simp [ht])]
    cases b
    · simp only [Bool.false_eq_true, if_false, limits_eq, Option.bind_some]
      by_cases h4 : t = 4
      · rw [if_pos h4]
        by_cases hn : n = 0
        · subst hn
          rw [if_pos rfl]
          refine ⟨_, rfl, ?_⟩
          simp only [decide_eq_true_eq]
          constructor
          · exact fun h => ⟨ht, .text s h4 h⟩
          · rintro ⟨_, h⟩
            cases h with
            | text _ _ h => exact h
            | num _ _ h => exact absurd h4 h
        · rw [if_neg hn]
          refine ⟨_, rfl, ?_⟩
          simp only [Bool.false_eq_true, false_iff]
          rintro ⟨_, h⟩
          cases h with
          | text => exact hn rfl
          | num _ _ h => exact h h4
      · rw [if_neg h4]
        have key : ∃ r, (if s.toList = ([] : List UInt8) then (if lo t ≤ n then some (decide (n ≤ hi t)) else some false) else some false) = some r ∧ (r = true ↔ (1 ≤ t ∧ t ≤ 5) ∧ Vk t false n s) := by
          by_cases hs : s.toList = []
          · rw [if_pos hs]
            by_cases h0 : lo t ≤ n
            · rw [if_pos h0]
              refine ⟨_, rfl, ?_⟩
              simp only [decide_eq_true_eq]
              constructor
              · exact fun h => ⟨ht, .num n s h4 hs h0 h⟩
              · rintro ⟨_, h⟩
                cases h with
                | text _ h => exact absurd h h4
                | num _ _ _ _ _ h => exact h
            · rw [if_neg h0]
              refine ⟨_, rfl, ?_⟩
              simp only [Bool.false_eq_true, false_iff]
              rintro ⟨_, h⟩
              cases h with
              | text _ h => exact h4 h
              | num _ _ _ _ h => exact h0 h
          · rw [if_neg hs]
            refine ⟨_, rfl, ?_⟩
            simp only [Bool.false_eq_true, false_iff]
            rintro ⟨_, h⟩
            cases h with
            | text _ h => exact h4 h
            | num _ _ _ h => exact hs h
        by_cases h1 : t = 1
        · rw [if_pos h1]; exact key
        rw [if_neg h1]
        by_cases h2 : t = 2
        · rw [if_pos h2]; exact key
        rw [if_neg h2]
        by_cases h3 : t = 3
        · rw [if_pos h3]; exact key
        rw [if_neg h3, if_pos (show t = 5 by omega)]; exact key
    · rw [if_pos rfl]
      refine ⟨_, rfl, ?_⟩
      simp only [Bool.true_and, Bool.and_eq_true, beq_iff_eq]
      constructor
      · rintro ⟨rfl, h⟩; exact ⟨ht, .null s h⟩
      · rintro ⟨_, h⟩
        cases h with
        | null _ h => exact ⟨rfl, h⟩
  · rw [if_neg (by simpa using ht)]
    exact ⟨false, rfl, by simp [ht]⟩
theorem FormatInt_eq (n : Int) (h : Rg n) : strconv_FormatInt_34.f n 10 = some ⟨(Lib.itoa n).toArray⟩ := by
  unfold Rg at h
  unfold strconv_FormatInt_34.f
  rw [if_pos ⟨rfl, h.1, by omega⟩]
theorem itoa_len (n : Int) (h : Rg n) : (Lib.itoa n).length ≤ 21 := by
  unfold Rg at h
  exact Lib.itoa_length_le n h.1 (by omega)
theorem repeat_zero : ∀ n : Nat, Lib.repeatL [48] n = List.replicate n 48
  | 0 => rfl
  | n + 1 => by rw [Lib.repeatL, repeat_zero n]; rfl
def pad (y w : Int) : List UInt8 := (if y < 0 then [45] else []) ++ (List.replicate (w.toNat - (Lib.itoa (y.natAbs : Int)).length) 48 ++ Lib.itoa (y.natAbs : Int))
theorem padded_eq (y w : Int) (hy : -1000000000 ≤ y ∧ y ≤ 1000000000) (hw : 0 ≤ w ∧ w ≤ 100) : value_padded.f y w = some ⟨(pad y w).toArray⟩ := by
  have e1 : mx y (wrap64 (-y)) = (y.natAbs : Int) := by
    rw [wrap64_id (-y) (by omega) (by omega)]; unfold mx; split <;> omega
  have hr : Rg (y.natAbs : Int) := by unfold Rg; omega
  have hl := itoa_len _ hr
  unfold value_padded.f
  rw [e1, FormatInt_eq _ hr, Option.bind_some]
  have e2 : mx 0 (wrap64 (w - ((⟨(Lib.itoa (y.natAbs : Int)).toArray⟩ : ByteArray).size : Int))) = ((w.toNat - (Lib.itoa (y.natAbs : Int)).length : Nat) : Int) := by
    rw [sz_mk, wrap64_id _ (by omega) (by omega)]; unfold mx; split <;> omega
  have e3 : strings_Repeat.f (⟨#[48]⟩ : ByteArray) ((w.toNat - (Lib.itoa (y.natAbs : Int)).length : Nat) : Int) = some ⟨(List.replicate (w.toNat - (Lib.itoa (y.natAbs : Int)).length) 48).toArray⟩ := by
    unfold strings_Repeat.f
    rw [if_pos ⟨by omega, by omega, by decide⟩]
    rw [Int.toNat_natCast, ← repeat_zero]
  rw [e2, e3, Option.bind_some, if_pos (by rw [sz_mk, sz_mk, List.length_replicate]; omega)]
  unfold pad
  have e4 : (⟨(List.replicate (w.toNat - (Lib.itoa (y.natAbs : Int)).length) 48).toArray⟩ : ByteArray) ++ ⟨(Lib.itoa (y.natAbs : Int)).toArray⟩ = ⟨(List.replicate (w.toNat - (Lib.itoa (y.natAbs : Int)).length) 48 ++ Lib.itoa (y.natAbs : Int)).toArray⟩ := cat_mk _ _
  rw [e4]
  by_cases h0 : y < 0
  · rw [if_pos h0, if_pos (by rw [sz_mk, List.length_append, List.length_replicate]; omega), if_pos h0]
    rw [show (⟨#[45]⟩ : ByteArray) = ⟨([45] : List UInt8).toArray⟩ from rfl]
    exact congrArg some (cat_mk [45] _)
  · rw [if_neg h0, if_neg h0]; rfl
theorem pad_len (y w : Int) (hy : -1000000000 ≤ y ∧ y ≤ 1000000000) (hw : 0 ≤ w ∧ w ≤ 100) : (pad y w).length ≤ 200 := by
  have hl := itoa_len (y.natAbs : Int) (by unfold Rg; omega)
  unfold pad
  simp only [List.length_append, List.length_replicate]
  split
  · simp; omega
  · simp; omega
theorem and_one (u : Nat) (h : u < 2 ^ 64) : Go.bits .and .u64 (u : Int) 1 = ((u % 2 : Nat) : Int) := by
  have h1 : (BitVec.ofInt 64 1).toNat = 2 ^ 1 - 1 := by decide
  have key : (BitVec.ofInt 64 (u : Int) &&& BitVec.ofInt 64 1).toNat = ((u : Int) % ((2 ^ 64 : Nat) : Int)).toNat % 2 ^ 1 := by
    rw [BitVec.toNat_and, BitVec.toNat_ofInt, h1, Nat.and_two_pow_sub_one_eq_mod]
  show IntKind.u64.wrap ((BitVec.ofInt 64 (u : Int) &&& BitVec.ofInt 64 1).toNat : Nat) = _
  rw [key, IntKind.wrap_u64]
  omega
theorem xor_zero_ (x : Int) (h0 : 0 ≤ x) (h1 : x < 2 ^ 63) : Go.bits .xor .i64 x 0 = x := by
  have key : (BitVec.ofInt 64 x ^^^ BitVec.ofInt 64 0).toNat = x.toNat := by
    rw [show BitVec.ofInt 64 0 = 0#64 from by decide, BitVec.xor_zero, BitVec.toNat_ofInt]
    omega
  show IntKind.i64.wrap ((BitVec.ofInt 64 x ^^^ BitVec.ofInt 64 0).toNat : Nat) = _
  rw [key, IntKind.wrap_i64]
  omega
theorem xor_ones_ (x : Int) (h0 : 0 ≤ x) (h1 : x < 2 ^ 63) : Go.bits .xor .i64 x (-1) = -x - 1 := by
  have key : (BitVec.ofInt 64 x ^^^ BitVec.ofInt 64 (-1)).toNat = 2 ^ 64 - 1 - x.toNat := by
    rw [show BitVec.ofInt 64 (-1) = BitVec.allOnes 64 from by decide, BitVec.xor_allOnes, BitVec.toNat_not, BitVec.toNat_ofInt]
    omega
  show IntKind.i64.wrap ((BitVec.ofInt 64 x ^^^ BitVec.ofInt 64 (-1)).toNat : Nat) = _
  rw [key, IntKind.wrap_i64]
  omega
def unz (u : Nat) : Int := if u % 2 = 0 then ((u / 2 : Nat) : Int) else -((u / 2 : Nat) : Int) - 1
theorem zag (u : Nat) (h : u < 2 ^ 64) : Go.bits .xor .i64 (wrap64 ((u : Int) / 2)) (wrap64 (-(wrap64 (Go.bits .and .u64 (u : Int) 1)))) = unz u := by
  rw [and_one u h, wrap64_id ((u : Int) / 2) (by omega) (by omega), wrap64_id ((u % 2 : Nat) : Int) (by omega) (by omega), wrap64_id _ (by omega) (by omega)]
  unfold unz
  by_cases h2 : u % 2 = 0
  · rw [if_pos h2, h2]
    have : (-((0 : Nat) : Int)) = 0 := by decide
    rw [this, xor_zero_ _ (by omega) (by omega)]; omega
  · have h3 : u % 2 = 1 := by omega
    rw [if_neg h2, h3]
    have : (-((1 : Nat) : Int)) = -1 := by decide
    rw [this, xor_ones_ _ (by omega) (by omega)]; omega
theorem zz_unz (u : Nat) (h : u < 2 ^ 64) : zz (unz u) = u ∧ Rg (unz u) := by
  unfold zz unz Rg
  by_cases h2 : u % 2 = 0
  · rw [if_pos h2]
    rw [if_pos (by omega)]; omega
  · rw [if_neg h2]
    rw [if_neg (by omega)]; omega
theorem bytesOf_str (xs : List Int) (h : Bytes xs) : bytesOf (strOfNums xs) = xs := by
  have e : xs = (xs.map fun c => UInt8.ofNat c.toNat).map fun b => (b.toNat : Int) := by
    rw [List.map_map]
    conv => lhs; rw [← List.map_id xs]
    refine List.map_congr_left fun c hc => ?_
    have := h c hc
    simp only [id_eq, Function.comp_apply, UInt8.toNat_ofNat']
    omega
  rw [e, Lib.Lz.strOfNums_map]
  rfl
theorem str_size (xs : List Int) (h : Bytes xs) : (strOfNums xs).size = xs.length := by
  rw [← bytesOf_length, bytesOf_str xs h]
def enc (b : Bool) (n : Int) (s : ByteArray) (t : Int) : List Int := if b = true then [0] else if t = 4 then 1 :: (leb s.size ++ bytesOf s) else 1 :: leb (zz n)
theorem Rg_of {t n : Int} (h0 : lo t ≤ n) (h1 : n ≤ hi t) : Rg n := by
  have := lohi t
  unfold Rg; omega
theorem enc_length {b : Bool} {n : Int} {s : ByteArray} {t : Int} (h : Vk t b n s) : 0 < (enc b n s t).length ∧ (enc b n s t).length ≤ 300 := by
  unfold enc
  cases h with
  | null _ h => simp
  | text _ ht h =>
    have := leb_length 9 s.size (by simp; omega)
    rw [if_neg (by decide), if_pos ht]
    simp only [List.length_cons, List.length_append, bytesOf_length]; omega
  | num _ _ ht h h0 h1 =>
    have h2 := zz_lt (Rg_of h0 h1)
    have := leb_length 9 (zz n) (by simp; omega)
    rw [if_neg (by decide), if_neg ht]
    simp only [List.length_cons]; omega
theorem Encode_valid {b : Bool} {n : Int} {s : ByteArray} {t : Int} (ht : 1 ≤ t ∧ t ≤ 5) (h : Vk t b n s) (l : List Int) (hl : l.length ≤ 1000000) (k : Nat) (hk : 10 < k) : value_Encode.f k l b n s t = some (l ++ enc b n s t) := by
  obtain ⟨v, hv, hv2⟩ := Valid_some b n s t
  have hvt : v = true := hv2.2 ⟨ht, h⟩
  subst hvt
  unfold value_Encode.f slices_Clone_byte_byte.f enc
  rw [if_pos (by omega), Option.bind_some, hv, Option.bind_some, if_pos rfl]
  cases b
  · simp only [Bool.false_eq_true, if_false]
    by_cases h4 : t = 4
    · rw [if_pos h4, if_pos h4, if_pos (by omega)]
      have hs : (s.size : Int) ≤ 200 := by
        cases h with
        | text _ _ h => exact h
        | num _ _ h => exact absurd h4 h
      rw [wire_Text_eq _ s k (by simp; omega) (by omega) hk, Option.bind_some, List.append_assoc]
      rfl
    · rw [if_neg h4, if_neg h4, if_pos (by omega)]
      have hn : Rg n := by
        cases h with
        | text _ h => exact absurd h h4
        | num _ _ _ _ h0 h1 => exact Rg_of h0 h1
      rw [wire_S_eq _ n k (by simp; omega) hn hk, Option.bind_some, List.append_assoc]
      rfl
  · rw [if_pos rfl, if_pos rfl, if_pos (by omega)]
theorem ReadU_ru (l : List Int) (hl : Bytes l) (hlen : l.length ≤ 1000000) (a : Int) (k : Nat) (hk : l.length < k) : wire_ReadU.f k l a = some (ru l a) := by
  rw [wire_ReadU_eq l hl (by omega) a k hk]; rfl
theorem ReadS_leb (l : List Int) (hl : Bytes l) (hlen : l.length ≤ 1000000) (b m : Nat) (t : List Int) (k : Nat) (hk : l.length < k) (hb : b ≤ l.length) (hd : l.drop b = leb m ++ t) (hm : (m : Int) < 2 ^ 64) : wire_ReadS.f k l (b : Int) = some (unz m, (b : Int) + ((leb m).length : Int), 0) := by
  unfold wire_ReadS.f
  rw [ReadU_ru l hl hlen _ k hk, Option.bind_some, ru_leb l b m t hb hd hm, zag m (by omega)]
theorem ReadS_cases (l : List Int) (hl : Bytes l) (hlen : l.length ≤ 1000000) (a : Int) (k : Nat) (hk : l.length < k) : ∃ r, wire_ReadS.f k l a = some r ∧ (r.2.2 ≠ 0 ∨ ∃ (m b : Nat) (t : List Int), a = (b : Int) ∧ b ≤ l.length ∧ l.drop b = leb m ++ t ∧ (m : Int) < 2 ^ 64 ∧ r = (unz m, (b : Int) + ((leb m).length : Int), 0)) := by
  rcases ru_cases l a hl with ⟨h1, h2⟩ | ⟨m, b, t, rfl, hb, hd, hm, e, hle⟩
  · unfold wire_ReadS.f
    rw [ReadU_ru l hl hlen _ k hk, Option.bind_some]
    exact ⟨_, rfl, .inl h1⟩
  · exact ⟨_, ReadS_leb l hl hlen b m t k hk hb hd hm, .inr ⟨m, b, t, rfl, hb, hd, hm, rfl⟩⟩
theorem span_leb (l : List Int) (hl : Bytes l) (hlen : l.length ≤ 1000000) (b m : Nat) (t : List Int) (k : Nat) (hk : l.length < k) (hb : b ≤ l.length) (hd : l.drop b = leb m ++ t) (hm : m ≤ 1048576) (ht : m ≤ t.length) : wire_span.f k l (b : Int) = some ((b : Int) + ((leb m).length : Int), (b : Int) + ((leb m).length : Int) + (m : Int), 0) := by
  have hd2 := congrArg List.length hd
  simp only [List.length_drop, List.length_append] at hd2
  unfold wire_span.f
  rw [ReadU_ru l hl hlen _ k hk, Option.bind_some, ru_leb l b m t hb hd (by omega)]
  simp only [if_true]
  rw [if_neg (by omega), wrap64_id (m : Int) (by omega) (by omega), wrap64_id ((l.length : Int) - ((b : Int) + ((leb m).length : Int))) (by omega) (by omega), if_neg (by omega), wrap64_id _ (by omega) (by omega)]
theorem span_cases (l : List Int) (hl : Bytes l) (hlen : l.length ≤ 1000000) (a : Int) (k : Nat) (hk : l.length < k) : ∃ r, wire_span.f k l a = some r ∧ ((r.2.2 ≠ 0 ∧ r.1 = 0 ∧ r.2.1 = 0) ∨ ∃ (m b : Nat) (t : List Int), a = (b : Int) ∧ b ≤ l.length ∧ l.drop b = leb m ++ t ∧ m ≤ t.length ∧ r = ((b : Int) + ((leb m).length : Int), (b : Int) + ((leb m).length : Int) + (m : Int), 0)) := by
  rcases ru_cases l a hl with ⟨h1, h2⟩ | ⟨m, b, t, rfl, hb, hd, hm, e, hle⟩
  · unfold wire_span.f
    rw [ReadU_ru l hl hlen _ k hk, Option.bind_some, if_neg h1]
    exact ⟨_, rfl, .inl ⟨h1, rfl, rfl⟩⟩
  · by_cases c : m ≤ 1048576 ∧ m ≤ t.length
    · exact ⟨_, span_leb l hl hlen b m t k hk hb hd c.1 c.2, .inr ⟨m, b, t, rfl, hb, hd, c.2, rfl⟩⟩
    · have hd2 := congrArg List.length hd
      simp only [List.length_drop, List.length_append] at hd2
      unfold wire_span.f
      rw [ReadU_ru l hl hlen _ k hk, Option.bind_some, e]
      simp only [if_true]
      by_cases c1 : (m : Int) > 1048576
      · rw [if_pos c1]
        exact ⟨_, rfl, .inl ⟨by decide, rfl, rfl⟩⟩
      · rw [if_neg c1, wrap64_id (m : Int) (by omega) (by omega), wrap64_id ((l.length : Int) - ((b : Int) + ((leb m).length : Int))) (by omega) (by omega), if_pos (by omega)]
        exact ⟨_, rfl, .inl ⟨by decide, rfl, rfl⟩⟩
theorem cut_text (l : List Int) (b m : Nat) (t : List Int) (hb : b ≤ l.length) (hd : l.drop b = leb m ++ t) (ht : m ≤ t.length) : (l.take ((b : Int) + ((leb m).length : Int) + (m : Int)).toNat).drop ((b : Int) + ((leb m).length : Int)).toNat = t.take m := by
  have h1 : ((b : Int) + ((leb m).length : Int) + (m : Int)).toNat = b + (leb m).length + m := by omega
  have h2 : ((b : Int) + ((leb m).length : Int)).toNat = b + (leb m).length := by omega
  rw [h1, h2, List.drop_take, ← List.drop_drop, hd]
  simp
theorem ReadText_cases (l : List Int) (hl : Bytes l) (hlen : l.length ≤ 1000000) (a : Int) (k : Nat) (hk : l.length < k) : ∃ r, wire_ReadText.f k l a = some r ∧ (r.2.2 ≠ 0 ∨ ∃ (m b : Nat) (t : List Int), a = (b : Int) ∧ b ≤ l.length ∧ l.drop b = leb m ++ t ∧ m ≤ t.length ∧ r = (strOfNums (t.take m), (b : Int) + ((leb m).length : Int) + (m : Int), 0)) := by
  obtain ⟨r, hr, h⟩ := span_cases l hl hlen a k hk
  unfold wire_ReadText.f
  rw [hr, Option.bind_some]
  rcases h with ⟨h1, h2, h3⟩ | ⟨m, b, t, rfl, hb, hd, ht, rfl⟩
  · rw [h2, h3, if_pos (by omega), if_pos (by omega), if_pos (by omega)]
    exact ⟨_, rfl, .inl h1⟩
  · have hd2 := congrArg List.length hd
    simp only [List.length_drop, List.length_append] at hd2
    simp only
    rw [if_pos (by omega), if_pos (by omega), if_pos (by omega), cut_text l b m t hb hd ht]
    exact ⟨_, rfl, .inr ⟨m, b, t, rfl, hb, hd, ht, rfl⟩⟩
theorem read_cases (l : List Int) (hl : Bytes l) (hlen : l.length ≤ 1000000) (i t : Int) (k : Nat) (hk : l.length + 1 < k) : ∃ r, value_read.f k l i t = some r ∧ (r.2.2.2.2 ≠ 0 ∨ (r.2.2.2.2 = 0 ∧ (1 ≤ t ∧ t ≤ 5) ∧ ∃ (b : Nat) (rest : List Int), i = (b : Int) ∧ b ≤ l.length ∧ l.drop b = enc r.1 r.2.1 r.2.2.1 t ++ rest ∧ r.2.2.2.1 = (b : Int) + ((enc r.1 r.2.1 r.2.2.1 t).length : Int))) := by
  obtain ⟨k', rfl⟩ : ∃ k', k = k' + 1 := ⟨k - 1, by omega⟩
  unfold value_read.f
  by_cases h0 : i < 0
  · rw [if_pos h0, value_read.j0, if_pos rfl]
    exact ⟨_, rfl, .inl (by decide)⟩
  rw [if_neg h0, value_read.j0]
  by_cases h1 : i > (l.length : Int)
  · rw [if_pos (by simpa using h1)]
    exact ⟨_, rfl, .inl (by decide)⟩
  rw [if_neg (by simpa using h1), isType_eq, Option.bind_some]
  by_cases ht : 1 ≤ t ∧ t ≤ 5
  · rw [if_pos (by simpa using ht)]
    by_cases h2 : i = (l.length : Int)
    · rw [if_pos h2]
      exact ⟨_, rfl, .inl (by decide)⟩
    · rw [if_neg h2, if_pos (by omega), if_pos (by omega)]
      obtain ⟨b, rfl⟩ : ∃ b : Nat, i = (b : Int) := ⟨i.toNat, by omega⟩
      have hlt : b < l.length := by omega
      have hd : l.drop b = l[b] :: l.drop (b + 1) := List.drop_eq_getElem_cons hlt
      obtain ⟨r1, r2, r3, r4⟩ := rd_drop hd
      rw [r2]
      have w1 : wrap64 ((b : Int) + 1) = ((b + 1 : Nat) : Int) := by rw [wrap64_id _ (by omega) (by omega)]; omega
      by_cases c0 : l[b] = 0
      · rw [if_pos c0, w1]
        refine ⟨_, rfl, .inr ⟨rfl, ht, b, l.drop (b + 1), rfl, by omega, ?_, ?_⟩⟩
        · rw [hd, c0]; rfl
        · simp [enc]
      · rw [if_neg c0]
        by_cases c1 : l[b] = 1
        · rw [if_pos c1]
          by_cases h4 : t = 4
          · rw [if_pos h4, w1]
            obtain ⟨r, hr, h⟩ := ReadText_cases l hl hlen ((b + 1 : Nat) : Int) k' (by omega)
            rw [hr, Option.bind_some]
            rcases h with h | ⟨m, b', t', hb', hb2, hd2, hm2, rfl⟩
            · exact ⟨_, rfl, .inl h⟩
            · obtain rfl : b' = b + 1 := by omega
              have hsz : (strOfNums (t'.take m)).size = m := by
                have hB : Bytes t' := by
                  have := hl.drop (b + 1)
                  rw [hd2] at this
                  exact fun c hc => this c (List.mem_append_right _ hc)
                rw [str_size _ (hB.take m), List.length_take]; omega
              have hbs : bytesOf (strOfNums (t'.take m)) = t'.take m := by
                have hB : Bytes t' := by
                  have := hl.drop (b + 1)
                  rw [hd2] at this
                  exact fun c hc => this c (List.mem_append_right _ hc)
                exact bytesOf_str _ (hB.take m)
              refine ⟨_, rfl, .inr ⟨rfl, ht, b, t'.drop m, rfl, by omega, ?_, ?_⟩⟩
              · rw [hd, c1, hd2]
                simp only [enc, h4, Bool.false_eq_true, if_false, if_true, hsz, hbs, List.cons_append, List.append_assoc, List.take_append_drop]
              · simp only [enc, h4, Bool.false_eq_true, if_false, if_true, hsz, hbs, List.length_cons, List.length_append, List.length_take]
                omega
          · rw [if_neg h4, w1]
            obtain ⟨r, hr, h⟩ := ReadS_cases l hl hlen ((b + 1 : Nat) : Int) k' (by omega)
            rw [hr, Option.bind_some]
            rcases h with h | ⟨m, b', t', hb', hb2, hd2, hm2, rfl⟩
            · exact ⟨_, rfl, .inl h⟩
            · obtain rfl : b' = b + 1 := by omega
              refine ⟨_, rfl, .inr ⟨rfl, ht, b, t', rfl, by omega, ?_, ?_⟩⟩
              · rw [hd, c1, hd2]
                simp only [enc, h4, Bool.false_eq_true, if_false, (zz_unz m (by omega)).1, List.cons_append]
              · simp only [enc, h4, Bool.false_eq_true, if_false, (zz_unz m (by omega)).1, List.length_cons]
                omega
        · rw [if_neg c1]
          exact ⟨_, rfl, .inl (by decide)⟩
  · rw [if_neg (by simpa using ht)]
    exact ⟨_, rfl, .inl (by decide)⟩
theorem Decode_cases (l : List Int) (hl : Bytes l) (hlen : l.length ≤ 1000000) (i t : Int) (k : Nat) (hk : l.length + 1 < k) : ∃ r, value_Decode.f k l i t = some r ∧ ((r.2.2.2.2 ≠ 0 ∧ r.1 = false ∧ r.2.1 = 0 ∧ r.2.2.1 = ⟨#[]⟩ ∧ r.2.2.2.1 = 0) ∨ (r.2.2.2.2 = 0 ∧ (1 ≤ t ∧ t ≤ 5) ∧ Vk t r.1 r.2.1 r.2.2.1 ∧ ∃ (b : Nat) (rest : List Int), i = (b : Int) ∧ b ≤ l.length ∧ l.drop b = enc r.1 r.2.1 r.2.2.1 t ++ rest ∧ r.2.2.2.1 = (b : Int) + ((enc r.1 r.2.1 r.2.2.1 t).length : Int))) := by
  obtain ⟨r, hr, h⟩ := read_cases l hl hlen i t k hk
  obtain ⟨k', rfl⟩ : ∃ k', k = k' + 1 := ⟨k - 1, by omega⟩
  unfold value_Decode.f
  rw [hr, Option.bind_some]
  rcases h with h | ⟨h0, ht, h⟩
  · rw [if_neg h, value_Decode.j0, if_neg (by decide), if_neg h]
    exact ⟨_, rfl, .inl ⟨h, rfl, rfl, rfl, rfl⟩⟩
  · rw [if_pos h0]
    obtain ⟨v, hv1, hv2⟩ := Valid_some r.1 r.2.1 r.2.2.1 t
    rw [hv1, Option.bind_some, value_Decode.j0]
    cases v
    · rw [if_pos (show (!false) = true from rfl)]
      exact ⟨_, rfl, .inl ⟨by decide, rfl, rfl, rfl, rfl⟩⟩
    · rw [if_neg (by decide), if_pos h0]
      exact ⟨_, rfl, .inr ⟨rfl, ht, (hv2.1 rfl).2, h⟩⟩
theorem floor_eq (a b : Int) (hb : b = 146097 ∨ b = 400) (ha : -1000000000000 ≤ a ∧ a ≤ 1000000000000) : value_floor.f a b = some (a / b) := by
  unfold value_floor.f
  rw [if_neg (by omega)]
  rcases hb with rfl | rfl
  · by_cases h : 0 ≤ a
    · rw [Int.tmod_eq_emod_of_nonneg h, if_neg (by omega), Int.tdiv_eq_ediv_of_nonneg h, wrap64_id _ (by omega) (by omega)]
    · obtain ⟨c, rfl⟩ : ∃ c, a = -c := ⟨-a, by omega⟩
      rw [Int.neg_tmod, Int.neg_tdiv, Int.tmod_eq_emod_of_nonneg (by omega), Int.tdiv_eq_ediv_of_nonneg (by omega)]
      split
      · rw [wrap64_id (-(c / 146097)) (by omega) (by omega), wrap64_id _ (by omega) (by omega)]; congr 1; omega
      · rw [wrap64_id _ (by omega) (by omega)]; congr 1; omega
  · by_cases h : 0 ≤ a
    · rw [Int.tmod_eq_emod_of_nonneg h, if_neg (by omega), Int.tdiv_eq_ediv_of_nonneg h, wrap64_id _ (by omega) (by omega)]
    · obtain ⟨c, rfl⟩ : ∃ c, a = -c := ⟨-a, by omega⟩
      rw [Int.neg_tmod, Int.neg_tdiv, Int.tmod_eq_emod_of_nonneg (by omega), Int.tdiv_eq_ediv_of_nonneg (by omega)]
      split
      · rw [wrap64_id (-(c / 400)) (by omega) (by omega), wrap64_id _ (by omega) (by omega)]; congr 1; omega
      · rw [wrap64_id _ (by omega) (by omega)]; congr 1; omega
def yd (Y : Int) : Int := 365 * Y + Y / 4 - Y / 100
def dY (D : Int) : Int := (D - D / 1460 + D / 36524 - D / 146096) / 365
def dM (o : Int) : Int := (5 * o + 2) / 153
def dK (n : Int) : Int := (n + 719468) / 146097
def dD (n : Int) : Int := n + 719468 - dK n * 146097
theorem cent (D Y c e : Int) (hc : c = 0 ∨ c = 1 ∨ c = 2 ∨ c = 3) (h0 : 36524 * c ≤ D) (h1 : D ≤ 36524 * c + 36523) (h2 : D ≤ 146095) (he0 : 1460 * e ≤ D) (he1 : D ≤ 1460 * e + 1459) (hY0 : 365 * Y ≤ D - e + c) (hY1 : D - e + c ≤ 365 * Y + 364) : 0 ≤ Y ∧ Y ≤ 399 ∧ yd Y ≤ D ∧ (D < yd (Y + 1) ∨ Y = 399) := by
  unfold yd
  have g0 : 100 * c ≤ Y := by rcases hc with rfl | rfl | rfl | rfl <;> omega
  have g1 : Y ≤ 100 * c + 99 := by rcases hc with rfl | rfl | rfl | rfl <;> omega
  have g2 : Y / 100 = c := by omega
  have ga : Y / 4 = e - 1 ∨ Y / 4 = e := by
    have a1 : 4 * (Y / 4) ≤ Y := by omega
    have a2 : Y ≤ 4 * (Y / 4) + 3 := by omega
    generalize Y / 4 = a at a1 a2 ⊢
    rcases hc with rfl | rfl | rfl | rfl <;> omega
  rw [g2]
  refine ⟨by omega, by omega, ?_, ?_⟩
  · rcases ga with h | h <;> rw [h] <;> omega
  · rcases ga with h | h
    · have h3 : Y = 4 * e - 1 := by
        have a2 : Y ≤ 4 * (Y / 4) + 3 := by omega
        rw [h] at a2
        rcases hc with rfl | rfl | rfl | rfl <;> omega
      left
      by_cases hh : Y = 100 * c + 99
      · have : (Y + 1) / 100 = c + 1 := by omega
        rw [this]
        have : (Y + 1) / 4 = e := by omega
        rw [this]
        omega
      · have : (Y + 1) / 100 = c := by omega
        rw [this]
        have : (Y + 1) / 4 = e := by omega
        rw [this]
        omega
    · by_cases hh : Y = 100 * c + 99
      · have : (Y + 1) / 100 = c + 1 := by omega
        rw [this]
        have : (Y + 1) / 4 = e + 1 := by omega
        rw [this]
        left; omega
      · have h4 : (Y + 1) / 100 = c := by omega
        rw [h4]
        have : e ≤ (Y + 1) / 4 := by omega
        left; omega
theorem dY_bounds (D : Int) (h0 : 0 ≤ D) (h1 : D ≤ 146096) : 0 ≤ dY D ∧ dY D ≤ 399 ∧ yd (dY D) ≤ D ∧ (D < yd (dY D + 1) ∨ dY D = 399) := by
  by_cases h : D = 146096
  · subst h; decide +kernel
  · have hq : D / 146096 = 0 := by omega
    have hc : D / 36524 = 0 ∨ D / 36524 = 1 ∨ D / 36524 = 2 ∨ D / 36524 = 3 := by omega
    have hY : dY D = (D - D / 1460 + D / 36524) / 365 := by unfold dY; rw [hq]; congr 1; omega
    exact cent D (dY D) (D / 36524) (D / 1460) hc (by omega) (by omega) (by omega) (by omega) (by omega) (by omega) (by omega)
theorem dD_range (n : Int) : 0 ≤ dD n ∧ dD n ≤ 146096 := by unfold dD dK; omega
theorem days_of : ∀ o : Fin 366, 0 ≤ dM (o.val : Int) ∧ dM (o.val : Int) ≤ 11 ∧ 0 ≤ (o.val : Int) - (153 * dM (o.val : Int) + 2) / 5 ∧ (o.val : Int) - (153 * dM (o.val : Int) + 2) / 5 ≤ 30 := by decide +kernel
def dDay (o : Int) : Int := o - (153 * dM o + 2) / 5 + 1
def dOf (n : Int) : Int := dD n - yd (dY (dD n))
theorem dOf_range (n : Int) : 0 ≤ dOf n ∧ dOf n ≤ 365 := by
  obtain ⟨h0, h1⟩ := dD_range n
  obtain ⟨a, b, c, d⟩ := dY_bounds (dD n) h0 h1
  unfold dOf
  rcases d with d | d
  · unfold yd at *; omega
  · rw [d] at c ⊢; unfold yd at *; omega
def dateOf (n : Int) : Int × Int × Int := if dM (dOf n) + 3 > 12 then (dY (dD n) + dK n * 400 + 1, dM (dOf n) + 3 - 12, dDay (dOf n)) else (dY (dD n) + dK n * 400, dM (dOf n) + 3, dDay (dOf n))
theorem date_eq (n : Int) (h0 : -2000000 ≤ n) (h1 : n ≤ 2000000) : value_date.f n = some (dateOf n) := by
  obtain ⟨hD0, hD1⟩ := dD_range n
  obtain ⟨y0, y1, y2, y3⟩ := dY_bounds (dD n) hD0 hD1
  obtain ⟨o0, o1⟩ := dOf_range n
  obtain ⟨m0, m1, d0, d1⟩ := days_of ⟨(dOf n).toNat, by omega⟩
  simp only [show (((dOf n).toNat : Nat) : Int) = dOf n by omega] at m0 m1 d0 d1
  have k0 : -20 ≤ dK n ∧ dK n ≤ 20 := by unfold dK; omega
  unfold value_date.f
  have e1 : wrap64 (n + 719468) = n + 719468 := wrap64_id _ (by omega) (by omega)
  have e2 : value_floor.f (n + 719468) 146097 = some (dK n) := floor_eq _ _ (.inl rfl) (by omega)
  have e3 : wrap64 (dK n * 146097) = dK n * 146097 := wrap64_id _ (by omega) (by omega)
  have e4 : wrap64 (n + 719468 - dK n * 146097) = dD n := wrap64_id _ (by unfold dD at hD0 hD1; omega) (by unfold dD at hD0 hD1; omega)
  rw [e1, e2, Option.bind_some, e3, e4]
  have f1 : wrap64 (Int.tdiv (dD n) 1460) = dD n / 1460 := by rw [Int.tdiv_eq_ediv_of_nonneg hD0]; exact wrap64_id _ (by omega) (by omega)
  have f2 : wrap64 (Int.tdiv (dD n) 36524) = dD n / 36524 := by rw [Int.tdiv_eq_ediv_of_nonneg hD0]; exact wrap64_id _ (by omega) (by omega)
  have f3 : wrap64 (Int.tdiv (dD n) 146096) = dD n / 146096 := by rw [Int.tdiv_eq_ediv_of_nonneg hD0]; exact wrap64_id _ (by omega) (by omega)
  have f4 : wrap64 (dD n - dD n / 1460) = dD n - dD n / 1460 := wrap64_id _ (by omega) (by omega)
  have f5 : wrap64 (dD n - dD n / 1460 + dD n / 36524) = dD n - dD n / 1460 + dD n / 36524 := wrap64_id _ (by omega) (by omega)
  have f6 : wrap64 (dD n - dD n / 1460 + dD n / 36524 - dD n / 146096) = dD n - dD n / 1460 + dD n / 36524 - dD n / 146096 := wrap64_id _ (by omega) (by omega)
  have f7 : wrap64 (Int.tdiv (dD n - dD n / 1460 + dD n / 36524 - dD n / 146096) 365) = dY (dD n) := by rw [Int.tdiv_eq_ediv_of_nonneg (by omega)]; exact wrap64_id _ (by unfold dY at y0 y1; omega) (by unfold dY at y0 y1; omega)
  rw [f1, f2, f3, f4, f5, f6, f7]
  have g1 : wrap64 (365 * dY (dD n)) = 365 * dY (dD n) := wrap64_id _ (by omega) (by omega)
  have g2 : wrap64 (Int.tdiv (dY (dD n)) 4) = dY (dD n) / 4 := by rw [Int.tdiv_eq_ediv_of_nonneg y0]; exact wrap64_id _ (by omega) (by omega)
  have g3 : wrap64 (Int.tdiv (dY (dD n)) 100) = dY (dD n) / 100 := by rw [Int.tdiv_eq_ediv_of_nonneg y0]; exact wrap64_id _ (by omega) (by omega)
  have g4 : wrap64 (365 * dY (dD n) + dY (dD n) / 4) = 365 * dY (dD n) + dY (dD n) / 4 := wrap64_id _ (by omega) (by omega)
  have g5 : wrap64 (365 * dY (dD n) + dY (dD n) / 4 - dY (dD n) / 100) = yd (dY (dD n)) := wrap64_id _ (by omega) (by omega)
  have g6 : wrap64 (dD n - yd (dY (dD n))) = dOf n := wrap64_id _ (by unfold dOf at o0 o1; omega) (by unfold dOf at o0 o1; omega)
  rw [g1, g2, g3, g4, g5, g6]
  have i1 : wrap64 (5 * dOf n) = 5 * dOf n := wrap64_id _ (by omega) (by omega)
  have i2 : wrap64 (5 * dOf n + 2) = 5 * dOf n + 2 := wrap64_id _ (by omega) (by omega)
  have i3 : wrap64 (Int.tdiv (5 * dOf n + 2) 153) = dM (dOf n) := by rw [Int.tdiv_eq_ediv_of_nonneg (by omega)]; exact wrap64_id _ (by omega) (by omega)
  rw [i1, i2, i3]
  have j1 : wrap64 (dM (dOf n) + 3) = dM (dOf n) + 3 := wrap64_id _ (by omega) (by omega)
  have j2 : wrap64 (dK n * 400) = dK n * 400 := wrap64_id _ (by omega) (by omega)
  have j3 : wrap64 (dY (dD n) + dK n * 400) = dY (dD n) + dK n * 400 := wrap64_id _ (by omega) (by omega)
  have j4 : wrap64 (dY (dD n) + dK n * 400 + 1) = dY (dD n) + dK n * 400 + 1 := wrap64_id _ (by omega) (by omega)
  have j5 : wrap64 (dM (dOf n) + 3 - 12) = dM (dOf n) + 3 - 12 := wrap64_id _ (by omega) (by omega)
  have j6 : wrap64 (153 * dM (dOf n)) = 153 * dM (dOf n) := wrap64_id _ (by omega) (by omega)
  have j7 : wrap64 (153 * dM (dOf n) + 2) = 153 * dM (dOf n) + 2 := wrap64_id _ (by omega) (by omega)
  have j8 : wrap64 (Int.tdiv (153 * dM (dOf n) + 2) 5) = (153 * dM (dOf n) + 2) / 5 := by rw [Int.tdiv_eq_ediv_of_nonneg (by omega)]; exact wrap64_id _ (by omega) (by omega)
  have j9 : wrap64 (dOf n - (153 * dM (dOf n) + 2) / 5) = dOf n - (153 * dM (dOf n) + 2) / 5 := wrap64_id _ (by omega) (by omega)
  have j10 : wrap64 (dOf n - (153 * dM (dOf n) + 2) / 5 + 1) = dDay (dOf n) := wrap64_id _ (by omega) (by omega)
  rw [j1, j2, j3, j4, j5, j6, j7, j8, j9, j10]
  unfold dateOf
  split
  · rfl
  · rfl
theorem dateOf_range (n : Int) (h0 : -2000000 ≤ n) (h1 : n ≤ 2000000) : (-8000 ≤ (dateOf n).1 ∧ (dateOf n).1 ≤ 8000) ∧ (1 ≤ (dateOf n).2.1 ∧ (dateOf n).2.1 ≤ 12) ∧ (1 ≤ (dateOf n).2.2 ∧ (dateOf n).2.2 ≤ 31) := by
  obtain ⟨hD0, hD1⟩ := dD_range n
  obtain ⟨y0, y1, y2, y3⟩ := dY_bounds (dD n) hD0 hD1
  obtain ⟨o0, o1⟩ := dOf_range n
  obtain ⟨m0, m1, d0, d1⟩ := days_of ⟨(dOf n).toNat, by omega⟩
  simp only [show (((dOf n).toNat : Nat) : Int) = dOf n by omega] at m0 m1 d0 d1
  have k0 : -20 ≤ dK n ∧ dK n ≤ 19 := by unfold dK; omega
  unfold dateOf dDay
  split
  · refine ⟨⟨?_, ?_⟩, ⟨?_, ?_⟩, ?_, ?_⟩ <;> simp only <;> omega
  · refine ⟨⟨?_, ?_⟩, ⟨?_, ?_⟩, ?_, ?_⟩ <;> simp only <;> omega
theorem bt_at (l : List UInt8) (i : Nat) (h : i < l.length) : bt (⟨l.toArray⟩ : ByteArray) (i : Int) = ((l[i]'h).toNat : Int) := by
  unfold bt
  have h' : ((i : Int)).toNat < (⟨l.toArray⟩ : ByteArray).size := by rw [sz_mk]; simpa using h
  rw [dif_pos h']; rfl
def nums (l : List UInt8) : List Int := l.map fun b => (b.toNat : Int)
theorem plain_total (n : Int) : ∃ b, value_plain.f n = some b := by
  unfold value_plain.f
  repeat' split
  all_goals exact ⟨_, rfl⟩
theorem unq_total : ∀ (n : Nat) (s : ByteArray) (x4 : List Int) (k : Nat), s.size ≤ n → 2 * n < k → x4.length + n < 140737488355328 → ∃ p, value_unquote.l0 k s x4 = some p
  | n, s, x4, 0, h, hk, hx => by omega
  | 0, s, x4, k + 1, h, hk, hx => by
    rw [value_unquote.l0, if_neg (by omega)]
    exact ⟨_, rfl⟩
  | n + 1, s, x4, k + 1, h, hk, hx => by
    by_cases h0 : (s.size : Int) > 0
    · obtain ⟨k', rfl⟩ : ∃ k', k = k' + 1 := ⟨k - 1, by omega⟩
      obtain ⟨b, hb⟩ := plain_total (bt s 0)
      rw [value_unquote.l0, if_pos h0, if_pos (by omega), hb, Option.bind_some]
      have hj : ∀ q, (q = true → 4 ≤ (s.size : Int)) → ∃ p, value_unquote.j2 (k' + 1) s x4 q = some p := by
        intro q hq
        rw [value_unquote.j2]
        by_cases h1 : q = true
        · have := hq h1
          rw [if_pos h1, if_pos (by omega)]
          unfold strings_IndexByte.f
          rw [Option.bind_some, if_pos (by omega), Option.bind_some]
          split
          · exact ⟨_, rfl⟩
          · split
            · exact ⟨_, rfl⟩
            · obtain ⟨b', hb'⟩ := plain_total ((Go.bits .or .i64 (wrap64 (Lib.indexByte (⟨#[48, 49, 50, 51, 52, 53, 54, 55, 56, 57, 97, 98, 99, 100, 101, 102]⟩ : ByteArray).data.toList (bt s 2).toNat.toUInt8 * 16)) (Lib.indexByte (⟨#[48, 49, 50, 51, 52, 53, 54, 55, 56, 57, 97, 98, 99, 100, 101, 102]⟩ : ByteArray).data.toList (bt s 3).toNat.toUInt8)) % 256)
              rw [hb', Option.bind_some]
              split
              · exact ⟨_, rfl⟩
              · rw [if_pos (by omega)]
                exact unq_total n _ _ k' (by rw [ByteArray.size_extract]; omega) (by omega) (by simp; omega)
        · rw [if_neg h1]; exact ⟨_, rfl⟩
      split
      · rw [if_pos (by omega), if_pos (by omega)]
        exact unq_total n _ _ (k' + 1) (by rw [ByteArray.size_extract]; omega) (by omega) (by simp; omega)
      · split
        · rw [if_pos (by omega)]; exact hj _ (fun _ => by omega)
        · exact hj _ (fun h => by simp at h)
    · rw [value_unquote.l0, if_neg h0]
      exact ⟨_, rfl⟩
theorem unquote_total (s : ByteArray) (k : Nat) (h : s.size ≤ 1000000) (hk : 2 * s.size + 2 < k) : ∃ p, value_unquote.f k s = some p := by
  obtain ⟨k', rfl⟩ : ∃ k', k = k' + 1 := ⟨k - 1, by omega⟩
  have hj : ∀ q, (q = false → 2 ≤ (s.size : Int)) → ∃ p, value_unquote.j0 (k' + 1) s q = some p := by
    intro q hq
    rw [value_unquote.j0]
    by_cases h1 : q = true
    · rw [if_pos h1]; exact ⟨_, rfl⟩
    · have := hq (by simpa using h1)
      have hw : wrap64 ((s.size : Int) - 1) = (s.size : Int) - 1 := wrap64_id _ (by omega) (by omega)
      rw [if_neg h1, hw, if_pos (by omega), if_pos (by omega)]
      exact unq_total s.size _ _ k' (by rw [ByteArray.size_extract]; omega) (by omega) (by simp; omega)
  unfold value_unquote.f
  by_cases h2 : (s.size : Int) < 2
  · rw [if_pos h2]; exact hj true (by simp)
  · have hw : wrap64 ((s.size : Int) - 1) = (s.size : Int) - 1 := wrap64_id _ (by omega) (by omega)
    rw [if_neg h2, if_pos (by omega)]
    split
    · rw [hw, if_pos (by omega), if_pos (by omega)]; exact hj _ (fun _ => by omega)
    · exact hj true (by simp)
def dated (n : Int) : List UInt8 := pad (dateOf n).1 4 ++ [45] ++ pad (dateOf n).2.1 2 ++ [45] ++ pad (dateOf n).2.2 2
def shown (b : Bool) (n : Int) (s : ByteArray) (t : Int) : List UInt8 :=
  if b = true then [110, 117, 108, 108] else if t = 1 then (if n = 1 then [116, 114, 117, 101] else [102, 97, 108, 115, 101]) else if t = 4 then quoted s.data.toList else if t = 5 then dated n else Lib.itoa n
theorem dated_len (n : Int) (h0 : -2000000 ≤ n) (h1 : n ≤ 2000000) : (pad (dateOf n).1 4).length ≤ 200 ∧ (pad (dateOf n).2.1 2).length ≤ 200 ∧ (pad (dateOf n).2.2 2).length ≤ 200 := by
  obtain ⟨⟨a, b⟩, ⟨c, d⟩, e, f⟩ := dateOf_range n h0 h1
  exact ⟨pad_len _ _ (by omega) (by omega), pad_len _ _ (by omega) (by omega), pad_len _ _ (by omega) (by omega)⟩
theorem Show_valid {b : Bool} {n : Int} {s : ByteArray} {t : Int} (ht : 1 ≤ t ∧ t ≤ 5) (h : Vk t b n s) : value_Show.f b n s t = some ⟨(shown b n s t).toArray⟩ := by
  obtain ⟨v, hv, hv2⟩ := Valid_some b n s t
  have hvt : v = true := hv2.2 ⟨ht, h⟩
  subst hvt
  unfold value_Show.f shown
  rw [hv, Option.bind_some, if_pos rfl]
  cases b
  · simp only [Bool.false_eq_true, if_false]
    by_cases h1 : t = 1
    · rw [if_pos h1, if_pos h1]
      unfold strconv_FormatBool_30.f strconv_FormatBool_48.f
      by_cases hn : n = 1
      · rw [hn]; rfl
      · rw [if_neg hn, if_neg (by simpa using hn)]; rfl
    · rw [if_neg h1, if_neg h1]
      by_cases h4 : t = 4
      · rw [if_pos h4, if_pos h4]
        have hs : s.size ≤ 1000000000 := by
          cases h with
          | text _ _ h => omega
          | num _ _ h => exact absurd h4 h
        unfold value_quote.f
        rw [if_pos hs, Option.bind_some]
      · rw [if_neg h4, if_neg h4]
        have hn : lo t ≤ n ∧ n ≤ hi t := by
          cases h with
          | text _ h => exact absurd h h4
          | num _ _ _ _ h0 h1 => exact ⟨h0, h1⟩
        by_cases h5 : t = 5
        · rw [if_pos h5, if_pos h5]
          have hr : -2000000 ≤ n ∧ n ≤ 2000000 := by
            subst h5
            have e1 : lo 5 = -1000000 := by decide
            have e2 : hi 5 = 1000000 := by decide
            omega
          obtain ⟨l1, l2, l3⟩ := dated_len n hr.1 hr.2
          obtain ⟨⟨a, b⟩, ⟨c, d⟩, e, f⟩ := dateOf_range n hr.1 hr.2
          have g1 := padded_eq (dateOf n).1 4 (by omega) (by omega)
          have g2 := padded_eq (dateOf n).2.1 2 (by omega) (by omega)
          have g3 := padded_eq (dateOf n).2.2 2 (by omega) (by omega)
          rw [date_eq n hr.1 hr.2, Option.bind_some, g1, Option.bind_some]
          have d1 : (⟨#[45]⟩ : ByteArray) = ⟨([45] : List UInt8).toArray⟩ := rfl
          have c1 : (⟨(pad (dateOf n).1 4).toArray⟩ : ByteArray) ++ ⟨#[45]⟩ = ⟨(pad (dateOf n).1 4 ++ [45]).toArray⟩ := by rw [d1]; exact cat_mk _ _
          have c2 : (⟨(pad (dateOf n).1 4 ++ [45]).toArray⟩ : ByteArray) ++ ⟨(pad (dateOf n).2.1 2).toArray⟩ = ⟨(pad (dateOf n).1 4 ++ [45] ++ pad (dateOf n).2.1 2).toArray⟩ := cat_mk _ _
          have c3 : (⟨(pad (dateOf n).1 4 ++ [45] ++ pad (dateOf n).2.1 2).toArray⟩ : ByteArray) ++ ⟨#[45]⟩ = ⟨(pad (dateOf n).1 4 ++ [45] ++ pad (dateOf n).2.1 2 ++ [45]).toArray⟩ := by rw [d1]; exact cat_mk _ _
          have c4 : (⟨(pad (dateOf n).1 4 ++ [45] ++ pad (dateOf n).2.1 2 ++ [45]).toArray⟩ : ByteArray) ++ ⟨(pad (dateOf n).2.2 2).toArray⟩ = ⟨(dated n).toArray⟩ := cat_mk _ _
          rw [if_pos (by rw [sz_mk]; omega), c1, g2, Option.bind_some, if_pos (by rw [sz_mk, sz_mk, List.length_append]; simp; omega), c2, if_pos (by rw [sz_mk]; simp only [List.length_append, List.length_singleton]; omega), c3, g3, Option.bind_some, if_pos (by rw [sz_mk, sz_mk]; simp only [List.length_append, List.length_singleton]; omega), c4]
        · rw [if_neg h5, if_neg h5]
          have := lohi t
          rw [FormatInt_eq n (by unfold Rg; omega)]
          rfl
  · rw [if_pos rfl, if_pos rfl]
theorem Show_some (b : Bool) (n : Int) (s : ByteArray) (t : Int) : ∃ r, value_Show.f b n s t = some r ∧ (((1 ≤ t ∧ t ≤ 5) ∧ Vk t b n s ∧ r = ⟨(shown b n s t).toArray⟩) ∨ (¬ ((1 ≤ t ∧ t ≤ 5) ∧ Vk t b n s) ∧ r = ⟨#[]⟩)) := by
  by_cases h : (1 ≤ t ∧ t ≤ 5) ∧ Vk t b n s
  · exact ⟨_, Show_valid h.1 h.2, .inl ⟨h.1, h.2, rfl⟩⟩
  · obtain ⟨v, hv, hv2⟩ := Valid_some b n s t
    have hvt : v = false := by
      cases v
      · rfl
      · exact absurd (hv2.1 rfl) h
    refine ⟨⟨#[]⟩, ?_, .inr ⟨h, rfl⟩⟩
    unfold value_Show.f
    rw [hv, Option.bind_some, hvt, if_neg (by decide)]
theorem ptail_some (a0 : ByteArray) (t n : Int) (s : ByteArray) (ok : Bool) : ∃ r, ptail a0 t n s ok = some r ∧ ((r.2.2.2 ≠ 0 ∧ r.1 = false ∧ r.2.1 = 0 ∧ r.2.2.1 = ⟨#[]⟩) ∨ (r = (false, n, s, 0) ∧ (1 ≤ t ∧ t ≤ 5) ∧ Vk t false n s ∧ a0.toList = shown false n s t)) := by
  unfold ptail
  by_cases hk : ok = true
  · rw [if_pos hk]
    by_cases ha : a0.toList = []
    · rw [if_pos ha]
      exact ⟨_, rfl, .inl ⟨by decide, rfl, rfl, rfl⟩⟩
    · rw [if_neg ha]
      obtain ⟨r, hr, h⟩ := Show_some false n s t
      rw [hr, Option.bind_some]
      by_cases hq : r.toList = a0.toList
      · rw [if_pos hq]
        refine ⟨_, rfl, ?_⟩
        rcases h with ⟨h1, h2, h3⟩ | ⟨h1, h2⟩
        · right
          refine ⟨rfl, h1, h2, ?_⟩
          rw [← hq, h3, tl_mk]
        · rw [h2] at hq
          exact absurd (hq.symm.trans (tl _)) ha
      · rw [if_neg hq]
        exact ⟨_, rfl, .inl ⟨by decide, rfl, rfl, rfl⟩⟩
  · rw [if_neg hk]
    exact ⟨_, rfl, .inl ⟨by decide, rfl, rfl, rfl⟩⟩
theorem pInt_range (B : Nat) (hB : B = 32 ∨ B = 64) (s : ByteArray) : ∃ y b, pInt B s = (y, b) := ⟨_, _, rfl⟩
theorem parseDay_some (s : ByteArray) : ∃ p, value_parseDay.f s = some p := by
  unfold value_parseDay.f
  split
  · exact ⟨_, rfl⟩
  · have hf : ∀ y m d, ∃ r, value_day.f y m d = some r := by
      intro y m d
      unfold value_day.f value_floor.f
      split
      · rw [if_neg (by decide)]
        split <;> exact ⟨_, rfl⟩
      · rw [if_neg (by decide)]
        split <;> exact ⟨_, rfl⟩
    obtain ⟨y, e, h1⟩ := pInt_range 32 (.inl rfl) (s.extract 0 (s.size - 6))
    obtain ⟨m, f, h2⟩ := pInt_range 32 (.inl rfl) (s.extract (s.size - 6 + 1) (s.size - 6 + 3))
    obtain ⟨d, g, h3⟩ := pInt_range 32 (.inl rfl) (s.extract (s.size - 6 + 4) s.size)
    rw [h1, h2, h3]
    obtain ⟨r, hr⟩ := hf y m d
    simp only
    rw [hr]
    exact ⟨_, rfl⟩
theorem Parse_some (k : Nat) (a0 : ByteArray) (t : Int) (h : a0.size ≤ 1000000) (hk : 2 * a0.size + 2 < k) : ∃ r, value_Parse.f k a0 t = some r ∧ ((r.2.2.2 ≠ 0 ∧ r.1 = false ∧ r.2.1 = 0 ∧ r.2.2.1 = ⟨#[]⟩) ∨ (r.2.2.2 = 0 ∧ (1 ≤ t ∧ t ≤ 5) ∧ Vk t r.1 r.2.1 r.2.2.1 ∧ a0.toList = shown r.1 r.2.1 r.2.2.1 t)) := by
  have tail : ∀ n s ok, ∃ r, ptail a0 t n s ok = some r ∧ ((r.2.2.2 ≠ 0 ∧ r.1 = false ∧ r.2.1 = 0 ∧ r.2.2.1 = ⟨#[]⟩) ∨ (r.2.2.2 = 0 ∧ (1 ≤ t ∧ t ≤ 5) ∧ Vk t r.1 r.2.1 r.2.2.1 ∧ a0.toList = shown r.1 r.2.1 r.2.2.1 t)) := by
    intro n s ok
    obtain ⟨r, hr, h⟩ := ptail_some a0 t n s ok
    refine ⟨r, hr, h.imp id ?_⟩
    rintro ⟨rfl, h1, h2, h3⟩
    exact ⟨rfl, h1, h2, h3⟩
  unfold value_Parse.f
  rw [isType_eq, Option.bind_some]
  by_cases ht : 1 ≤ t ∧ t ≤ 5
  · rw [if_pos (by simpa using ht)]
    by_cases hn : a0.toList = [110, 117, 108, 108]
    · rw [if_pos hn]
      refine ⟨_, rfl, .inr ⟨rfl, ht, .null _ (tl _), ?_⟩⟩
      rw [hn]; unfold shown; rw [if_pos rfl]
    · rw [if_neg hn]
      by_cases h1 : t = 1
      · rw [if_pos h1]
        split
        · exact tail _ _ _
        · exact tail _ _ _
      · rw [if_neg h1]
        by_cases h4 : t = 4
        · rw [if_pos h4]
          obtain ⟨p, hp⟩ := unquote_total a0 k h hk
          rw [hp]
          exact tail _ _ _
        · rw [if_neg h4]
          by_cases h5 : t = 5
          · rw [if_pos h5]
            obtain ⟨p, hp⟩ := parseDay_some a0
            rw [hp]
            exact tail _ _ _
          · rw [if_neg h5, if_pos (by omega)]
            exact tail _ _ _
  · rw [if_neg (by simpa using ht)]
    exact ⟨_, rfl, .inl ⟨by decide, rfl, rfl, rfl⟩⟩
theorem sane_five : fenlandlaw05_sanity.f 1000000001 = some true := by kernel_rfl
theorem str_len (l : List Int) : (strOfNums l).size = l.length := by
  have h : (strOfNums l).toList.length = l.length := by rw [Lib.strOfNums_toList]; unfold Lib.bytesOf; simp
  rw [tl] at h
  simpa using h
theorem law_canonical (l : List Int) (hB : Bytes l) (a t : Int) : fenlandlaw05_ValueCanonical.f 1000000001 l a t = some true := by
  unfold fenlandlaw05_ValueCanonical.f
  rw [sane_five, Option.bind_some]
  by_cases h : (l.length : Int) > 400
  · rw [if_pos h]
  rw [if_neg h]
  obtain ⟨d, hd, hd2⟩ := Decode_cases l hB (by omega) a t 1000000001 (by omega)
  obtain ⟨p, hp, hp2⟩ := Parse_some 1000000001 (strOfNums l) t (by rw [str_len]; omega) (by rw [str_len]; omega)
  rw [hd, Option.bind_some, hp, Option.bind_some]
  have key : fenlandlaw05_ValueCanonical.j0 1000000001 l a t true d.2.2.2.1 d.2.2.2.2 false d.1 d.2.1 d.2.2.1 = some true := by
    rw [fenlandlaw05_ValueCanonical.j0, if_neg (by decide)]
    rcases hd2 with ⟨h1, h2, h3, h4, h5⟩ | ⟨h1, ht, hv, b, rest, rfl, hb, hdr, hn⟩
    · rw [if_neg h1, h2, h3, h4, h5, empty_list]
      rfl
    · obtain ⟨e1, e2⟩ := enc_length hv
      have hl := congrArg List.length hdr
      simp only [List.length_drop, List.length_append] at hl
      obtain ⟨v, hv1, hv2⟩ := Valid_some d.1 d.2.1 d.2.2.1 t
      have hvt : v = true := hv2.2 ⟨ht, hv⟩
      subst hvt
      rw [if_pos h1, if_neg (by omega), if_neg (by omega), if_neg (by omega), hv1, Option.bind_some, if_pos rfl, Encode_valid ht hv [] (by simp) _ (by decide), Option.bind_some, if_pos (by omega), if_pos (by omega), if_pos (by omega), hn]
      have hcut : (l.take ((b : Int) + ((enc d.1 d.2.1 d.2.2.1 t).length : Int)).toNat).drop ((b : Int)).toNat = enc d.1 d.2.1 d.2.2.1 t := by
        have g1 : ((b : Int) + ((enc d.1 d.2.1 d.2.2.1 t).length : Int)).toNat = b + (enc d.1 d.2.1 d.2.2.1 t).length := by omega
        rw [g1, Int.toNat_natCast, List.drop_take, hdr]
        simp
      rw [hcut, List.nil_append, Same_eq _ _ (by omega) (by omega), Option.bind_some, if_pos rfl]
  rcases hp2 with ⟨h1, _⟩ | ⟨h1, ht, hv, hs⟩
  · rw [if_neg h1]; exact key
  · obtain ⟨v, hv1, hv2⟩ := Valid_some p.1 p.2.1 p.2.2.1 t
    have hvt : v = true := hv2.2 ⟨ht, hv⟩
    subst hvt
    rw [if_pos h1, hv1, Option.bind_some, if_pos rfl, Show_valid ht hv, Option.bind_some]
    have e : ((⟨(shown p.1 p.2.1 p.2.2.1 t).toArray⟩ : ByteArray).toList != (strOfNums l).toList) = false := by
      rw [tl_mk, hs]; simp
    rw [e]
    exact key
end
end Go.Proofs.YtlcibkbpppijdaaDoor.X
namespace Go.Proofs.YtlcibkbpppijdaaDoor.valueCanonical
section
open Go.ChangeShapes Go.WideShapes Go.ChangeAt Go.RowKit Go.Proofs.YtlcibkbpppijdaaDoor.X
open Go.RowKit Go.Proofs.YtlcibkbpppijdaaDoorW.PrintWords Go.Proofs.YtlcibkbpppijdaaDoorW.PrintLast Go.Proofs.YtlcibkbpppijdaaDoorW.PrintMore
set_option linter.unusedVariables false
theorem own : ownKnob Tryd.prog.godebug = none := by kernel_rfl
theorem laidOut : laidOutB Tryd.prog = true := by kernel_rfl
theorem bytes_of {l : List Int} (h : ∀ x ∈ l, (Lit.int .u8 x).wf = true) : Bytes l := fun c hc => by
  have := h c hc
  simp [Lit.wf, IntKind.min, IntKind.max, IntKind.signed, IntKind.bits] at this
  omega
set_option maxHeartbeats 2000000 in
set_option maxRecDepth 100000 in
theorem contract (H : Type) (enc : TypeId × Value → H) (W : World) (base : Nat) (args : Array Value) (ds gs : List (DataW H)) (before : List MemPlace)
    (hval0 : ∀ (j : Nat) t v, Tryd.f4.params[j]? = some t → args[j]? = some v → Value.okWide Tryd.prog W .any base t v)
    (hW : DataW.Whole enc Tryd.prog Tryd.f4.params.toList Rows.valueCanonicalSpec.vars false W args.toList ds gs before)
    (hL : laidMetH Tryd.prog laid5 W) :
    Calls Tryd.prog 4 args W fun e W' => ∃ v, e = .returned v ∧ Rows.valueCanonicalSpec.post enc Tryd.prog Tryd.f4 false true false false W args v W' := by
  have hG := glob_of_laid hL
  have hval := hval0
  have hW' := hW
  obtain ⟨p, q, hA0, hV, rfl, hfz, hnd⟩ := hW
  have hA : DataW.TrodAll enc Tryd.prog W 0 (fun _ => true) true Tryd.f4.params.toList args.toList ds p := hA0
  rw [Tryd.params4] at hA hval
  obtain ⟨v0, vs0, d0, ds0, p0, q0, hargs, rfl, rfl, h0, r0⟩ := trodAll_cons hA
  obtain ⟨v1, vs1, d1, ds1, p1, q1, rfl, rfl, rfl, h1, r1⟩ := trodAll_cons r0
  obtain ⟨v2, vs2, d2, ds2, p2, q2, rfl, rfl, rfl, h2, r2⟩ := trodAll_cons r1
  obtain ⟨rfl, rfl, rfl⟩ := trodAll_nil r2
  obtain rfl : args = #[v0, v1, v2] := by cases args; simp_all
  obtain ⟨rfl, rfl⟩ := trodVars_none hV
  have sz := sizeOk_bulk (H := H) (Rows.uptoBulk d0)
  have oU : Opens enc Tryd.prog W (fun d => Rows.uptoBulk d ≤ Rows.uptoBulk d0) 22 (Kd.slice 5 (Kd.int .u8)) _ := opens_slice sz Tryd.underlying22 (by kernel_rfl) (opens_int Tryd.underlying5)
  have k0 := h0
  have lt0 : ∀ x ∈ p0, x.block < W.heap.size := by obtain ⟨m, hm⟩ := k0; exact DataW.trod_lt m _ _ _ hm
  obtain ⟨A1, n1, c1, rfl⟩ := okWide_slice Tryd.underlying22 (hval 0 22 v0 rfl rfl)
  obtain ⟨a1, rfl, rfl, rfl, w1⟩ := open_int Tryd.underlying3 (hval 1 3 v1 rfl rfl) h1
  obtain ⟨a2, rfl, rfl, rfl, w2⟩ := open_int Tryd.underlying3 (hval 2 3 v2 rfl rfl) h2
  obtain ⟨l1, ⟨A1', cap1, e1, hl1, hC1⟩, wl1, wx1⟩ := opens_arg oU h0 (Nat.le_refl _)
  simp [Value.cells] at e1
  obtain ⟨rfl, rfl, rfl⟩ := e1
  have h := law_canonical l1 (bytes_of wx1) a1 a2
  clear hA0 hval0
  refine (fenlandlaw05_ValueCanonical.calls 1000000001 A1 c1 l1 a1 a2 true W hG hC1 hl1 h).mono fun e W' ⟨he, bel⟩ => ?_
  subst he
  exact ⟨_, rfl, _, _, _, [], _, [], hW', trodAll_mk1 (shut_bool Tryd.underlying4 _), (trodAll_cons_mk (Below.trod laidOut (by kernel_rfl) (of_decide_eq_true (by kernel_rfl)) k0 bel lt0) (trodAll_cons_mk (shut_int Tryd.underlying3 w1) (trodAll_cons_mk (shut_int Tryd.underlying3 w2) trodAll_mk0))), rfl, bel.frame _, fun h => by cases h⟩
set_option maxRecDepth 100000 in
theorem lifted (os : Os) (started : os.Started) (H : Type) (enc : TypeId × Value → H) :
    ReturnsInHanded {} Tryd.checked os 4 .any (fun w args => (Rows.valueCanonicalSpec.pre enc Tryd.prog Tryd.f4 [] false w args ∧ laidMetH Tryd.prog laid5 w) ∧ sizedMet enc Tryd.prog Tryd.f4 (OpenSpec.ofChange Rows.valueCanonicalSpec) false w args)
      (Rows.valueCanonicalSpec.post enc Tryd.prog Tryd.f4 false true false false) := by
  refine returnsInHanded_of_change_and (C := Tryd.checked) (X := fun w _ => laidMetH Tryd.prog laid5 w) (fun _ _ _ hh h => h.of_heap hh) own started (by kernel_rfl) Tryd.func4
    (ChangeSpec.witness_shaped (enc := enc) (C := Tryd.checked) (os := os) (X := fun w _ => laidMetH Tryd.prog laid5 w) false (World.doorLaid Tryd.prog 62 os) #[.slice none 0 0, .int .i64 0, .int .i64 0] 8 rfl (World.shaped_of_RefB (by kernel_rfl) (by kernel_rfl)) (by kernel_rfl) (by kernel_rfl) (by kernel_rfl) (door_met os _)) ?_
  intro W base args ds gs before hval hW _ _ hL _
  exact contract H enc W base args ds gs before hval hW hL
theorem said : Rows.ValueCanonicalSaid :=
  OpenClaim.holds_of_wide 4 Tryd.f4 rfl rfl rfl rfl rfl rfl rfl ⟨rfl, rfl, rfl, rfl, rfl⟩ rfl rfl rfl rfl rfl (by kernel_rfl) Tryd.func4 (by kernel_rfl)
    (of_decide_eq_true (by kernel_rfl)) (by unfold Func.isWrapper; first | (rw [if_pos (by decide +kernel)]; kernel_rfl) | (rw [if_neg (by decide +kernel)]; exact ⟨rfl, rfl⟩))
    (fun os started H enc _ => lifted os started H enc)
theorem proved : Rows.ValueCanonicalCardSaid :=
  Claim7.holds_tied_plain_at .later [] [.data, .data, .data, .sentinel, .sentinel] true (true, "247e06dd01fcf82314a8c5773a93aa928bdb681681bffa32221604a645d23183") true
    said (fun _ h => by cases h) (by kernel_rfl) (fun _ h => by cases h) valueCanonical_row_tie rfl ⟨rfl, rfl⟩ (by kernel_rfl) rfl
    (fun f fn hf hfn => by
      obtain rfl : f = 4 := Option.some.inj ((show Tryd.prog.funcNamed "fenland/fenlandlaw05.ValueCanonical" = some 4 by kernel_rfl).symm.trans hf) |>.symm
      obtain rfl : fn = Tryd.f4 := (Option.some.inj (Tryd.func4.symm.trans hfn)).symm
      exact ⟨by kernel_rfl, fun j t ht => by
        rw [Tryd.params4] at ht
        have hm : t ∈ [22, 3, 3] := by simpa using Array.mem_of_getElem? ht
        have hall : ([22, 3, 3].all fun u => !Tryd.prog.wantsStandIn u) = true := by kernel_rfl
        exact (show Tryd.prog.wantsStandIn t = false by simpa using List.all_eq_true.1 hall t hm)⟩)
    (by kernel_rfl)
#print axioms proved
end
end Go.Proofs.YtlcibkbpppijdaaDoor.valueCanonical
