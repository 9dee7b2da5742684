/- The law LawPagePut: its walk and its proof, part 1 of 14. -/
import Derived.ArgAppend
import Derived.Below
import Derived.BigQuiet
import Derived.Carry
import Derived.ChangeArms
import Derived.DataReads
import Derived.Deep.AppendLies
import Derived.Deep.CutBlock
import Derived.Deep.DeepCutAuto
import Derived.Deep.Draws
import Derived.Deep.LoopGhost
import Derived.Deep.OwnRows
import Derived.Deep.QuietTactic
import Derived.Deep.RegionHeld3
import Derived.Deep.Strs
import Derived.Handy
import Derived.KernelRfl
import Derived.LaidEql
import Derived.Laws.BitsLemmas
import Derived.Laws.BytesArg
import Derived.Laws.IdiomCopy
import Derived.Laws.MakeOwn
import Derived.Laws.OwnMore
import Derived.Laws.Rows
import Derived.Laws.Slices
import Derived.Lib.AppendStr
import Derived.Lib.ConvBytes
import Derived.Maps.AppendAt
import Derived.OpenShut
import Derived.OrdersHeld
import Derived.OwnWalk
import Derived.RowKit
import Derived.RowKit3
import Derived.Tactics
import Derived.Test.YtnfdhgfpjamphaaProg
import Derived.Test.YtnfdhgfpjamphaaRows
import Derived.Test.YtnfdhgfpjamphaaYWLawPagePut
import Derived.WalkKit
import Derived.WideLaws
namespace Go.Proofs.Ytnfdhgfpjamphaa.X
section
open Go.RowKit Go.Proofs.YtnfdhgfpjamphaaW.PrintWords Go.Proofs.YtnfdhgfpjamphaaW.PrintLast Go.Proofs.YtnfdhgfpjamphaaW.PrintMore
attribute [local go_sem] max2_int min2_int max_two min_two max_three min_three max_four min_four   -- for this text's walks alone
set_option linter.unusedVariables false
set_option linter.unusedSimpArgs false
def errW : Option Int → Value
 | none => .nilIface
 | some c => .iface 0 (.int .i64 c)
theorem errW_none : errW none = .nilIface := rfl
theorem errW_some (c : Int) : errW (some c) = .iface 0 (.int .i64 c) := rfl
theorem info3 : (Try.prog.info? 3).map (fun i => (i.zero, i.size, i.bytes)) = some (some (.int .i64 0), 1, 8) := by kernel_rfl
theorem info5 : (Try.prog.info? 5).map (fun i => (i.zero, i.size, i.bytes)) = some (some (.int .u8 0), 1, 1) := by kernel_rfl
theorem info26 : (Try.prog.info? 26).map (fun i => (i.zero, i.size, i.bytes)) = some (some (.agg #[(.bool false), (.int .i64 0), (.string ⟨#[]⟩)]), 3, 32) := by kernel_rfl
def rd_L2 (xs : List (List Int)) (i : Int) : (List Int) := xs.getD i.toNat ([] : List Int)
theorem at_L2 {w : World} {A : Option Addr} {n : Nat} {xs : List (List Int)} (h : Kd.C (Kd.slice 5 (Kd.int .u8)) w A n xs) (i : Int) (h0 : 0 ≤ i) (h1 : i < n) : ∃ ad A0 c0, A = some ad ∧ w.cell? (ad.add i.toNat) = some (.slice A0 (rd_L2 xs i).length c0) ∧ (rd_L2 xs i).length ≤ c0 ∧ (Kd.int .u8).C w A0 (rd_L2 xs i).length (rd_L2 xs i) := by
 obtain ⟨ad, c, e, _, hK, hc0⟩ := Kd.C_get h ([] : List Int) i h0 h1
 have hc : ∀ j u, c[j]? = some u → w.cell? (ad.add (i.toNat * 1 + j)) = some u := hc0
 obtain ⟨A0, c0, rfl, l0, g0⟩ := hK
 exact ⟨ad, A0, c0, e, by have hq := hc 0 _ rfl; rwa [Nat.mul_one, Nat.add_zero] at hq, l0, g0⟩
/-! #### struct type 26 -/
structure S26 where
 f0 : Bool
 f1 : Int
 f2 : ByteArray
def z26 : S26 := ⟨false, (0 : Int), (⟨#[]⟩ : ByteArray)⟩
def k26 : Kd S26 := Kd.iso (Kd.pair Kd.bool (Kd.pair (Kd.int .i64) Kd.string)) (fun x : S26 => (x.f0, x.f1, x.f2))
theorem k26_heap : Kd.Heap k26 := Kd.heap_iso _ (Kd.heap_pair Kd.heap_bool (Kd.heap_pair (Kd.heap_int .i64) Kd.heap_string))
theorem k26_open {w : World} {x : S26} {cs : List Value} (h : k26.K w x cs) : cs = [.bool x.f0, .int .i64 x.f1, .string x.f2] := by
 obtain ⟨_, _, rfl, rfl, ⟨_, _, rfl, rfl, rfl⟩⟩ := h
 exact rfl
theorem k26_openM {w : World} {base : Nat} {ok : Nat → Prop} {x : S26} {cs : List Value} (h : k26.M w base ok x cs) : cs = [.bool x.f0, .int .i64 x.f1, .string x.f2] := by
 obtain ⟨_, _, rfl, rfl, ⟨_, _, rfl, rfl, rfl⟩⟩ := h
 exact rfl
theorem k26_mk (w : World) (x : S26)  : k26.K w x [.bool x.f0, .int .i64 x.f1, .string x.f2] := ⟨[.bool x.f0], [.int .i64 x.f1, .string x.f2], rfl, rfl, ⟨[.int .i64 x.f1], [.string x.f2], rfl, rfl, rfl⟩⟩
theorem k26_mkM (w : World) (base : Nat) (ok : Nat → Prop) (x : S26)  : k26.M w base ok x [.bool x.f0, .int .i64 x.f1, .string x.f2] := ⟨[.bool x.f0], [.int .i64 x.f1, .string x.f2], rfl, rfl, ⟨[.int .i64 x.f1], [.string x.f2], rfl, rfl, rfl⟩⟩
theorem k26_mkF (W : World) (ok : Nat → Prop) (x : S26) : Kd.FK k26 W ok x [.bool x.f0, .int .i64 x.f1, .string x.f2] := fun W2 _ => k26_mk W2 x
def rd_T26 (xs : List S26) (i : Int) : S26 := xs.getD i.toNat z26
theorem at_T26 {w : World} {A : Option Addr} {n : Nat} {xs : List S26} (h : Kd.C k26 w A n xs) (i : Int) (h0 : 0 ≤ i) (h1 : i < n) : ∃ ad , A = some ad ∧ w.cell? (ad.add (i.toNat * 3)) = some (.bool (rd_T26 xs i).f0) ∧ w.cell? ⟨(ad.add (i.toNat * 3)).block, (ad.add (i.toNat * 3)).off + 1, none⟩ = some (.int .i64 (rd_T26 xs i).f1) ∧ w.cell? ⟨(ad.add (i.toNat * 3)).block, (ad.add (i.toNat * 3)).off + 2, none⟩ = some (.string (rd_T26 xs i).f2) := by
 obtain ⟨ad, c, e, _, hK, hc0⟩ := Kd.C_get h z26 i h0 h1
 have hc : ∀ j u, c[j]? = some u → w.cell? (ad.add (i.toNat * 3 + j)) = some u := hc0
 obtain rfl := k26_open hK
 exact ⟨ad, e, hc 0 _ rfl, by rw [← add_field _ _ 1 (by omega)]; exact hc 1 _ rfl, by rw [← add_field _ _ 2 (by omega)]; exact hc 2 _ rfl⟩
def rd_L6 (xs : List (List S26)) (i : Int) : (List S26) := xs.getD i.toNat ([] : List S26)
theorem at_L6 {w : World} {A : Option Addr} {n : Nat} {xs : List (List S26)} (h : Kd.C (Kd.slice 26 k26) w A n xs) (i : Int) (h0 : 0 ≤ i) (h1 : i < n) : ∃ ad A0 c0, A = some ad ∧ w.cell? (ad.add i.toNat) = some (.slice A0 (rd_L6 xs i).length c0) ∧ (rd_L6 xs i).length ≤ c0 ∧ k26.C w A0 (rd_L6 xs i).length (rd_L6 xs i) := by
 obtain ⟨ad, c, e, _, hK, hc0⟩ := Kd.C_get h ([] : List S26) i h0 h1
 have hc : ∀ j u, c[j]? = some u → w.cell? (ad.add (i.toNat * 1 + j)) = some u := hc0
 obtain ⟨A0, c0, rfl, l0, g0⟩ := hK
 exact ⟨ad, A0, c0, e, by have hq := hc 0 _ rfl; rwa [Nat.mul_one, Nat.add_zero] at hq, l0, g0⟩
class Ex (w w' : World) : Prop where
  below : Below w.heap.size w w'
instance Ex.refl (w : World) : Ex w w := ⟨Below.refl _ _⟩
instance Ex.alloc (w w' : World) (o : Obj) [h : Ex w w'] : Ex w (w'.alloc o) := ⟨below_alloc h.below o⟩
instance Ex.drew (w w' : World) [h : Ex w w'] : Ex w w'.drew := ⟨below_drew1 h.below⟩
instance Ex.drewN (w w' : World) (n : Nat) [h : Ex w w'] : Ex w (w'.drewN n) := ⟨pw_below_drewN h.below n⟩
class Mg (g : Nat) (gs : List Nat) : Prop where
  mem : g ∈ gs
instance Mg.head (g : Nat) (gs : List Nat) : Mg g (g :: gs) := ⟨List.mem_cons_self⟩
instance Mg.tail (g h : Nat) (gs : List Nat) [m : Mg g gs] : Mg g (h :: gs) := ⟨List.mem_cons_of_mem _ m.mem⟩
/-- From w to w' new blocks, draws, and stores into the blocks gs. -/
class Es (gs : List Nat) (w w' : World) : Prop where
  bel : ∀ u : World, Below u.heap.size u w → (∀ g ∈ gs, u.heap.size ≤ g) → Below u.heap.size u w'
  far : ∀ k : Nat, k < w.heap.size → k ∉ gs → w'.heap[k]? = w.heap[k]?
  size : w.heap.size ≤ w'.heap.size
instance Es.refl (gs : List Nat) (w : World) : Es gs w w := ⟨fun _ h _ => h, fun _ _ _ => rfl, Nat.le_refl _⟩
instance Es.alloc (gs : List Nat) (w w' : World) (o : Obj) [h : Es gs w w'] : Es gs w (w'.alloc o) :=
  ⟨fun u hu hg => below_alloc (h.bel u hu hg) o, fun k hk hn => (Below.heap_alloc w' o k (Nat.lt_of_lt_of_le hk h.size)).trans (h.far k hk hn), Nat.le_trans h.size (Ex.alloc w' w' o).below.size⟩
instance Es.drew (gs : List Nat) (w w' : World) [h : Es gs w w'] : Es gs w w'.drew := ⟨fun u hu hg => below_drew1 (h.bel u hu hg), fun k hk hn => h.far k hk hn, h.size⟩
instance Es.drewN (gs : List Nat) (w w' : World) (n : Nat) [h : Es gs w w'] : Es gs w (w'.drewN n) := ⟨fun u hu hg => pw_below_drewN (h.bel u hu hg) n, fun k hk hn => h.far k hk hn, h.size⟩
instance Es.set (gs : List Nat) (w w' : World) (g j : Nat) (v : Value) [m : Mg g gs] [h : Es gs w w'] : Es gs w (w'.setCell ⟨g, j, none⟩ v) :=
  ⟨fun u hu hg => below_set (h.bel u hu hg) (hg g m.mem), fun k hk hn => (Below.heap_setCell w' ⟨g, j, none⟩ v k (fun e => hn (e ▸ m.mem))).trans (h.far k hk hn), by rw [World.setCell]; simpa using h.size⟩
theorem g0 {P : Nat → Prop} : ∀ g ∈ ([] : List Nat), P g := fun _ h => absurd h (by simp)
theorem ge {P : Nat → Prop} {g : Nat} {gs : List Nat} (h : P g) (hs : ∀ g ∈ gs, P g) : ∀ k ∈ g :: gs, P k := fun k hk => by
  rcases List.mem_cons.1 hk with rfl | hk
  · exact h
  · exact hs k hk
/-- What block g holds in w', where it held cs in w: stores into it are told, stores into the blocks gs are not its. -/
class Bs (gs : List Nat) (g t : Nat) (w w' : World) (cs : Array Value) (cs' : outParam (Array Value)) : Prop where
  holds : w.heap[g]? = some (.cells cs t (0, 0)) → (∀ k ∈ gs, g ≠ k) → w'.heap[g]? = some (.cells cs' t (0, 0))
instance Bs.refl (gs : List Nat) (g t : Nat) (w : World) (cs : Array Value) : Bs gs g t w w cs cs := ⟨fun h _ => h⟩
instance Bs.alloc (gs : List Nat) (g t : Nat) (w w' : World) (cs cs' : Array Value) (o : Obj) [b : Bs gs g t w w' cs cs'] : Bs gs g t w (w'.alloc o) cs cs' := ⟨fun h hn => blk_alloc (b.holds h hn) o⟩
instance Bs.drew (gs : List Nat) (g t : Nat) (w w' : World) (cs cs' : Array Value) [b : Bs gs g t w w' cs cs'] : Bs gs g t w w'.drew cs cs' := ⟨fun h hn => blk_drew (b.holds h hn)⟩
instance Bs.drewN (gs : List Nat) (g t : Nat) (w w' : World) (cs cs' : Array Value) (n : Nat) [b : Bs gs g t w w' cs cs'] : Bs gs g t w (w'.drewN n) cs cs' := ⟨fun h hn => blk_drewN (b.holds h hn) n⟩
instance Bs.far (gs : List Nat) (g t : Nat) (w w' : World) (cs cs' : Array Value) (k j : Nat) (v : Value) [m : Mg k gs] [b : Bs gs g t w w' cs cs'] : Bs gs g t w (w'.setCell ⟨k, j, none⟩ v) cs cs' := ⟨fun h hn => blk_far (b.holds h hn) (hn k m.mem) v⟩
instance Bs.same (gs : List Nat) (g t : Nat) (w w' : World) (cs cs' : Array Value) (j : Nat) (v : Value) [b : Bs gs g t w w' cs cs'] : Bs gs g t w (w'.setCell ⟨g, j, none⟩ v) cs (cs'.setIfInBounds j v) := ⟨fun h hn => blk_set (b.holds h hn) j v⟩
section
variable {w w' : World}
theorem xP {gs : List Nat} {g t : Nat} {cs c1 c2 : Array Value} (h : w.heap[g]? = some (.cells cs t (0, 0))) (hn : ∀ k ∈ gs, g ≠ k) [b : Bs gs g t w w' cs c1] (e : c1 = c2) : w'.heap[g]? = some (.cells c2 t (0, 0)) := e ▸ b.holds h hn
theorem xB {g : Nat} {o : Obj} (h : w.heap[g]? = some o) [x : Ex w w'] : w'.heap[g]? = some o := blk_below h x.below
theorem xF {g : Nat} {o : Obj} {gs : List Nat} (h : w.heap[g]? = some o) (hn : ∀ k ∈ gs, g ≠ k) [x : Es gs w w'] : w'.heap[g]? = some o := (x.far g (blk_lt h) (fun hm => hn g hm rfl)).trans h
theorem xR {α : Type} {d : Kd α} {e base : Nat} {ok : Nat → Prop} {v : Value} {xs : List α} (h : d.R e w base ok v xs) [x : Ex w w'] : d.R e w' base ok v xs := Kd.R_below h x.below
theorem xC {α : Type} {d : Kd α} {A : Option Addr} {n : Nat} {xs : List α} (h : d.C w A n xs) [x : Ex w w'] : d.C w' A n xs := Kd.C_below h x.below
theorem xW {u : World} (h : Below u.heap.size u w) [x : Ex w w'] : Below u.heap.size u w' := below_step h x.below
theorem xS {u : World} {gs : List Nat} (h : Below u.heap.size u w) (hg : ∀ g ∈ gs, u.heap.size ≤ g) [x : Es gs w w'] : Below u.heap.size u w' := x.bel u h hg
theorem xT {α : Type} {d : Kd α} {e base g t : Nat} {ok : Nat → Prop} {v : Value} {xs : List α} {cells : Array Value} (h : d.R e w base ok v xs) (hb : w.heap[g]? = some (.cells cells t (0, 0))) (ht : ∀ q, q ∈ e :: d.E → q ≠ t) [x : Es [g] w w'] : d.R e w' base ok v xs :=
  Kd.R_mono (Kd.R_step (Kd.R_types h hb ht) (fun k hk hlt => x.far k hlt (by simpa using hk.2))) (fun _ hk => hk.1)
end
section
variable {H : Type} {enc : TypeId × Value → H} {P : Program} {w : World} {S : DataW H → Prop} {B : Nat}
structure SizeOk (S : DataW H → Prop) (B : Nat) : Prop where
  slice : ∀ es rest, S (.slice es rest) → es.length ≤ B ∧ ∀ e ∈ es, S e
  agg : ∀ es, S (.agg es) → ∀ e ∈ es, S e
  str : ∀ l, S (.lit (.string l)) → l.length ≤ B
def Opens (enc : TypeId × Value → H) (P : Program) (w : World) (S : DataW H → Prop) {α : Type} (t : TypeId) (d : Kd α) (Wf : α → Prop) : Prop :=
  ∀ fuel cs x, DataW.trod enc P w 0 (fun _ => true) true fuel t cs = some x → S x.1 → ∃ y, d.K w y cs ∧ Wf y
theorem opens_int {t : TypeId} {k : IntKind} (ht : P.underlying t = some (.int k)) : Opens enc P w S t (Kd.int k) (fun n => (Lit.int k n).wf = true) := by
  intro fuel cs x h _
  obtain ⟨n, rfl, _, hw⟩ := DataW.trod_int ht h
  exact ⟨n, rfl, hw⟩
theorem opens_bool {t : TypeId} (ht : P.underlying t = some .bool) : Opens enc P w S t Kd.bool (fun _ => True) := by
  intro fuel cs x h _
  obtain ⟨n, rfl, _⟩ := DataW.trod_bool ht h
  exact ⟨n, rfl, trivial⟩
theorem opens_string (hs : SizeOk S B) {t : TypeId} (ht : P.underlying t = some .string) : Opens enc P w S t Kd.string (fun s => s.size ≤ B) := by
  intro fuel cs x h hx
  obtain ⟨s, rfl, rfl, _⟩ := DataW.trod_string ht h
  exact ⟨s, rfl, by have := hs.str _ hx; simpa using this⟩
theorem addr_add_add (a : Addr) (i j : Nat) : (a.add i).add j = a.add (i + j) := by
  rcases Nat.eq_zero_or_pos i with rfl | hi
  · simp [Addr.add]
  · have hi' : i ≠ 0 := by omega
    rcases Nat.eq_zero_or_pos j with rfl | hj
    · simp [Addr.add]
    · have hj' : j ≠ 0 := by omega
      have hij : i + j ≠ 0 := by omega
      simp [Addr.add, hi', hj', Nat.add_assoc]
theorem list_of {α : Type} {Q : Nat → α → Prop} : ∀ n : Nat, (∀ i, i < n → ∃ y, Q i y) → ∃ ys : List α, ys.length = n ∧ ∀ i y, ys[i]? = some y → Q i y
  | 0, _ => ⟨[], rfl, fun i y h => by simp at h⟩
  | n + 1, h => by
    obtain ⟨ys, hl, hq⟩ := list_of n (fun i hi => h i (by omega))
    obtain ⟨y, hy⟩ := h n (by omega)
    refine ⟨ys ++ [y], by simp [hl], fun i z hz => ?_⟩
    rcases Nat.lt_or_ge i n with hi | hi
    · rw [List.getElem?_append_left (by omega)] at hz
      exact hq i z hz
    · rw [List.getElem?_append_right (by omega)] at hz
      have : i - ys.length = 0 := by
        rcases Nat.eq_zero_or_pos (i - ys.length) with h0 | h0
        · exact h0
        · rw [List.getElem?_eq_none (by simp; omega)] at hz; cases hz
      rw [this] at hz
      obtain rfl : i = n := by omega
      simp at hz
      rw [← hz]; exact hy
theorem opens_slice (hs : SizeOk S B) {α : Type} {t e : TypeId} {d : Kd α} {Wf : α → Prop} (ht : P.underlying t = some (.slice e)) (hc : P.cellsOf e = d.sz) (ho : Opens enc P w S e d Wf) :
    Opens enc P w S t (Kd.slice e d) (fun xs => xs.length ≤ B ∧ ∀ x ∈ xs, Wf x) := by
  intro fuel cs x h hx
  rcases DataW.trod_slice ht h with ⟨rfl, rfl⟩ | ⟨a, len, cap, elems, rest, n, rfl, rfl, rfl, hb, hl, hm, he, hel, _, _⟩
  · exact ⟨[], ⟨none, 0, rfl, Nat.le_refl _, rfl, by simp, fun h => absurd h (by simp)⟩, by simp, by simp⟩
  · obtain ⟨hB, hS⟩ := hs.slice _ _ hx
    have he' : elems.length = len := he
    rw [hc] at hel
    obtain ⟨ys, hyl, hyq⟩ := list_of (Q := fun i y => ∃ c, w.cells? 0 (a.add (i * d.sz)) d.sz = some c ∧ d.K w y c ∧ Wf y) len (by
      intro i hi
      have h1 := hel i hi
      have h2 : elems[i]? = some elems[i] := List.getElem?_eq_getElem (by omega)
      rw [h2] at h1
      obtain ⟨c, hc1, hc2⟩ := Option.bind_eq_some_iff.1 h1
      obtain ⟨y, hy, hw⟩ := ho n c _ hc2 (hS _ (List.mem_map.2 ⟨elems[i], List.getElem_mem _, rfl⟩))
      exact ⟨y, c, hc1, hy, hw⟩)
    refine ⟨ys, ⟨some a, cap, by rw [hyl], by rw [hyl]; exact hl, rfl, ?_, fun _ => ⟨a, rfl, fun j p hp => ?_⟩⟩, ?_, ?_⟩
    · have : maxLen ≤ 9223372036854775807 := by decide
      omega
    · obtain ⟨c, hc1, hc2, _⟩ := hyq j p hp
      refine ⟨c, d.K_len hc2, hc2, fun i u hu => ?_⟩
      unfold World.cells? at hc1
      rw [if_pos (Nat.zero_le _)] at hc1
      have hi : i < d.sz := by rw [← d.K_len hc2]; exact (List.getElem?_eq_some_iff.1 hu).1
      have := mapM_some_get hc1 i i (by simp [hi])
      rw [hu] at this
      have e : (a.add (j * d.sz)).add i = a.add (j * d.sz + i) := addr_add_add _ _ _
      rw [← e]; exact this
    · rw [hyl]; simp at hB; omega
    · intro y hy
      obtain ⟨i, hi⟩ := List.mem_iff_getElem?.1 hy
      obtain ⟨c, _, _, hw⟩ := hyq i y hi
      exact hw
/-- The fields of a struct (the elements of an array), one behind the other. -/
def RowOk (enc : TypeId × Value → H) (P : Program) (w : World) (S : DataW H → Prop) (n : Nat) : List TypeId → List Value → Prop
  | [], cs => cs = []
  | t :: ts, cs => ∃ c0 c1 x, cs = c0 ++ c1 ∧ DataW.trod enc P w 0 (fun _ => true) true n t c0 = some x ∧ S x.1 ∧ RowOk enc P w S n ts c1
def OpensRow (enc : TypeId × Value → H) (P : Program) (w : World) (S : DataW H → Prop) {α : Type} (ts : List TypeId) (d : Kd α) (Wf : α → Prop) : Prop :=
  ∀ n cs, RowOk enc P w S n ts cs → ∃ y, d.K w y cs ∧ Wf y
theorem row_one {α : Type} {t : TypeId} {d : Kd α} {Wf : α → Prop} (h : Opens enc P w S t d Wf) : OpensRow enc P w S [t] d Wf := by
  rintro n cs ⟨c0, c1, x, rfl, h1, h2, rfl⟩
  rw [List.append_nil]
  exact h n c0 x h1 h2
theorem row_cons {α β : Type} {t : TypeId} {ts : List TypeId} {a : Kd α} {b : Kd β} {Wa : α → Prop} {Wb : β → Prop} (h : Opens enc P w S t a Wa) (hs : OpensRow enc P w S ts b Wb) : OpensRow enc P w S (t :: ts) (Kd.pair a b) (fun p => Wa p.1 ∧ Wb p.2) := by
  rintro n cs ⟨c0, c1, x, rfl, h1, h2, h3⟩
  obtain ⟨y, hy, wy⟩ := h n c0 x h1 h2
  obtain ⟨z, hz, wz⟩ := hs n c1 h3
  exact ⟨(y, z), ⟨c0, c1, rfl, hy, hz⟩, wy, wz⟩
def contig (P : Program) : List Field → Nat → Nat → Bool
  | [], o, m => o == m
  | f :: fs, o, m => f.offset == o && contig P fs (o + P.cellsOf f.type) m
theorem row_of_fields {n : Nat} {cs : List Value} : ∀ (fs : List Field) (xs : List (DataW H × List MemPlace)) (o : Nat), contig P fs o cs.length = true → xs.length = fs.length → (∀ x ∈ xs, S x.1) →
    (∀ (i : Nat) (f : Field), fs[i]? = some f → DataW.trod enc P w 0 (fun _ => true) true n f.type ((cs.drop f.offset).take (P.cellsOf f.type)) = xs[i]?) → RowOk enc P w S n (fs.map (·.type)) (cs.drop o)
  | [], xs, o, hc, _, _, _ => by
    simp [contig] at hc
    simp [RowOk, hc]
  | f :: fs, [], o, hc, hl, _, _ => by simp at hl
  | f :: fs, x :: xs, o, hc, hl, hS, hx => by
    simp only [contig, Bool.and_eq_true, beq_iff_eq] at hc
    obtain ⟨rfl, hc⟩ := hc
    have h0 := hx 0 f rfl
    refine ⟨(cs.drop f.offset).take (P.cellsOf f.type), cs.drop (f.offset + P.cellsOf f.type), x, ?_, h0, hS x (by simp), ?_⟩
    · rw [← List.drop_drop, List.take_append_drop]
    · exact row_of_fields fs xs _ hc (by simpa using hl) (fun y hy => hS y (by simp [hy])) (fun i g hg => hx (i + 1) g hg)
theorem opens_struct (hs : SizeOk S B) {α : Type} {t : TypeId} {fs : Array Field} {d : Kd α} {Wf : α → Prop} (ht : P.underlying t = some (.struct fs)) (hc : contig P fs.toList 0 (P.cellsOf t) = true)
    (h : OpensRow enc P w S (fs.toList.map (·.type)) d Wf) : Opens enc P w S t d Wf := by
  intro fuel cs x hx hSx
  obtain ⟨xs, n, rfl, rfl, hl, hn, hf⟩ := DataW.trod_struct ht hx
  refine h n cs ?_
  have := row_of_fields (enc := enc) (P := P) (w := w) (S := S) (n := n) (cs := cs) fs.toList xs 0 (by rw [hl]; exact hc) (by simpa using hn) (fun y hy => hs.agg _ hSx _ (List.mem_map.2 ⟨y, hy, rfl⟩)) (fun i f hfi => hf i f (by simpa using hfi))
  simpa using this
theorem opens_iso {α β : Type} {t : TypeId} {d : Kd α} {Wf : α → Prop} (f : β → α) (g : α → β) (hfg : ∀ x, f (g x) = x) (h : Opens enc P w S t d Wf) : Opens enc P w S t (Kd.iso d f) (fun y => Wf (f y)) := by
  intro fuel cs x hx hSx
  obtain ⟨y, hy, hw⟩ := h fuel cs x hx hSx
  exact ⟨g y, by show d.K w (f (g y)) cs; rw [hfg]; exact hy, by show Wf (f (g y)); rw [hfg]; exact hw⟩
theorem opens_imp {α : Type} {t : TypeId} {d : Kd α} {Wf Wg : α → Prop} (h : Opens enc P w S t d Wf) (hi : ∀ x, Wf x → Wg x) : Opens enc P w S t d Wg := by
  intro fuel cs x hx hSx
  obtain ⟨y, hy, hw⟩ := h fuel cs x hx hSx
  exact ⟨y, hy, hi y hw⟩
theorem row_of_array {m : Nat} {e : TypeId} {cs : List Value} : ∀ (j : Nat) (xs : List (DataW H × List MemPlace)) (o : Nat), cs.length = (o + j) * P.cellsOf e → xs.length = j → (∀ x ∈ xs, S x.1) →
    (∀ (i : Nat), i < j → DataW.trod enc P w 0 (fun _ => true) true m e ((cs.drop ((o + i) * P.cellsOf e)).take (P.cellsOf e)) = xs[i]?) → RowOk enc P w S m (List.replicate j e) (cs.drop (o * P.cellsOf e))
  | 0, xs, o, hc, _, _, _ => by
    simp at hc
    simp [RowOk, hc]
  | j + 1, [], o, hc, hl, _, _ => by simp at hl
  | j + 1, x :: xs, o, hc, hl, hS, hx => by
    have h0 := hx 0 (by omega)
    rw [List.replicate_succ]
    refine ⟨(cs.drop (o * P.cellsOf e)).take (P.cellsOf e), cs.drop ((o + 1) * P.cellsOf e), x, ?_, h0, hS x (by simp), ?_⟩
    · rw [Nat.add_mul, Nat.one_mul, ← List.drop_drop, List.take_append_drop]
    · exact row_of_array j xs (o + 1) (by rw [hc]; congr 1; omega) (by simpa using hl) (fun y hy => hS y (by simp [hy])) (fun i hi => by
        have := hx (i + 1) (by omega)
        rw [show o + 1 + i = o + (i + 1) from by omega]
        simpa using this)
theorem opens_array (hs : SizeOk S B) {α : Type} {t e : TypeId} {n : Nat} {d : Kd α} {Wf : α → Prop} (ht : P.underlying t = some (.array n e)) (hc : P.cellsOf t = n * P.cellsOf e)
    (h : OpensRow enc P w S (List.replicate n e) d Wf) : Opens enc P w S t d Wf := by
  intro fuel cs x hx hSx
  obtain ⟨xs, m, rfl, rfl, hl, hn, hf⟩ := DataW.trod_array ht hx
  refine h m cs ?_
  have := row_of_array (enc := enc) (P := P) (w := w) (S := S) (m := m) (e := e) (cs := cs) n xs 0 (by rw [hl, hc]; simp) hn (fun y hy => hs.agg _ hSx _ (List.mem_map.2 ⟨y, hy, rfl⟩)) (fun i hi => by simpa using hf i hi)
  simpa using this
theorem opens_arg {α : Type} {t : TypeId} {d : Kd α} {Wf : α → Prop} {v : Value} {x : DataW H} {ps : List MemPlace} (h : Opens enc P w S t d Wf) (ht : DataW.Trod enc P w 0 (fun _ => true) true t v x ps) (hS : S x) : ∃ y, d.K w y v.cells.toList ∧ Wf y := by
  obtain ⟨fuel, hf⟩ := ht
  exact h fuel _ _ hf hS
end
theorem bulkAll_mem {H : Type} {e : DataW H} : ∀ {es : List (DataW H)}, e ∈ es → Rows.uptoBulk e ≤ Rows.uptoBulkAll es
  | d :: r, h => by
    rw [Rows.uptoBulkAll]
    rcases List.mem_cons.1 h with rfl | h
    · omega
    · have := bulkAll_mem h; omega
theorem bulk_pos {H : Type} (d : DataW H) : 1 ≤ Rows.uptoBulk d := by
  cases d with
  | lit l => cases l <;> simp [Rows.uptoBulk]
  | _ => simp [Rows.uptoBulk]
theorem bulkAll_length {H : Type} : ∀ (es : List (DataW H)), es.length ≤ Rows.uptoBulkAll es
  | [] => by simp
  | d :: r => by
    rw [Rows.uptoBulkAll]
    have := bulkAll_length r
    have := bulk_pos d
    simp; omega
theorem sizeOk_bulk {H : Type} (B : Nat) : SizeOk (fun d : DataW H => Rows.uptoBulk d ≤ B) B where
  slice := by
    intro es rest h
    simp only [Rows.uptoBulk] at h
    have := bulkAll_length es
    exact ⟨by omega, fun e he => by have := bulkAll_mem he; omega⟩
  agg := by
    intro es h e he
    simp only [Rows.uptoBulk] at h
    have := bulkAll_mem he
    omega
  str := by
    intro l h
    simp only [Rows.uptoBulk] at h
    omega
theorem bulk_of_small {H : Type} {ds : List (DataW H)} {d : DataW H} (h : Rows.uptoSmall H ds = true) (hd : d ∈ ds) : Rows.uptoBulk d ≤ 1048576 := by
  have := of_decide_eq_true h
  have := bulkAll_mem hd
  omega
def codW (c : Int) : Value := if c = 1 then .iface 77 (.agg #[]) else if c = 2 then .iface 78 (.agg #[]) else if c = 3 then .iface 79 (.agg #[]) else if c = 4 then .iface 80 (.agg #[]) else .nilIface
def codNil (c : Int) : Bool := decide (c < 1) || decide (4 < c)
def page_coderOf.f (a0 : Int) : Option Int := some a0
theorem codW_1 {c : Int} (h : Aside0 (c = 1)) : codW c = .iface 77 (.agg #[]) := by rw [h.out]; rfl
theorem codW_2 {c : Int} (h : Aside0 (c = 2)) : codW c = .iface 78 (.agg #[]) := by rw [h.out]; rfl
theorem codW_3 {c : Int} (h : Aside0 (c = 3)) : codW c = .iface 79 (.agg #[]) := by rw [h.out]; rfl
theorem codW_4 {c : Int} (h : Aside0 (c = 4)) : codW c = .iface 80 (.agg #[]) := by rw [h.out]; rfl
theorem cod_eql (c : Int) (W : World) : (binOp .eql 58 (codW c) .nilIface).run Try.prog W = .ok (.bool (codNil c)) W := by
  have hu : Try.prog.underlying 58 = some (.interface (Try.prog.methodsAt 58)) := by kernel_rfl
  by_cases h1 : c = 1
  · subst h1; exact run_eql_held_nil W _ _ _ hu
  by_cases h2 : c = 2
  · subst h2; exact run_eql_held_nil W _ _ _ hu
  by_cases h3 : c = 3
  · subst h3; exact run_eql_held_nil W _ _ _ hu
  by_cases h4 : c = 4
  · subst h4; exact run_eql_held_nil W _ _ _ hu
  have e1 : codW c = .nilIface := by simp [codW, h1, h2, h3, h4]
  have e2 : codNil c = true := by simp [codNil]; omega
  rw [e1, e2]
  exact run_eql_nil_nil W _ hu
theorem cod_guard (t : TypeId) (x : Operand) (c : Int) (W : World) : (eqGuard .eql t x (.const .nilIface) (codW c) .nilIface).run Try.prog W = .ok () W := by
  by_cases h1 : c = 1
  · subst h1; rfl
  by_cases h2 : c = 2
  · subst h2; rfl
  by_cases h3 : c = 3
  · subst h3; rfl
  by_cases h4 : c = 4
  · subst h4; rfl
  have e1 : codW c = .nilIface := by simp [codW, h1, h2, h3, h4]
  rw [e1]
  simp [eqGuard]
set_option maxHeartbeats 1000000 in
set_option maxRecDepth 100000 in
theorem page_coderOf.calls (a0 : Int) (r : Int) (w : World) (h : page_coderOf.f a0 = some r) :
    Calls Try.prog 27 #[.int .i64 a0] w fun e w' => e = .returned (codW r) ∧ Drawn0 w w' := by
  have h' : a0 = r := Option.some.inj h
  subst h'
  clear h
  have HC := Aside0.mk (show codW a0 = if a0 = 1 then .iface 77 (.agg #[]) else if a0 = 2 then .iface 78 (.agg #[]) else if a0 = 3 then .iface 79 (.agg #[]) else if a0 = 4 then .iface 80 (.agg #[]) else .nilIface from rfl)
  by_cases h1 : a0 = 1
  · subst h1
    go_enter Try.func27, Try.ntmps27
    go_wp2
    go_ret
    exact ⟨by rw [HC.out]; rfl, Drawn0.refl _⟩
  by_cases h2 : a0 = 2
  · subst h2
    go_enter Try.func27, Try.ntmps27
    go_wp2
    go_ret
    exact ⟨by rw [HC.out]; rfl, Drawn0.refl _⟩
  by_cases h3 : a0 = 3
  · subst h3
    go_enter Try.func27, Try.ntmps27
    go_wp2
    go_ret
    exact ⟨by rw [HC.out]; rfl, Drawn0.refl _⟩
  by_cases h4 : a0 = 4
  · subst h4
    go_enter Try.func27, Try.ntmps27
    go_wp2
    go_ret
    exact ⟨by rw [HC.out]; rfl, Drawn0.refl _⟩
  have b1 : (a0 == 1) = false := beq_eq_false_iff_ne.2 h1
  have b2 : (a0 == 2) = false := beq_eq_false_iff_ne.2 h2
  have b3 : (a0 == 3) = false := beq_eq_false_iff_ne.2 h3
  have b4 : (a0 == 4) = false := beq_eq_false_iff_ne.2 h4
  have e1 : codW a0 = .nilIface := by rw [HC.out, if_neg h1, if_neg h2, if_neg h3, if_neg h4]
  have E1 := Aside0.mk e1
  clear e1 h1 h2 h3 h4 HC
  go_enter Try.func27, Try.ntmps27
  go_wp2
  go_ret
  exact ⟨by rw [E1.out]; rfl, Drawn0.refl _⟩
/-- A call through the interface 'coder', in a region. -/
theorem coder_enters {T : TypeId} {m : String} {f : FuncId} {fn : Func} (hf : Try.prog.funcs[f]? = some fn) (hname : (fn.name == "runtime.NumGoroutine") = false) (hb : fn.body.isSome = true)
    (hm : ∀ W : World, (method (Try.prog.types.size + Made.depth) T (.agg #[]) m).run Try.prog W = .ok (f, .agg #[]) W) {oi : Oper} {recv : Operand} {xs : Array Operand} {ts : Array TypeId} {a : Act} {w : World} {args : Array Value}
    (hop : oi.op = .call { callee := .invoke recv m, args := xs, argTypes := ts }) (hr : a.eval recv = .iface T (.agg #[])) (hargs : #[.agg #[]] ++ xs.map a.eval = args) :
    (execOp a.eval oi).run Try.prog w = .ok (.enter f args) w := by
  have he := enters_ hf hname hb args w
  subst hargs
  have h0 : (#[Value.iface T (.agg #[])] ++ xs.map a.eval)[0]? = some (.iface T (.agg #[])) := by
    rw [Array.getElem?_append_left (by simp)]
    rfl
  have h1 : (xs.map a.eval).extract 0 xs.size = xs.map a.eval := by
    have h2 : (xs.map a.eval).extract 0 (xs.map a.eval).size = xs.map a.eval := Array.extract_size
    rwa [Array.size_map] at h2
  unfold execOp
  simp only [hop, resolve, invoke, hr, callMethod, Sem.run_bind, Sem.run_pure, Result.andThen_ok, h0, List.extract_toArray, Array.map_map, run_program]
  have h3 : (#[Value.iface T (.agg #[])] ++ xs.map a.eval).extract 1 (#[Value.iface T (.agg #[])] ++ xs.map a.eval).size = xs.map a.eval := by
    apply Array.ext
    · simp
    · intro i h4 h5
      simp [Array.getElem_append]
  simp only [h3, hm, Result.andThen_ok, he]
def fenlandref01_Same.l0 : Nat → List Int → List Int → Int → Option (Bool)
 | 0, _, _, _ => none
 | k + 1, x0, x1, x5 => if x5 < (x0.length : Int) then (if 0 ≤ x5 then (if x5 < (x1.length : Int) then (if (rd x0 x5) = (rd x1 x5) then (fenlandref01_Same.l0 k x0 x1 (wrap64 (x5 + 1))) else (some false)) else (none)) else (none)) else (some true)
def fenlandref01_Same.f (k : Nat) (l0 : List Int) (l1 : List Int) : Option (Bool) := if (l0.length : Int) = (l1.length : Int) then (fenlandref01_Same.l0 k l0 l1 0) else (some false)
theorem fenlandref01_Same.mono_l : ∀ k, (∀ y0 y1 y2, LeO (fenlandref01_Same.l0 k y0 y1 y2) (fenlandref01_Same.l0 (k + 1) y0 y1 y2))
 | 0 => fun _ _ _ r h => by simp [fenlandref01_Same.l0] at h
 | k + 1 => by
  have ih0 := fenlandref01_Same.mono_l k
  ·intro y0 y1 y2
   unfold fenlandref01_Same.l0
   repeat' first
   | (with_reducible exact ih0 _ _ _)
   | (with_reducible exact LeO.refl _)
   | (with_reducible exact LeO.none _)
   | (with_reducible refine LeO.ite ?_ ?_)
   | (with_reducible refine LeO.bind ?_ (fun _ => ?_))
   | exact ih0 _ _ _
   | exact LeO.none _
   | refine LeO.ite ?_ ?_
   | refine LeO.bind ?_ (fun _ => ?_)
theorem fenlandref01_Same.mono : ∀ a0 a1 k, LeO (fenlandref01_Same.f k a0 a1) (fenlandref01_Same.f (k + 1) a0 a1) := by
 intro a0 a1 k
 have ih0 := fenlandref01_Same.mono_l k
 unfold fenlandref01_Same.f
 repeat' first
   | (with_reducible exact ih0 _ _ _)
   | (with_reducible exact LeO.refl _)
   | (with_reducible exact LeO.none _)
   | (with_reducible refine LeO.ite ?_ ?_)
   | (with_reducible refine LeO.bind ?_ (fun _ => ?_))
   | exact ih0 _ _ _
   | exact LeO.none _
   | refine LeO.ite ?_ ?_
   | refine LeO.bind ?_ (fun _ => ?_)
set_option maxHeartbeats 8000000 in
set_option maxRecDepth 100000 in
theorem fenlandref01_Same.calls (k : Nat) (A0 : Option Addr) (c0 : Nat) (l0 : List Int) (A1 : Option Addr) (c1 : Nat) (l1 : List Int) (r : Bool) (w : World) (hr0 : Kd.C (Kd.int .u8) w A0 l0.length l0) (hc0 : l0.length ≤ c0) (hr1 : Kd.C (Kd.int .u8) w A1 l1.length l1) (hc1 : l1.length ≤ c1) (h : fenlandref01_Same.f k l0 l1 = some r) :
  Calls Try.prog 11 #[.slice A0 l0.length c0, .slice A1 l1.length c1] w fun e w' => e = .returned (.bool r) ∧ Drawn0 w w' := by
 have HR0 := Aside0.mk hr0
 have HC0 := Aside0.mk hc0
 clear hr0 hc0
 have HR1 := Aside0.mk hr1
 have HC1 := Aside0.mk hc1
 clear hr1 hc1
 have H : (if (l0.length : Int) = (l1.length : Int) then (fenlandref01_Same.l0 k l0 l1 0) else (some false)) = some r := h
 clear h
 by_cases c3 : (l0.length : Int) = (l1.length : Int)
 ·rw [if_pos c3] at H
  have c3b0 : ((l0.length : Int) == (l1.length : Int)) = true := beq_iff_eq.mpr c3
  have c3b1 : ((l0.length : Int) != (l1.length : Int)) = false := bne_eq_false_iff_eq.mpr c3
  have c3b2 : (l0.length == l1.length) = true := by first | simpa using c3 | (simp at c3 ⊢; omega)
  clear c3
  have H' := Aside0.mk H
  clear H
  go_enter Try.func11, Try.ntmps11
  go_wp2
  repeat (go_quiet (fail); try go_wp2)
  go_loopg [5] k (fun kq v5 w' => ∃ (x5_1 : Int), v5 = .int .i64 x5_1 ∧ Aside0 (fenlandref01_Same.l0 kq l0 l1 x5_1 = some r) ∧ Aside0 (kq ≤ k) ∧ Drawn0 w w')
  case atStart => exact ⟨(0), (by first | rfl | (simp; done) | (simp [*]; done)), H', ⟨Nat.le_refl _⟩, by repeat (first | exact Drawn0.refl _ | apply Drawn0.step)⟩
  case round =>
   clear H'
   try clear c1
   try clear p2
   try clear c3
   try clear c3b0
   try clear c3b1
   try clear c3b2
   obtain ⟨x5_1, rfl, HA, HK1, ⟨m1, rfl⟩⟩ := hrel
   cases gk with
   | zero => exact absurd HA.out (by simp [fenlandref01_Same.l0])
   | succ k1 =>
    have H := HA.out
    clear HA
    simp only [fenlandref01_Same.l0] at H
    by_cases c4 : x5_1 < (l0.length : Int)
    rotate_left
    ·rw [if_neg c4] at H
     have c4b0 : decide (x5_1 < (l0.length : Int)) = false := decide_eq_false c4
     clear c4
     obtain rfl := Option.some.inj H
     go_wp2
     repeat (go_quiet (fail); try go_wp2)
     go_ret
     exact ⟨by first | rfl | (simp; done) | (simp [*]; done), by repeat (first | exact Drawn0.refl _ | apply Drawn0.step)⟩
    rw [if_pos c4] at H
    have c4b0 : decide (x5_1 < (l0.length : Int)) = true := decide_eq_true c4
    clear c4
    by_cases c5 : 0 ≤ x5_1
    rotate_left
    ·rw [if_neg c5] at H
     exact absurd H (by simp)
    rw [if_pos c5] at H
    have c5b0 : decide (0 ≤ x5_1) = true := decide_eq_true c5
    clear c5
    by_cases c6 : x5_1 < (l1.length : Int)
    rotate_left
    ·rw [if_neg c6] at H
     exact absurd H (by simp)
    rw [if_pos c6] at H
    have c6b0 : decide (x5_1 < (l1.length : Int)) = true := decide_eq_true c6
    clear c6
    by_cases c7 : (rd l0 x5_1) = (rd l1 x5_1)
    ·rw [if_pos c7] at H
     have c7b0 : ((rd l0 x5_1) == (rd l1 x5_1)) = true := beq_iff_eq.mpr c7
     have c7b1 : ((rd l0 x5_1) != (rd l1 x5_1)) = false := bne_eq_false_iff_eq.mpr c7
     clear c7
     have H' := Aside0.mk H
     clear H
     have p101 : 0 ≤ (x5_1 : Int) := of_decide_eq_true (by first | (with_reducible assumption) | assumption)
     have q101 : x5_1 < (l0.length : Int) := of_decide_eq_true (by first | (with_reducible assumption) | assumption)
     obtain ⟨ad101, e101, hx101_0⟩ := Kd.at_int HR0.out x5_1 p101 q101
     cases e101
     replace p101 := eq_true p101
     replace q101 := eq_true q101
     have p102 : 0 ≤ (x5_1 : Int) := of_decide_eq_true (by first | (with_reducible assumption) | assumption)
     have q102 : x5_1 < (l1.length : Int) := of_decide_eq_true (by first | (with_reducible assumption) | assumption)
     obtain ⟨ad102, e102, hx102_0⟩ := Kd.at_int HR1.out x5_1 p102 q102
     cases e102
     replace p102 := eq_true p102
     replace q102 := eq_true q102
     go_wp2
     repeat (go_quiet (fail); try go_wp2)
     go_roundg k1
     case measure => have := HK1.out; omega
     case rel => exact ⟨(wrap64 (x5_1 + 1)), (by first | rfl | (simp; done) | (simp [*]; done)), H', ⟨by have := HK1.out; omega⟩, by repeat (first | exact Drawn0.refl _ | apply Drawn0.step)⟩
    ·rw [if_neg c7] at H
     have c7b0 : ((rd l0 x5_1) == (rd l1 x5_1)) = false := beq_eq_false_iff_ne.mpr c7
     have c7b1 : ((rd l0 x5_1) != (rd l1 x5_1)) = true := bne_iff_ne.mpr c7
     obtain rfl := Option.some.inj H
     have p101 : 0 ≤ (x5_1 : Int) := of_decide_eq_true (by first | (with_reducible assumption) | assumption)
     have q101 : x5_1 < (l0.length : Int) := of_decide_eq_true (by first | (with_reducible assumption) | assumption)
     obtain ⟨ad101, e101, hx101_0⟩ := Kd.at_int HR0.out x5_1 p101 q101
     cases e101
     replace p101 := eq_true p101
     replace q101 := eq_true q101
     have p102 : 0 ≤ (x5_1 : Int) := of_decide_eq_true (by first | (with_reducible assumption) | assumption)
     have q102 : x5_1 < (l1.length : Int) := of_decide_eq_true (by first | (with_reducible assumption) | assumption)
     obtain ⟨ad102, e102, hx102_0⟩ := Kd.at_int HR1.out x5_1 p102 q102
     cases e102
     replace p102 := eq_true p102
     replace q102 := eq_true q102
     go_wp2
     repeat (go_quiet (fail); try go_wp2)
     go_ret
     exact ⟨by first | rfl | (simp; done) | (simp [*]; done), by repeat (first | exact Drawn0.refl _ | apply Drawn0.step)⟩
 ·rw [if_neg c3] at H
  have c3b0 : ((l0.length : Int) == (l1.length : Int)) = false := beq_eq_false_iff_ne.mpr c3
  have c3b1 : ((l0.length : Int) != (l1.length : Int)) = true := bne_iff_ne.mpr c3
  have c3b2 : (l0.length == l1.length) = false := by first | simpa using c3 | (simp at c3 ⊢; omega)
  obtain rfl := Option.some.inj H
  go_enter Try.func11, Try.ntmps11
  go_wp2
  repeat (go_quiet (fail); try go_wp2)
  go_ret
  exact ⟨by first | rfl | (simp; done) | (simp [*]; done), by repeat (first | exact Drawn0.refl _ | apply Drawn0.step)⟩
def fenlandref10_Same.f (k : Nat) (a0_0 : Int) (a0_1 : Int) (l0_2 : List Int) (a1_0 : Int) (a1_1 : Int) (l1_2 : List Int) : Option (Bool) := if a0_0 = a1_0 then (if a0_1 = a1_1 then ((fenlandref01_Same.f k l0_2 l1_2).bind fun t103 => (some t103)) else (some false)) else (some false)
theorem fenlandref10_Same.mono : ∀ a0 a1 a2 a3 a4 a5 k, LeO (fenlandref10_Same.f k a0 a1 a2 a3 a4 a5) (fenlandref10_Same.f (k + 1) a0 a1 a2 a3 a4 a5) := by
 intro a0 a1 a2 a3 a4 a5 k
 unfold fenlandref10_Same.f
 repeat' first
   | (with_reducible exact fenlandref01_Same.mono _ _ _)
   | (with_reducible exact LeO.refl _)
   | (with_reducible exact LeO.none _)
   | (with_reducible refine LeO.ite ?_ ?_)
   | (with_reducible refine LeO.bind ?_ (fun _ => ?_))
   | exact fenlandref01_Same.mono _ _ _
   | exact LeO.none _
   | refine LeO.ite ?_ ?_
   | refine LeO.bind ?_ (fun _ => ?_)
set_option maxHeartbeats 8000000 in
set_option maxRecDepth 100000 in
theorem fenlandref10_Same.calls (k : Nat) (a0_0 : Int) (a0_1 : Int) (A0_2 : Option Addr) (c0_2 : Nat) (l0_2 : List Int) (a1_0 : Int) (a1_1 : Int) (A1_2 : Option Addr) (c1_2 : Nat) (l1_2 : List Int) (r : Bool) (w : World) (hr0_2 : Kd.C (Kd.int .u8) w A0_2 l0_2.length l0_2) (hc0_2 : l0_2.length ≤ c0_2) (hr1_2 : Kd.C (Kd.int .u8) w A1_2 l1_2.length l1_2) (hc1_2 : l1_2.length ≤ c1_2) (h : fenlandref10_Same.f k a0_0 a0_1 l0_2 a1_0 a1_1 l1_2 = some r) :
  Calls Try.prog 15 #[.agg #[.int .i64 a0_0, .int .i64 a0_1, .slice A0_2 l0_2.length c0_2], .agg #[.int .i64 a1_0, .int .i64 a1_1, .slice A1_2 l1_2.length c1_2]] w fun e w' => e = .returned (.bool r) ∧ Below w.heap.size w w' := by
 have hu34 := Try.underlying34
 have HR0_2 := Aside0.mk hr0_2
 have HC0_2 := Aside0.mk hc0_2
 clear hr0_2 hc0_2
 have HR1_2 := Aside0.mk hr1_2
 have HC1_2 := Aside0.mk hc1_2
 clear hr1_2 hc1_2
 have HB := Aside0.mk (Below.refl w.heap.size w)
 have H : (if a0_0 = a1_0 then (if a0_1 = a1_1 then ((fenlandref01_Same.f k l0_2 l1_2).bind fun t103 => (some t103)) else (some false)) else (some false)) = some r := h
 clear h
 by_cases c3 : a0_0 = a1_0
 rotate_left
 ·rw [if_neg c3] at H
  have c3b0 : (a0_0 == a1_0) = false := beq_eq_false_iff_ne.mpr c3
  have c3b1 : (a0_0 != a1_0) = true := bne_iff_ne.mpr c3
  obtain rfl := Option.some.inj H
  go_enter Try.func15, Try.ntmps15
  go_wp2_with (first | ((with_reducible refine gate_dst (N := 2) rfl ?_); refine box_event ?hg (N := 2) ?hd (cs := #[.int .i64 a0_0, .int .i64 a0_1, .slice A0_2 l0_2.length c0_2]) (t := 34) ?hr ?_; (case hd => rfl); (case hg => rfl); (case hr => first | (go_simp; done) | (go_simp; rfl)); intro gb101 hg w16 hbox hb; have n0_ := Aside0.mk (below_step (xW HB.out) hb); have n1_ := Aside0.mk (hbox); have n3_ := Aside0.mk ((by rw [hg]; exact (below_size (xW HB.out)) : w.heap.size ≤ gb101)); clear HB; revert n0_ n1_ n3_; intro HB BK101 GE101; clear hb hbox hg) | ((with_reducible refine gate_dst (N := 3) rfl ?_); refine box_event ?hg (N := 3) ?hd (cs := #[.int .i64 a1_0, .int .i64 a1_1, .slice A1_2 l1_2.length c1_2]) (t := 34) ?hr ?_; (case hd => rfl); (case hg => rfl); (case hr => first | (go_simp; done) | (go_simp; rfl)); intro gb102 hg w17 hbox hb; have n0_ := Aside0.mk (blk_below (xB BK101.out) hb); have n1_ := Aside0.mk (below_step (xS HB.out (ge GE101.out g0)) hb); have n2_ := Aside0.mk (hbox); have n4_ := Aside0.mk ((by rw [hg]; exact (below_size (xS HB.out (ge GE101.out g0))) : w.heap.size ≤ gb102)); have n5_ := Aside0.mk ((by rw [hg]; exact Nat.ne_of_lt (blk_lt (xB BK101.out)) : gb101 ≠ gb102)); have n6_ := Aside0.mk ((by rw [hg]; exact Nat.ne_of_gt (blk_lt (xB BK101.out)) : gb102 ≠ gb101)); clear BK101 HB; revert n0_ n1_ n2_ n4_ n5_ n6_; intro BK101 HB BK102 GE102 NB101_102 NB102_101; clear hb hbox hg; have hnb18 := NB101_102.out; have hnc18 := NB102_101.out; have hcz19_0 : w17.cell? ⟨gb101, 0, none⟩ = some (.int .i64 a0_0) := (blk_cell BK101.out 0).trans rfl; have hcz19_1 : w17.cell? ⟨gb101, 1, none⟩ = some (.int .i64 a0_1) := (blk_cell BK101.out 1).trans rfl; have hcz19_2 : w17.cell? ⟨gb101, 2, none⟩ = some (.slice A0_2 l0_2.length c0_2) := (blk_cell BK101.out 2).trans rfl; have hfz19_0 := blk_frozen BK101.out 0; have hfz19_1 := blk_frozen BK101.out 1; have hfz19_2 := blk_frozen BK101.out 2; have hcz20_0 : w17.cell? ⟨gb102, 0, none⟩ = some (.int .i64 a1_0) := (blk_cell BK102.out 0).trans rfl; have hcz20_1 : w17.cell? ⟨gb102, 1, none⟩ = some (.int .i64 a1_1) := (blk_cell BK102.out 1).trans rfl; have hcz20_2 : w17.cell? ⟨gb102, 2, none⟩ = some (.slice A1_2 l1_2.length c1_2) := (blk_cell BK102.out 2).trans rfl; have hfz20_0 := blk_frozen BK102.out 0; have hfz20_1 := blk_frozen BK102.out 1; have hfz20_2 := blk_frozen BK102.out 2))
  go_ret
  exact ⟨by first | rfl | simp [*], by repeat (first | (with_reducible first | exact HB.out | apply below_alloc | apply pw_below_drewN | apply below_drew1 | refine below_set ?_ GE101.out | refine below_set ?_ GE102.out) | exact HB.out)⟩
 rw [if_pos c3] at H
 have c3b0 : (a0_0 == a1_0) = true := beq_iff_eq.mpr c3
 have c3b1 : (a0_0 != a1_0) = false := bne_eq_false_iff_eq.mpr c3
 clear c3
 by_cases c4 : a0_1 = a1_1
 rotate_left
 ·rw [if_neg c4] at H
  have c4b0 : (a0_1 == a1_1) = false := beq_eq_false_iff_ne.mpr c4
  have c4b1 : (a0_1 != a1_1) = true := bne_iff_ne.mpr c4
  obtain rfl := Option.some.inj H
  go_enter Try.func15, Try.ntmps15
  go_wp2_with (first | ((with_reducible refine gate_dst (N := 2) rfl ?_); refine box_event ?hg (N := 2) ?hd (cs := #[.int .i64 a0_0, .int .i64 a0_1, .slice A0_2 l0_2.length c0_2]) (t := 34) ?hr ?_; (case hd => rfl); (case hg => rfl); (case hr => first | (go_simp; done) | (go_simp; rfl)); intro gb101 hg w11 hbox hb; have n0_ := Aside0.mk (below_step (xW HB.out) hb); have n1_ := Aside0.mk (hbox); have n3_ := Aside0.mk ((by rw [hg]; exact (below_size (xW HB.out)) : w.heap.size ≤ gb101)); clear HB; revert n0_ n1_ n3_; intro HB BK101 GE101; clear hb hbox hg) | ((with_reducible refine gate_dst (N := 3) rfl ?_); refine box_event ?hg (N := 3) ?hd (cs := #[.int .i64 a1_0, .int .i64 a1_1, .slice A1_2 l1_2.length c1_2]) (t := 34) ?hr ?_; (case hd => rfl); (case hg => rfl); (case hr => first | (go_simp; done) | (go_simp; rfl)); intro gb102 hg w12 hbox hb; have n0_ := Aside0.mk (blk_below (xB BK101.out) hb); have n1_ := Aside0.mk (below_step (xS HB.out (ge GE101.out g0)) hb); have n2_ := Aside0.mk (hbox); have n4_ := Aside0.mk ((by rw [hg]; exact (below_size (xS HB.out (ge GE101.out g0))) : w.heap.size ≤ gb102)); have n5_ := Aside0.mk ((by rw [hg]; exact Nat.ne_of_lt (blk_lt (xB BK101.out)) : gb101 ≠ gb102)); have n6_ := Aside0.mk ((by rw [hg]; exact Nat.ne_of_gt (blk_lt (xB BK101.out)) : gb102 ≠ gb101)); clear BK101 HB; revert n0_ n1_ n2_ n4_ n5_ n6_; intro BK101 HB BK102 GE102 NB101_102 NB102_101; clear hb hbox hg; have hnb13 := NB101_102.out; have hnc13 := NB102_101.out; have hcz14_0 : w12.cell? ⟨gb101, 0, none⟩ = some (.int .i64 a0_0) := (blk_cell BK101.out 0).trans rfl; have hcz14_1 : w12.cell? ⟨gb101, 1, none⟩ = some (.int .i64 a0_1) := (blk_cell BK101.out 1).trans rfl; have hcz14_2 : w12.cell? ⟨gb101, 2, none⟩ = some (.slice A0_2 l0_2.length c0_2) := (blk_cell BK101.out 2).trans rfl; have hfz14_0 := blk_frozen BK101.out 0; have hfz14_1 := blk_frozen BK101.out 1; have hfz14_2 := blk_frozen BK101.out 2; have hcz15_0 : w12.cell? ⟨gb102, 0, none⟩ = some (.int .i64 a1_0) := (blk_cell BK102.out 0).trans rfl; have hcz15_1 : w12.cell? ⟨gb102, 1, none⟩ = some (.int .i64 a1_1) := (blk_cell BK102.out 1).trans rfl; have hcz15_2 : w12.cell? ⟨gb102, 2, none⟩ = some (.slice A1_2 l1_2.length c1_2) := (blk_cell BK102.out 2).trans rfl; have hfz15_0 := blk_frozen BK102.out 0; have hfz15_1 := blk_frozen BK102.out 1; have hfz15_2 := blk_frozen BK102.out 2))
  go_ret
  exact ⟨by first | rfl | simp [*], by repeat (first | (with_reducible first | exact HB.out | apply below_alloc | apply pw_below_drewN | apply below_drew1 | refine below_set ?_ GE101.out | refine below_set ?_ GE102.out) | exact HB.out)⟩
 rw [if_pos c4] at H
 have c4b0 : (a0_1 == a1_1) = true := beq_iff_eq.mpr c4
 have c4b1 : (a0_1 != a1_1) = false := bne_eq_false_iff_eq.mpr c4
 clear c4
 replace H := Option.bind_eq_some_iff.mp H
 obtain ⟨t103, A50, H⟩ := H
 replace H : (some t103) = some r := H
 have A5 := Aside0.mk A50
 clear A50
 obtain rfl := Option.some.inj H
 go_enter Try.func15, Try.ntmps15
 go_wp2_with (first | ((with_reducible refine gate_dst (N := 2) rfl ?_); refine box_event ?hg (N := 2) ?hd (cs := #[.int .i64 a0_0, .int .i64 a0_1, .slice A0_2 l0_2.length c0_2]) (t := 34) ?hr ?_; (case hd => rfl); (case hg => rfl); (case hr => first | (go_simp; done) | (go_simp; rfl)); intro gb101 hg w6 hbox hb; have n0_ := Aside0.mk (below_step (xW HB.out) hb); have n1_ := Aside0.mk (hbox); have n3_ := Aside0.mk ((by rw [hg]; exact (below_size (xW HB.out)) : w.heap.size ≤ gb101)); clear HB; revert n0_ n1_ n3_; intro HB BK101 GE101; clear hb hbox hg) | ((with_reducible refine gate_dst (N := 3) rfl ?_); refine box_event ?hg (N := 3) ?hd (cs := #[.int .i64 a1_0, .int .i64 a1_1, .slice A1_2 l1_2.length c1_2]) (t := 34) ?hr ?_; (case hd => rfl); (case hg => rfl); (case hr => first | (go_simp; done) | (go_simp; rfl)); intro gb102 hg w7 hbox hb; have n0_ := Aside0.mk (blk_below (xB BK101.out) hb); have n1_ := Aside0.mk (below_step (xS HB.out (ge GE101.out g0)) hb); have n2_ := Aside0.mk (hbox); have n4_ := Aside0.mk ((by rw [hg]; exact (below_size (xS HB.out (ge GE101.out g0))) : w.heap.size ≤ gb102)); have n5_ := Aside0.mk ((by rw [hg]; exact Nat.ne_of_lt (blk_lt (xB BK101.out)) : gb101 ≠ gb102)); have n6_ := Aside0.mk ((by rw [hg]; exact Nat.ne_of_gt (blk_lt (xB BK101.out)) : gb102 ≠ gb101)); clear BK101 HB; revert n0_ n1_ n2_ n4_ n5_ n6_; intro BK101 HB BK102 GE102 NB101_102 NB102_101; clear hb hbox hg; have hnb8 := NB101_102.out; have hnc8 := NB102_101.out; have hcz9_0 : w7.cell? ⟨gb101, 0, none⟩ = some (.int .i64 a0_0) := (blk_cell BK101.out 0).trans rfl; have hcz9_1 : w7.cell? ⟨gb101, 1, none⟩ = some (.int .i64 a0_1) := (blk_cell BK101.out 1).trans rfl; have hcz9_2 : w7.cell? ⟨gb101, 2, none⟩ = some (.slice A0_2 l0_2.length c0_2) := (blk_cell BK101.out 2).trans rfl; have hfz9_0 := blk_frozen BK101.out 0; have hfz9_1 := blk_frozen BK101.out 1; have hfz9_2 := blk_frozen BK101.out 2; have hcz10_0 : w7.cell? ⟨gb102, 0, none⟩ = some (.int .i64 a1_0) := (blk_cell BK102.out 0).trans rfl; have hcz10_1 : w7.cell? ⟨gb102, 1, none⟩ = some (.int .i64 a1_1) := (blk_cell BK102.out 1).trans rfl; have hcz10_2 : w7.cell? ⟨gb102, 2, none⟩ = some (.slice A1_2 l1_2.length c1_2) := (blk_cell BK102.out 2).trans rfl; have hfz10_0 := blk_frozen BK102.out 0; have hfz10_1 := blk_frozen BK102.out 1; have hfz10_2 := blk_frozen BK102.out 2) | (go_at_call 11; (with_reducible refine (fenlandref01_Same.calls k _ _ l0_2 _ _ l1_2 t103 _ ?side1 ?side2 ?side3 ?side4 A5.out).mono ?_); (case side1 => exact xC (Kd.C_below HR0_2.out HB.out)); (case side2 => exact HC0_2.out); (case side3 => exact xC (Kd.C_below HR1_2.out HB.out)); (case side4 => exact HC1_2.out); rintro e w' ⟨rfl, ⟨nd, rfl⟩⟩))
 go_ret
 exact ⟨by first | rfl | simp [*], by repeat (first | (with_reducible first | exact HB.out | apply below_alloc | apply pw_below_drewN | apply below_drew1 | refine below_set ?_ GE101.out | refine below_set ?_ GE102.out) | exact HB.out)⟩
def fenlandlaw10_equal.f (k : Nat) (a0_0 : Int) (a0_1 : Int) (l0_2 : List Int) (a1_0 : Int) (a1_1 : Int) (l2 : List Int) : Option (Bool) := (fenlandref10_Same.f k a0_0 a0_1 l0_2 a1_0 a1_1 l2).bind fun t103 => (some t103)
theorem fenlandlaw10_equal.mono : ∀ a0 a1 a2 a3 a4 a5 k, LeO (fenlandlaw10_equal.f k a0 a1 a2 a3 a4 a5) (fenlandlaw10_equal.f (k + 1) a0 a1 a2 a3 a4 a5) := by
 intro a0 a1 a2 a3 a4 a5 k
 unfold fenlandlaw10_equal.f
 repeat' first
   | (with_reducible exact fenlandref10_Same.mono _ _ _ _ _ _ _)
   | (with_reducible exact LeO.refl _)
   | (with_reducible exact LeO.none _)
   | (with_reducible refine LeO.ite ?_ ?_)
   | (with_reducible refine LeO.bind ?_ (fun _ => ?_))
   | exact fenlandref10_Same.mono _ _ _ _ _ _ _
   | exact LeO.none _
   | refine LeO.ite ?_ ?_
   | refine LeO.bind ?_ (fun _ => ?_)
set_option maxHeartbeats 8000000 in
set_option maxRecDepth 100000 in
theorem fenlandlaw10_equal.calls (k : Nat) (a0_0 : Int) (a0_1 : Int) (A0_2 : Option Addr) (c0_2 : Nat) (l0_2 : List Int) (a1_0 : Int) (a1_1 : Int) (A2 : Option Addr) (c2 : Nat) (l2 : List Int) (r : Bool) (w : World) (hr0_2 : Kd.C (Kd.int .u8) w A0_2 l0_2.length l0_2) (hc0_2 : l0_2.length ≤ c0_2) (hr2 : Kd.C (Kd.int .u8) w A2 l2.length l2) (hc2 : l2.length ≤ c2) (h : fenlandlaw10_equal.f k a0_0 a0_1 l0_2 a1_0 a1_1 l2 = some r) :
  Calls Try.prog 20 #[.agg #[.int .i64 a0_0, .int .i64 a0_1, .slice A0_2 l0_2.length c0_2], .agg #[.int .i64 a1_0, .int .i64 a1_1], .slice A2 l2.length c2] w fun e w' => e = .returned (.bool r) ∧ Below w.heap.size w w' := by
 have hu34 := Try.underlying34
 have hu51 := Try.underlying51
 have HR0_2 := Aside0.mk hr0_2
 have HC0_2 := Aside0.mk hc0_2
 clear hr0_2 hc0_2
 have HR2 := Aside0.mk hr2
 have HC2 := Aside0.mk hc2
 clear hr2 hc2
 have HB := Aside0.mk (Below.refl w.heap.size w)
 have H : ((fenlandref10_Same.f k a0_0 a0_1 l0_2 a1_0 a1_1 l2).bind fun t103 => (some t103)) = some r := h
 clear h
 replace H := Option.bind_eq_some_iff.mp H
 obtain ⟨t103, A40, H⟩ := H
 replace H : (some t103) = some r := H
 have A4 := Aside0.mk A40
 clear A40
 obtain rfl := Option.some.inj H
 go_enter Try.func20, Try.ntmps20
 go_wp2_with (first | ((with_reducible refine gate_dst (N := 3) rfl ?_); refine box_event ?hg (N := 3) ?hd (cs := #[.int .i64 a0_0, .int .i64 a0_1, .slice A0_2 l0_2.length c0_2]) (t := 34) ?hr ?_; (case hd => rfl); (case hg => rfl); (case hr => first | (go_simp; done) | (go_simp; rfl)); intro gb101 hg w5 hbox hb; have n0_ := Aside0.mk (below_step (xW HB.out) hb); have n1_ := Aside0.mk (hbox); have n3_ := Aside0.mk ((by rw [hg]; exact (below_size (xW HB.out)) : w.heap.size ≤ gb101)); clear HB; revert n0_ n1_ n3_; intro HB BK101 GE101; clear hb hbox hg) | ((with_reducible refine gate_dst (N := 4) rfl ?_); refine box_event ?hg (N := 4) ?hd (cs := #[.int .i64 a1_0, .int .i64 a1_1]) (t := 51) ?hr ?_; (case hd => rfl); (case hg => rfl); (case hr => first | (go_simp; done) | (go_simp; rfl)); intro gb102 hg w6 hbox hb; have n0_ := Aside0.mk (blk_below (xB BK101.out) hb); have n1_ := Aside0.mk (below_step (xS HB.out (ge GE101.out g0)) hb); have n2_ := Aside0.mk (hbox); have n4_ := Aside0.mk ((by rw [hg]; exact (below_size (xS HB.out (ge GE101.out g0))) : w.heap.size ≤ gb102)); have n5_ := Aside0.mk ((by rw [hg]; exact Nat.ne_of_lt (blk_lt (xB BK101.out)) : gb101 ≠ gb102)); have n6_ := Aside0.mk ((by rw [hg]; exact Nat.ne_of_gt (blk_lt (xB BK101.out)) : gb102 ≠ gb101)); clear BK101 HB; revert n0_ n1_ n2_ n4_ n5_ n6_; intro BK101 HB BK102 GE102 NB101_102 NB102_101; clear hb hbox hg; have hnb7 := NB101_102.out; have hnc7 := NB102_101.out; have hcz8_0 : w6.cell? ⟨gb101, 0, none⟩ = some (.int .i64 a0_0) := (blk_cell BK101.out 0).trans rfl; have hcz8_1 : w6.cell? ⟨gb101, 1, none⟩ = some (.int .i64 a0_1) := (blk_cell BK101.out 1).trans rfl; have hcz8_2 : w6.cell? ⟨gb101, 2, none⟩ = some (.slice A0_2 l0_2.length c0_2) := (blk_cell BK101.out 2).trans rfl; have hfz8_0 := blk_frozen BK101.out 0; have hfz8_1 := blk_frozen BK101.out 1; have hfz8_2 := blk_frozen BK101.out 2; have hcz9_0 : w6.cell? ⟨gb102, 0, none⟩ = some (.int .i64 a1_0) := (blk_cell BK102.out 0).trans rfl; have hcz9_1 : w6.cell? ⟨gb102, 1, none⟩ = some (.int .i64 a1_1) := (blk_cell BK102.out 1).trans rfl; have hfz9_0 := blk_frozen BK102.out 0; have hfz9_1 := blk_frozen BK102.out 1) | ((with_reducible refine gate_callee (f := 15) rfl ?_); refine goesL_ (some 14) rfl rfl Try.func15 (by kernel_rfl) rfl #[.agg #[.int .i64 a0_0, .int .i64 a0_1, .slice A0_2 l0_2.length c0_2], .agg #[.int .i64 a1_0, .int .i64 a1_1, .slice A2 l2.length c2]] rfl (by (try simp only [List.map_toArray, List.map_cons, List.map_nil]) <;> rfl) ?_; (with_reducible refine (fenlandref10_Same.calls k a0_0 a0_1 _ _ l0_2 a1_0 a1_1 _ _ l2 t103 _ ?side1 ?side2 ?side3 ?side4 A4.out).mono ?_); (case side1 => exact xC (Kd.C_below HR0_2.out HB.out)); (case side2 => exact HC0_2.out); (case side3 => exact xC (Kd.C_below HR2.out HB.out)); (case side4 => exact HC2.out); rintro e w10 ⟨rfl, hb⟩; refine ⟨_, rfl, ?_⟩; have n2_ := Aside0.mk (below_step (xS HB.out (ge GE101.out (ge GE102.out g0))) hb); clear HB; revert n2_; intro HB; (try clear hb)))
 go_ret
 exact ⟨by first | rfl | simp [*], by repeat (first | (with_reducible first | exact HB.out | apply below_alloc | apply pw_below_drewN | apply below_drew1 | refine below_set ?_ GE101.out | refine below_set ?_ GE102.out) | exact HB.out)⟩
theorem eqA26 (d : Nat) (w : World) (x0 y0 : Bool) (x1 y1 : Int) (x2 y2 : ByteArray) :
  (Op.equalIn (d + 2) 26 (.agg #[.bool x0, .int .i64 x1, .string x2]) (.agg #[.bool y0, .int .i64 y1, .string y2])).run Try.prog w = .ok (x0 == y0 && (x1 == y1 && (x2.toList == y2.toList))) w := by
 refine eqA_of Try.underlying26 (by kernel_rfl) ?_
 refine eqf_cons (by rfl) (by go_simp; rfl) (by go_simp; rfl) (by go_simp) ?_
 refine eqf_cons (by rfl) (by go_simp; rfl) (by go_simp; rfl) (by go_simp) ?_
 exact eqf_last (by rfl) (by go_simp; rfl) (by go_simp; rfl) (by go_simp)
attribute [local go_sem high] eqA26
def fenlandref10_SameValues.l0 : Nat → List (S26) → List (S26) → Int → Option (Bool)
 | 0, _, _, _ => none
 | k + 1, x0, x1, x5 => if x5 < (x0.length : Int) then (if 0 ≤ x5 then (if x5 < (x1.length : Int) then (if (!(((rd_T26 x0 x5).f0) == ((rd_T26 x1 x5).f0)) || (!(((rd_T26 x0 x5).f1) == ((rd_T26 x1 x5).f1)) || (!((((rd_T26 x0 x5).f2).toList) == (((rd_T26 x1 x5).f2).toList))))) = true then (some false) else (fenlandref10_SameValues.l0 k x0 x1 (wrap64 (x5 + 1)))) else (none)) else (none)) else (some true)
def fenlandref10_SameValues.f (k : Nat) (l0 : List (S26)) (l1 : List (S26)) : Option (Bool) := if (l0.length : Int) = (l1.length : Int) then (fenlandref10_SameValues.l0 k l0 l1 0) else (some false)
theorem fenlandref10_SameValues.mono_l : ∀ k, (∀ y0 y1 y2, LeO (fenlandref10_SameValues.l0 k y0 y1 y2) (fenlandref10_SameValues.l0 (k + 1) y0 y1 y2))
 | 0 => fun _ _ _ r h => by simp [fenlandref10_SameValues.l0] at h
 | k + 1 => by
  have ih0 := fenlandref10_SameValues.mono_l k
  ·intro y0 y1 y2
   unfold fenlandref10_SameValues.l0
   repeat' first
   | (with_reducible exact ih0 _ _ _)
   | (with_reducible exact LeO.refl _)
   | (with_reducible exact LeO.none _)
   | (with_reducible refine LeO.ite ?_ ?_)
   | (with_reducible refine LeO.bind ?_ (fun _ => ?_))
   | exact ih0 _ _ _
   | exact LeO.none _
   | refine LeO.ite ?_ ?_
   | refine LeO.bind ?_ (fun _ => ?_)
theorem fenlandref10_SameValues.mono : ∀ a0 a1 k, LeO (fenlandref10_SameValues.f k a0 a1) (fenlandref10_SameValues.f (k + 1) a0 a1) := by
 intro a0 a1 k
 have ih0 := fenlandref10_SameValues.mono_l k
 unfold fenlandref10_SameValues.f
 repeat' first
   | (with_reducible exact ih0 _ _ _)
   | (with_reducible exact LeO.refl _)
   | (with_reducible exact LeO.none _)
   | (with_reducible refine LeO.ite ?_ ?_)
   | (with_reducible refine LeO.bind ?_ (fun _ => ?_))
   | exact ih0 _ _ _
   | exact LeO.none _
   | refine LeO.ite ?_ ?_
   | refine LeO.bind ?_ (fun _ => ?_)
set_option maxHeartbeats 8000000 in
set_option maxRecDepth 100000 in
theorem fenlandref10_SameValues.calls (k : Nat) (A0 : Option Addr) (c0 : Nat) (l0 : List (S26)) (A1 : Option Addr) (c1 : Nat) (l1 : List (S26)) (r : Bool) (w : World) (hr0 : Kd.C k26 w A0 l0.length l0) (hc0 : l0.length ≤ c0) (hr1 : Kd.C k26 w A1 l1.length l1) (hc1 : l1.length ≤ c1) (h : fenlandref10_SameValues.f k l0 l1 = some r) :
  Calls Try.prog 21 #[.slice A0 l0.length c0, .slice A1 l1.length c1] w fun e w' => e = .returned (.bool r) ∧ Drawn0 w w' := by
 have hu26 := Try.underlying26
 have HR0 := Aside0.mk hr0
 have HC0 := Aside0.mk hc0
 clear hr0 hc0
 have HR1 := Aside0.mk hr1
 have HC1 := Aside0.mk hc1
 clear hr1 hc1
 have H : (if (l0.length : Int) = (l1.length : Int) then (fenlandref10_SameValues.l0 k l0 l1 0) else (some false)) = some r := h
 clear h
 by_cases c3 : (l0.length : Int) = (l1.length : Int)
 ·rw [if_pos c3] at H
  have c3b0 : ((l0.length : Int) == (l1.length : Int)) = true := beq_iff_eq.mpr c3
  have c3b1 : ((l0.length : Int) != (l1.length : Int)) = false := bne_eq_false_iff_eq.mpr c3
  have c3b2 : (l0.length == l1.length) = true := by first | simpa using c3 | (simp at c3 ⊢; omega)
  clear c3
  have H' := Aside0.mk H
  clear H
  go_enter Try.func21, Try.ntmps21
  go_wp2
  repeat (go_quiet (fail); try go_wp2)
  go_loopg [5] k (fun kq v5 w' => ∃ (x5_1 : Int), v5 = .int .i64 x5_1 ∧ Aside0 (fenlandref10_SameValues.l0 kq l0 l1 x5_1 = some r) ∧ Aside0 (kq ≤ k) ∧ Drawn0 w w')
  case atStart => exact ⟨(0), (by first | rfl | (simp; done) | (simp [*]; done)), H', ⟨Nat.le_refl _⟩, by repeat (first | exact Drawn0.refl _ | apply Drawn0.step)⟩
  case round =>
   clear H'
   try clear c1
   try clear c2
   try clear p2
   try clear c3
   try clear c3b0
   try clear c3b1
   try clear c3b2
   obtain ⟨x5_1, rfl, HA, HK1, ⟨m1, rfl⟩⟩ := hrel
   cases gk with
   | zero => exact absurd HA.out (by simp [fenlandref10_SameValues.l0])
   | succ k1 =>
    have H := HA.out
    clear HA
    simp only [fenlandref10_SameValues.l0] at H
    by_cases c4 : x5_1 < (l0.length : Int)
    rotate_left
    ·rw [if_neg c4] at H
     have c4b0 : decide (x5_1 < (l0.length : Int)) = false := decide_eq_false c4
     clear c4
     obtain rfl := Option.some.inj H
     go_wp2
     repeat (go_quiet (fail); try go_wp2)
     go_ret
     exact ⟨by first | rfl | (simp; done) | (simp [*]; done), by repeat (first | exact Drawn0.refl _ | apply Drawn0.step)⟩
    rw [if_pos c4] at H
    have c4b0 : decide (x5_1 < (l0.length : Int)) = true := decide_eq_true c4
    clear c4
    by_cases c5 : 0 ≤ x5_1
    rotate_left
    ·rw [if_neg c5] at H
     exact absurd H (by simp)
    rw [if_pos c5] at H
    have c5b0 : decide (0 ≤ x5_1) = true := decide_eq_true c5
    clear c5
    by_cases c6 : x5_1 < (l1.length : Int)
    rotate_left
    ·rw [if_neg c6] at H
     exact absurd H (by simp)
    rw [if_pos c6] at H
    have c6b0 : decide (x5_1 < (l1.length : Int)) = true := decide_eq_true c6
    clear c6
    by_cases c7 : (!(((rd_T26 l0 x5_1).f0) == ((rd_T26 l1 x5_1).f0)) || (!(((rd_T26 l0 x5_1).f1) == ((rd_T26 l1 x5_1).f1)) || (!((((rd_T26 l0 x5_1).f2).toList) == (((rd_T26 l1 x5_1).f2).toList))))) = true
    ·rw [if_pos c7] at H
     have c7b0 : (!(((rd_T26 l0 x5_1).f0) == ((rd_T26 l1 x5_1).f0)) || (!(((rd_T26 l0 x5_1).f1) == ((rd_T26 l1 x5_1).f1)) || (!((((rd_T26 l0 x5_1).f2).toList) == (((rd_T26 l1 x5_1).f2).toList))))) = true := c7
     clear c7
     obtain rfl := Option.some.inj H
     have p101 : 0 ≤ (x5_1 : Int) := of_decide_eq_true (by first | (with_reducible assumption) | assumption)
     have q101 : x5_1 < (l0.length : Int) := of_decide_eq_true (by first | (with_reducible assumption) | assumption)
     obtain ⟨ad101, e101, hx101_0, hx101_1, hx101_2⟩ := at_T26 HR0.out x5_1 p101 q101
     cases e101
     replace p101 := eq_true p101
     replace q101 := eq_true q101
     have p102 : 0 ≤ (x5_1 : Int) := of_decide_eq_true (by first | (with_reducible assumption) | assumption)
     have q102 : x5_1 < (l1.length : Int) := of_decide_eq_true (by first | (with_reducible assumption) | assumption)
     obtain ⟨ad102, e102, hx102_0, hx102_1, hx102_2⟩ := at_T26 HR1.out x5_1 p102 q102
     cases e102
     replace p102 := eq_true p102
     replace q102 := eq_true q102
     go_wp2
     repeat (go_quiet (fail); try go_wp2)
     go_ret
     exact ⟨by first | rfl | (simp; done) | (simp [*]; done), by repeat (first | exact Drawn0.refl _ | apply Drawn0.step)⟩
    ·rw [if_neg c7] at H
     have c7b0 : (!(((rd_T26 l0 x5_1).f0) == ((rd_T26 l1 x5_1).f0)) || (!(((rd_T26 l0 x5_1).f1) == ((rd_T26 l1 x5_1).f1)) || (!((((rd_T26 l0 x5_1).f2).toList) == (((rd_T26 l1 x5_1).f2).toList))))) = false := by simpa using c7
     clear c7
     have H' := Aside0.mk H
     clear H
     have p101 : 0 ≤ (x5_1 : Int) := of_decide_eq_true (by first | (with_reducible assumption) | assumption)
     have q101 : x5_1 < (l0.length : Int) := of_decide_eq_true (by first | (with_reducible assumption) | assumption)
     obtain ⟨ad101, e101, hx101_0, hx101_1, hx101_2⟩ := at_T26 HR0.out x5_1 p101 q101
     cases e101
     replace p101 := eq_true p101
     replace q101 := eq_true q101
     have p102 : 0 ≤ (x5_1 : Int) := of_decide_eq_true (by first | (with_reducible assumption) | assumption)
     have q102 : x5_1 < (l1.length : Int) := of_decide_eq_true (by first | (with_reducible assumption) | assumption)
     obtain ⟨ad102, e102, hx102_0, hx102_1, hx102_2⟩ := at_T26 HR1.out x5_1 p102 q102
     cases e102
     replace p102 := eq_true p102
     replace q102 := eq_true q102
     go_wp2
     repeat (go_quiet (fail); try go_wp2)
     go_roundg k1
     case measure => have := HK1.out; omega
     case rel => exact ⟨(wrap64 (x5_1 + 1)), (by first | rfl | (simp; done) | (simp [*]; done)), H', ⟨by have := HK1.out; omega⟩, by repeat (first | exact Drawn0.refl _ | apply Drawn0.step)⟩
 ·rw [if_neg c3] at H
  have c3b0 : ((l0.length : Int) == (l1.length : Int)) = false := beq_eq_false_iff_ne.mpr c3
  have c3b1 : ((l0.length : Int) != (l1.length : Int)) = true := bne_iff_ne.mpr c3
  have c3b2 : (l0.length == l1.length) = false := by first | simpa using c3 | (simp at c3 ⊢; omega)
  obtain rfl := Option.some.inj H
  go_enter Try.func21, Try.ntmps21
  go_wp2
  repeat (go_quiet (fail); try go_wp2)
  go_ret
  exact ⟨by first | rfl | (simp; done) | (simp [*]; done), by repeat (first | exact Drawn0.refl _ | apply Drawn0.step)⟩
def page_check.j0 : Nat → Int → Int → Bool → Option (Int)
 | 0, _, _, _ => none
 | k + 1, x0, x1, x9 => if x9 = true then (some 7) else (if x0 = 3 then (if x1 = 4 then (some 7) else (some 0)) else (some 0))
def page_check.f (k : Nat) (a0 : Int) (a1 : Int) : Option (Int) := (page_coderOf.f a0).bind fun t101 => (if (codNil t101) = true then (some 1) else (if a1 < 1 then (page_check.j0 k a0 a1 true) else (page_check.j0 k a0 a1 (decide (a1 > 5)))))
theorem page_check.mono_l : ∀ k, (∀ y0 y1 y2, LeO (page_check.j0 k y0 y1 y2) (page_check.j0 (k + 1) y0 y1 y2))
 | 0 => fun _ _ _ r h => by simp [page_check.j0] at h
 | k + 1 => by
  have ih0 := page_check.mono_l k
  ·intro y0 y1 y2
   unfold page_check.j0
   repeat' first
   | (with_reducible exact ih0 _ _ _)
   | (with_reducible exact LeO.refl _)
   | (with_reducible exact LeO.none _)
   | (with_reducible refine LeO.ite ?_ ?_)
   | (with_reducible refine LeO.bind ?_ (fun _ => ?_))
   | exact ih0 _ _ _
   | exact LeO.none _
   | refine LeO.ite ?_ ?_
   | refine LeO.bind ?_ (fun _ => ?_)
theorem page_check.mono : ∀ a0 a1 k, LeO (page_check.f k a0 a1) (page_check.f (k + 1) a0 a1) := by
 intro a0 a1 k
 have ih0 := page_check.mono_l k
 unfold page_check.f
 repeat' first
   | (with_reducible exact ih0 _ _ _)
   | (with_reducible exact LeO.refl _)
   | (with_reducible exact LeO.none _)
   | (with_reducible refine LeO.ite ?_ ?_)
   | (with_reducible refine LeO.bind ?_ (fun _ => ?_))
   | exact ih0 _ _ _
   | exact LeO.none _
   | refine LeO.ite ?_ ?_
   | refine LeO.bind ?_ (fun _ => ?_)
set_option maxHeartbeats 8000000 in
set_option maxRecDepth 100000 in
theorem page_check.calls (k : Nat) (a0 : Int) (a1 : Int) (r : Int) (w : World) (h : page_check.f k a0 a1 = some r) :
  Calls Try.prog 25 #[.int .i64 a0, .int .i64 a1] w fun e w' => e = .returned (.int .i64 r) ∧ Drawn0 w w' := by
 have H : ((page_coderOf.f a0).bind fun t101 => (if (codNil t101) = true then (some 1) else (if a1 < 1 then (page_check.j0 k a0 a1 true) else (page_check.j0 k a0 a1 (decide (a1 > 5)))))) = some r := h
 clear h
 replace H := Option.bind_eq_some_iff.mp H
 obtain ⟨t101, A30, H⟩ := H
 (try dsimp only at H)
 have A3 := Aside0.mk A30
 clear A30
 by_cases c4 : (codNil t101) = true
 ·rw [if_pos c4] at H
  have c4b0 : (codNil t101) = true := c4
  clear c4
  obtain rfl := Option.some.inj H
  have hcodE := cod_eql
  have hcodG := cod_guard
  go_enter Try.func25, Try.ntmps25
  go_wp2_with (first | ((with_reducible refine gate_callee (f := 27) rfl ?_); refine goesL_ (some 7) rfl rfl Try.func27 (by kernel_rfl) rfl #[.int .i64 a0] rfl (by (try simp only [List.map_toArray, List.map_cons, List.map_nil]) <;> rfl) ?_; (with_reducible refine (page_coderOf.calls a0 t101 _ A3.out).mono ?_); rintro e w' ⟨rfl, ⟨nd, rfl⟩⟩; refine ⟨_, rfl, ?_⟩))
  go_ret
  exact ⟨by first | rfl | (simp; done) | (simp [*]; done), by repeat (first | exact Drawn0.refl _ | apply Drawn0.step)⟩
 ·rw [if_neg c4] at H
  have c4b0 : (codNil t101) = false := by simpa using c4
  clear c4
  have HC5 := Aside0.mk H
  clear H
  have hcodE := cod_eql
  have hcodG := cod_guard
  go_enter Try.func25, Try.ntmps25
  go_upto_region 3 with (first | ((with_reducible refine gate_callee (f := 27) rfl ?_); refine goesL_ (some 7) rfl rfl Try.func27 (by kernel_rfl) rfl #[.int .i64 a0] rfl (by (try simp only [List.map_toArray, List.map_cons, List.map_nil]) <;> rfl) ?_; (with_reducible refine (page_coderOf.calls a0 t101 _ A3.out).mono ?_); rintro e w' ⟨rfl, ⟨nd, rfl⟩⟩; refine ⟨_, rfl, ?_⟩))
  (try simp only [Act.put, List.setIfInBounds_toArray, List.set_cons_zero, List.set_cons_succ])
  go_cut [9] (fun v9 wc => ∃ (kq : Nat) (x9_4 : Bool), v9 = .bool x9_4 ∧ Aside0 (page_check.j0 kq a0 a1 x9_4 = some r) ∧ Aside0 (kq ≤ k) ∧ Drawn0 w wc)
  case first =>
   have H := HC5.out
   clear HC5
   by_cases c6 : a1 < 1
   rotate_left
   ·rw [if_neg c6] at H
    have c6b0 : decide (a1 < 1) = false := decide_eq_false c6
    clear c6
    (first | rw [c6b0] | (simp only [i64_w, i32_w]; rw [c6b0]) | skip)
    have H' := Aside0.mk H
    clear H
    go_wp2
    go_meet
    case rel => exact ⟨_, (decide (a1 > 5)), (by first | rfl | (simp; done) | (simp [*]; done)), H', ⟨by first | omega | exact Nat.le_refl _⟩, by repeat (first | exact Drawn0.refl _ | apply Drawn0.step)⟩
   rw [if_pos c6] at H
   have c6b0 : decide (a1 < 1) = true := decide_eq_true c6
   clear c6
   (first | rw [c6b0] | (simp only [i64_w, i32_w]; rw [c6b0]) | skip)
   have H' := Aside0.mk H
   clear H
   go_wp2
   go_meet
   case rel => exact ⟨_, (true), (by first | rfl | (simp; done) | (simp [*]; done)), H', ⟨by first | omega | exact Nat.le_refl _⟩, by repeat (first | exact Drawn0.refl _ | apply Drawn0.step)⟩
  case rest =>
   clear HC5
   try clear c2
   try clear p2
   try clear c4
   try clear c4b0
   try clear c6
   try clear c6b0
   obtain ⟨kq, x9_4, rfl, HA, HJ4, ⟨mc4, rfl⟩⟩ := hcut
   cases kq with
   | zero => exact absurd HA.out (by simp [page_check.j0])
   | succ kj4 =>
    have H := HA.out
    clear HA
    simp only [page_check.j0] at H
    by_cases c7 : x9_4 = true
    ·subst c7
     rw [if_pos rfl] at H
     obtain rfl := Option.some.inj H
     go_wp2
     go_ret
     exact ⟨by first | rfl | (simp; done) | (simp [*]; done), by repeat (first | exact Drawn0.refl _ | apply Drawn0.step)⟩
    ·replace c7 := Bool.eq_false_iff.mpr c7
     subst c7
     rw [if_neg (show ¬ (false = true) by decide)] at H
     by_cases c8 : a0 = 3
     rotate_left
     ·rw [if_neg c8] at H
      have c8b0 : (a0 == 3) = false := beq_eq_false_iff_ne.mpr c8
      have c8b1 : (a0 != 3) = true := bne_iff_ne.mpr c8
      obtain rfl := Option.some.inj H
      go_wp2
      go_ret
      exact ⟨by first | rfl | (simp; done) | (simp [*]; done), by repeat (first | exact Drawn0.refl _ | apply Drawn0.step)⟩
     rw [if_pos c8] at H
     have c8b0 : (a0 == 3) = true := beq_iff_eq.mpr c8
     have c8b1 : (a0 != 3) = false := bne_eq_false_iff_eq.mpr c8
     clear c8
     by_cases c9 : a1 = 4
     rotate_left
     ·rw [if_neg c9] at H
      have c9b0 : (a1 == 4) = false := beq_eq_false_iff_ne.mpr c9
      have c9b1 : (a1 != 4) = true := bne_iff_ne.mpr c9
      obtain rfl := Option.some.inj H
      go_wp2
      go_ret
      exact ⟨by first | rfl | (simp; done) | (simp [*]; done), by repeat (first | exact Drawn0.refl _ | apply Drawn0.step)⟩
     rw [if_pos c9] at H
     have c9b0 : (a1 == 4) = true := beq_iff_eq.mpr c9
     have c9b1 : (a1 != 4) = false := bne_eq_false_iff_eq.mpr c9
     clear c9
     obtain rfl := Option.some.inj H
     go_wp2
     go_ret
     exact ⟨by first | rfl | (simp; done) | (simp [*]; done), by repeat (first | exact Drawn0.refl _ | apply Drawn0.step)⟩
theorem run_part_empty (W : World) {g t : Nat} (hg : W.heap[g]? = some (.cells #[] t (0, 0))) (hi : (Try.prog.info? t).map (·.size) = some 0) :
    (partAt ⟨g, 0, none⟩ 0 0).run Try.prog W = .ok ⟨g, 0, none⟩ W := by
  have hsh : (Sem.shape g Sem.pure).run Try.prog W = .ok (W.shape? g) W := rfl
  have hsv : W.shape? g = some (t, 0) := by simp [World.shape?, hg]
  have hc : Try.prog.cellsOf t = 0 := by simp [Program.cellsOf, hi]
  simp [partAt, byteOf, noView, viewAt, Go.shape, hsh, hsv, hc]
theorem part_plain (W : World) {g : Nat} (hg : W.heap[g]? = some (.cells #[] 77 (0, 0))) : (partAt ⟨g, 0, none⟩ 0 0).run Try.prog W = .ok ⟨g, 0, none⟩ W := run_part_empty W hg (by kernel_rfl)
theorem part_delta (W : World) {g : Nat} (hg : W.heap[g]? = some (.cells #[] 79 (0, 0))) : (partAt ⟨g, 0, none⟩ 0 0).run Try.prog W = .ok ⟨g, 0, none⟩ W := run_part_empty W hg (by kernel_rfl)
def page_masked_mask.l0 : Nat → List Int → List (S26) → Int → Int → Option (List Int)
 | 0, _, _, _, _ => none
 | k + 1, x5, x13, x14, x15 => if x15 < x14 then (if 0 ≤ x15 then (if x15 < (x13.length : Int) then (if (rd_T26 x13 x15).f0 = true then (if 0 ≤ (wrap64 (Int.tdiv x15 8)) then (if (wrap64 (Int.tdiv x15 8)) < (x5.length : Int) then (if 0 ≤ (Int.tmod x15 8) then (page_masked_mask.l0 k (x5.set ((wrap64 (Int.tdiv x15 8)) : Int).toNat (Go.bits .or .u8 (rd x5 (wrap64 (Int.tdiv x15 8))) (shl .u8 1 (Int.tmod x15 8)))) x13 x14 (wrap64 (x15 + 1))) else (none)) else (none)) else (none)) else (page_masked_mask.l0 k x5 x13 x14 (wrap64 (x15 + 1)))) else (none)) else (none)) else (some x5)
def page_masked_mask.f (k : Nat)  (l1 : List (S26)) : Option (List Int) := if 0 ≤ (wrap64 (Int.tdiv (wrap64 ((l1.length : Int) + 7)) 8)) then (if (wrap64 (Int.tdiv (wrap64 ((l1.length : Int) + 7)) 8) : Int).toNat ≤ 281474976710656 then (page_masked_mask.l0 k (List.replicate (wrap64 (Int.tdiv (wrap64 ((l1.length : Int) + 7)) 8) : Int).toNat 0) l1 (l1.length : Int) 0) else (none)) else (none)
theorem page_masked_mask.mono_l : ∀ k, (∀ y0 y1 y2 y3, LeO (page_masked_mask.l0 k y0 y1 y2 y3) (page_masked_mask.l0 (k + 1) y0 y1 y2 y3))
 | 0 => fun _ _ _ _ r h => by simp [page_masked_mask.l0] at h
 | k + 1 => by
  have ih0 := page_masked_mask.mono_l k
  ·intro y0 y1 y2 y3
   unfold page_masked_mask.l0
   repeat' first
   | (with_reducible exact ih0 _ _ _ _)
   | (with_reducible exact LeO.refl _)
   | (with_reducible exact LeO.none _)
   | (with_reducible refine LeO.ite ?_ ?_)
   | (with_reducible refine LeO.bind ?_ (fun _ => ?_))
   | exact ih0 _ _ _ _
   | exact LeO.none _
   | refine LeO.ite ?_ ?_
   | refine LeO.bind ?_ (fun _ => ?_)
theorem page_masked_mask.mono : ∀ a0 k, LeO (page_masked_mask.f k a0) (page_masked_mask.f (k + 1) a0) := by
 intro a0 k
 have ih0 := page_masked_mask.mono_l k
 unfold page_masked_mask.f
 repeat' first
   | (with_reducible exact ih0 _ _ _ _)
   | (with_reducible exact LeO.refl _)
   | (with_reducible exact LeO.none _)
   | (with_reducible refine LeO.ite ?_ ?_)
   | (with_reducible refine LeO.bind ?_ (fun _ => ?_))
   | exact ih0 _ _ _ _
   | exact LeO.none _
   | refine LeO.ite ?_ ?_
   | refine LeO.bind ?_ (fun _ => ?_)
def page_masked_mask.T6 : Bool × List (List Nat × List Nat) := (true, [([], []), ([], []), ([1], [1]), ([0, 2], [0, 2]), ([3], [3]), ([], []), ([5], [5]), ([6], [6]), ([4, 7], [4, 7]), ([0, 2, 0, 1, 2, 3, 4, 5, 6, 7, 8], [0, 2]), ([9, 8, 0, 1, 2, 3, 4, 5, 6, 7, 8], [8, 9])])
def page_masked_mask.B6 : List Nat := [0, 0, 2, 7, 15, 0, 32, 96, 255, 511, 1023]
theorem page_masked_mask.tab6 : rtab .any (opsOf Try.f61 6) = page_masked_mask.T6 := by kernel_rfl
theorem page_masked_mask.bits6 : waitsOk page_masked_mask.T6.2 page_masked_mask.B6 = true := by kernel_rfl
set_option maxHeartbeats 8000000 in
set_option maxRecDepth 100000 in
theorem page_masked_mask.calls (k : Nat)  (A1 : Option Addr) (c1 : Nat) (l1 : List (S26)) (r : List Int) (w : World) (hr1 : Kd.C k26 w A1 l1.length l1) (hc1 : l1.length ≤ c1) (h : page_masked_mask.f k l1 = some r) :
  Calls Try.prog 61 #[.agg #[], .slice A1 l1.length c1] w fun e w' => ∃ v0_ : Value, e = .returned (v0_) ∧ Kd.R (Kd.int .u8) 5 w' w.heap.size (fun _ => True) v0_ r ∧ Below w.heap.size w w' := by
 have hu75 := Try.underlying75
 have hu26 := Try.underlying26
 have HR1 := Aside0.mk hr1
 have HC1 := Aside0.mk hc1
 clear hr1 hc1
 have HB := Aside0.mk (Below.refl w.heap.size w)
 have H : (if 0 ≤ (wrap64 (Int.tdiv (wrap64 ((l1.length : Int) + 7)) 8)) then (if (wrap64 (Int.tdiv (wrap64 ((l1.length : Int) + 7)) 8) : Int).toNat ≤ 281474976710656 then (page_masked_mask.l0 k (List.replicate (wrap64 (Int.tdiv (wrap64 ((l1.length : Int) + 7)) 8) : Int).toNat 0) l1 (l1.length : Int) 0) else (none)) else (none)) = some r := h
 clear h
 obtain ⟨ji3, hji3⟩ : ∃ j_ : Int, (wrap64 (Int.tdiv (wrap64 ((l1.length : Int) + 7)) 8)) = j_ := ⟨_, rfl⟩
 replace H : (if 0 ≤ (ji3) then (if (ji3 : Int).toNat ≤ 281474976710656 then (page_masked_mask.l0 k (List.replicate (ji3 : Int).toNat 0) l1 (l1.length : Int) 0) else (none)) else (none)) = some r := by first | (rw [hji3] at H; exact H) | (simp only [hji3] at H ⊢; exact H)
 have hji3w : (IntKind.i64.wrap (Int.tdiv (wrap64 ((l1.length : Int) + 7)) 8)) = ji3 := (i64_w _).trans hji3
 by_cases c4 : 0 ≤ (ji3)
 rotate_left
 ·rw [if_neg c4] at H
  exact absurd H (by simp)
 rw [if_pos c4] at H
 have c4b0 := eq_true c4
 have c4b1 : decide (0 ≤ (ji3)) = true := decide_eq_true c4
 clear c4
 by_cases c5 : (ji3 : Int).toNat ≤ 281474976710656
 rotate_left
 ·rw [if_neg c5] at H
  exact absurd H (by simp)
 rw [if_pos c5] at H
 have c5b0 := eq_true c5
 have c5b1 : decide ((ji3 : Int).toNat ≤ 281474976710656) = true := decide_eq_true c5
 clear c5
 obtain ⟨y102, hy102⟩ : ∃ y_ : List Int, y_ = (List.replicate (ji3 : Int).toNat 0) := ⟨_, rfl⟩
 replace H : (page_masked_mask.l0 k y102 l1 (l1.length : Int) 0) = some r := by first | (rw [hy102]; with_reducible exact H) | (have H2_ := (Option.bind_some _ _).symm.trans H; rw [hy102]; with_reducible exact H2_) | (have H2_ := (Option.bind_some _ _).symm.trans H; with_reducible exact H2_) | with_reducible exact H | (rw [hy102]; exact H) | exact H
 have Ny102 := Aside0.mk hy102
 clear hy102
 have H' := Aside0.mk H
 clear H
 go_enter Try.func61, Try.ntmps61
 go_wp2_with (first | ((with_reducible refine gate_dst (N := 2) rfl ?_); refine box_event ?hg (N := 2) ?hd (cs := #[]) (t := 75) ?hr ?_; (case hd => rfl); (case hg => rfl); (case hr => first | (go_simp; done) | (go_simp; rfl)); intro gb101 hg w6 hbox hb; have n0_ := Aside0.mk (below_step (xW HB.out) hb); have n1_ := Aside0.mk (hbox); have n3_ := Aside0.mk ((by rw [hg]; exact (below_size (xW HB.out)) : w.heap.size ≤ gb101)); clear HB; revert n0_ n1_ n3_; intro HB BK101 GE101; clear hb hbox hg) | ((with_reducible refine gate_dst (N := 12) rfl ?_); refine Kd.R_make (Kd.int .u8) _ 5 rfl (N := 12) rfl 32 _ _ rfl ji3 rfl rfl Try.underlying32 (.int .u8 0) 1 info5 rfl (by decide) (by omega) 0 (ok := fun _ => True) (okp := fun _ => True) rfl (fun _ hk => hk) trivial (of_decide_eq_true (by first | (with_reducible assumption) | assumption)) (Nat.le_trans (Nat.mul_le_mul_right _ (of_decide_eq_true (by first | (with_reducible assumption) | assumption) : ji3.toNat ≤ 281474976710656)) (by omega)) (Below.refl _ _) (Nat.le_refl _) ?_; intro v103 w7 ho8 hb hg_ hnew_; clear hg_ hnew_; (first | rw [← Ny102.out] at ho8 | (simp only [Int.reduceToNat] at ho8; rw [← Ny102.out] at ho8)); have n0_ := Aside0.mk (Kd.R_lower ho8 (below_size (xS HB.out (ge GE101.out g0)))); have n1_ := Aside0.mk (blk_below (xB BK101.out) hb); have n2_ := Aside0.mk (below_step (xS HB.out (ge GE101.out g0)) hb); clear BK101 HB; revert n0_ n1_ n2_; intro HO104 BK101 HB; clear hb ho8))
 go_loopg [15] k (fun kq v15 w' => ∃ (x5_1 : List Int) (x15_1 : Int), v15 = .int .i64 x15_1 ∧ Aside0 (page_masked_mask.l0 kq x5_1 l1 (l1.length : Int) x15_1 = some r) ∧ Aside0 (kq ≤ k) ∧ Aside0 (Kd.R (Kd.int .u8) 5 w' w.heap.size (fun _ => True) v103 x5_1) ∧ Aside0 (w'.heap[gb101]? = some (.cells #[] 75 (0, 0))) ∧ Aside0 (Below w.heap.size w w'))
 case atStart => exact ⟨(y102), (0), (by first | rfl | (simp; done) | (simp [*]; done)), H', ⟨Nat.le_refl _⟩, ⟨by (with_reducible repeat (first | apply Kd.R_alloc | apply Kd.R_drewN | apply Kd.R_drew)); exact HO104.out⟩, ⟨by (with_reducible repeat (first | refine blk_drewN ?_ _ | refine blk_drew ?_ | refine blk_alloc ?_ _)); exact BK101.out⟩, ⟨by repeat (first | (with_reducible first | exact HB.out | apply below_alloc | apply pw_below_drewN | apply below_drew1 | refine below_set ?_ GE101.out) | exact HB.out)⟩⟩
 case round =>
  clear H'
  try clear c1
  try clear p2
  try clear c4
  try clear c4b0
  try clear c4b1
  try clear c5
  try clear c5b0
  try clear c5b1
  try clear c6
  try clear p6
  obtain ⟨x5_1, x15_1, rfl, HA, HK1, HO_5, BK101, HB⟩ := hrel
  cases gk with
  | zero => exact absurd HA.out (by simp [page_masked_mask.l0])
  | succ k1 =>
   have H := HA.out
   clear HA
   simp only [page_masked_mask.l0] at H
   by_cases c9 : x15_1 < (l1.length : Int)
   rotate_left
   ·rw [if_neg c9] at H
    have c9b0 : decide (x15_1 < (l1.length : Int)) = false := decide_eq_false c9
    clear c9
    obtain rfl := Option.some.inj H
    go_wp2
    go_ret
    exact ⟨_, by first | rfl | (simp [errW_none, errW_some] <;> rfl) | (simp only [← hji3]; first | rfl | (simp [errW_none, errW_some] <;> rfl)) | (simp [*, errW_none, errW_some] <;> rfl), by (with_reducible repeat (first | apply Kd.R_alloc | apply Kd.R_drewN | apply Kd.R_drew)); exact HO_5.out, by repeat (first | (with_reducible first | exact HB.out | apply below_alloc | apply pw_below_drewN | apply below_drew1 | refine below_set ?_ GE101.out) | exact HB.out)⟩
   rw [if_pos c9] at H
   have c9b0 : decide (x15_1 < (l1.length : Int)) = true := decide_eq_true c9
   clear c9
   by_cases c10 : 0 ≤ x15_1
   rotate_left
   ·rw [if_neg c10] at H
    exact absurd H (by simp)
   rw [if_pos c10] at H
   have c10b0 : decide (0 ≤ x15_1) = true := decide_eq_true c10
   clear c10
   by_cases c11 : x15_1 < (l1.length : Int)
   rotate_left
   ·rw [if_neg c11] at H
    exact absurd H (by simp)
   rw [if_pos c11] at H
   have c11b0 : decide (x15_1 < (l1.length : Int)) = true := decide_eq_true c11
   clear c11
   obtain ⟨bq12, hbq12⟩ : ∃ b_ : Bool, b_ = ((rd_T26 l1 x15_1).f0) := ⟨_, rfl⟩
   replace H : (if bq12 = true then (if 0 ≤ (wrap64 (Int.tdiv x15_1 8)) then (if (wrap64 (Int.tdiv x15_1 8)) < (x5_1.length : Int) then (if 0 ≤ (Int.tmod x15_1 8) then (page_masked_mask.l0 k1 (x5_1.set ((wrap64 (Int.tdiv x15_1 8)) : Int).toNat (Go.bits .or .u8 (rd x5_1 (wrap64 (Int.tdiv x15_1 8))) (shl .u8 1 (Int.tmod x15_1 8)))) l1 (l1.length : Int) (wrap64 (x15_1 + 1))) else (none)) else (none)) else (none)) else (page_masked_mask.l0 k1 x5_1 l1 (l1.length : Int) (wrap64 (x15_1 + 1)))) = some r := by rw [← hbq12] at H; exact H
   have Nbq12 := Aside0.mk hbq12
   clear hbq12
   by_cases c13 : bq12 = true
   ·subst c13
    rw [if_pos rfl] at H
    obtain ⟨ji14, hji14⟩ : ∃ j_ : Int, (wrap64 (Int.tdiv x15_1 8)) = j_ := ⟨_, rfl⟩
    replace H : (if 0 ≤ (ji14) then (if (ji14) < (x5_1.length : Int) then (if 0 ≤ (Int.tmod x15_1 8) then (page_masked_mask.l0 k1 (x5_1.set ((ji14) : Int).toNat (Go.bits .or .u8 (rd x5_1 (ji14)) (shl .u8 1 (Int.tmod x15_1 8)))) l1 (l1.length : Int) (wrap64 (x15_1 + 1))) else (none)) else (none)) else (none)) = some r := by first | (rw [hji14] at H; exact H) | (simp only [hji14] at H ⊢; exact H)
    have hji14w : (IntKind.i64.wrap (Int.tdiv x15_1 8)) = ji14 := (i64_w _).trans hji14
    by_cases c15 : 0 ≤ (ji14)
    rotate_left
    ·rw [if_neg c15] at H
     exact absurd H (by simp)
    rw [if_pos c15] at H
    have c15b0 : decide (0 ≤ (ji14)) = true := decide_eq_true c15
    clear c15
    by_cases c16 : (ji14) < (x5_1.length : Int)
    rotate_left
    ·rw [if_neg c16] at H
     exact absurd H (by simp)
    rw [if_pos c16] at H
    have c16b0 : decide ((ji14) < (x5_1.length : Int)) = true := decide_eq_true c16
    clear c16
    obtain ⟨ji17, hji17⟩ : ∃ j_ : Int, (Int.tmod x15_1 8) = j_ := ⟨_, rfl⟩
    replace H : (if 0 ≤ (ji17) then (page_masked_mask.l0 k1 (x5_1.set ((ji14) : Int).toNat (Go.bits .or .u8 (rd x5_1 (ji14)) (shl .u8 1 (ji17)))) l1 (l1.length : Int) (wrap64 (x15_1 + 1))) else (none)) = some r := by first | (rw [hji17] at H; exact H) | (simp only [hji17] at H ⊢; exact H)
    by_cases c18 : 0 ≤ (ji17)
    rotate_left
    ·rw [if_neg c18] at H
     exact absurd H (by simp)
    rw [if_pos c18] at H
    have c18b0 := eq_true c18
    have c18b1 : decide (0 ≤ (ji17)) = true := decide_eq_true c18
    clear c18
    obtain ⟨ji19, hji19⟩ : ∃ j_ : Int, (shl .u8 1 (ji17)) = j_ := ⟨_, rfl⟩
    replace H : (page_masked_mask.l0 k1 (x5_1.set ((ji14) : Int).toNat (Go.bits .or .u8 (rd x5_1 (ji14)) (ji19))) l1 (l1.length : Int) (wrap64 (x15_1 + 1))) = some r := by first | (rw [hji19] at H; exact H) | (simp only [hji19] at H ⊢; exact H)
    have hji19_ : (IntKind.u8.wrap (1 * 2 ^ min (ji17).toNat 8)) = ji19 := hji19
    have hji19z : (ji17) ≤ 8 → (IntKind.u8.wrap (1 * 2 ^ (ji17).toNat)) = ji19 := shl_small hji19
    have hji19u : (IntKind.u8.wrap (2 ^ min (ji17).toNat 8)) = ji19 := by have h_ := hji19_; rw [Int.one_mul] at h_; exact h_
    have hji19v : (ji17) ≤ 8 → (IntKind.u8.wrap (2 ^ (ji17).toNat)) = ji19 := fun hle_ => by have h_ := hji19z hle_; rw [Int.one_mul] at h_; exact h_
    obtain ⟨y108, hy108⟩ : ∃ y_ : List Int, y_ = (x5_1.set ((ji14) : Int).toNat (Go.bits .or .u8 (rd x5_1 (ji14)) (ji19))) := ⟨_, rfl⟩
    replace H : (page_masked_mask.l0 k1 y108 l1 (l1.length : Int) (wrap64 (x15_1 + 1))) = some r := by first | (rw [hy108]; with_reducible exact H) | (have H2_ := (Option.bind_some _ _).symm.trans H; rw [hy108]; with_reducible exact H2_) | (have H2_ := (Option.bind_some _ _).symm.trans H; with_reducible exact H2_) | with_reducible exact H | (rw [hy108]; exact H) | exact H
    have Ny108 := Aside0.mk hy108
    clear hy108
    have H' := Aside0.mk H
    clear H
    have p105 : 0 ≤ (x15_1 : Int) := of_decide_eq_true (by first | (with_reducible assumption) | assumption)
    have q105 : x15_1 < (l1.length : Int) := of_decide_eq_true (by first | (with_reducible assumption) | assumption)
    obtain ⟨ad105, e105, hx105_0, hx105_1, hx105_2⟩ := at_T26 HR1.out x15_1 p105 q105
    (try rw [← Nbq12.out] at hx105_0)
    cases e105
    replace hx105_0 := (HB.out.cell (World.block_lt_of_cell? w _ hx105_0)).trans hx105_0
    replace hx105_1 := (HB.out.cell (World.block_lt_of_cell? w _ hx105_1)).trans hx105_1
    replace hx105_2 := (HB.out.cell (World.block_lt_of_cell? w _ hx105_2)).trans hx105_2
    replace p105 := eq_true p105
    replace q105 := eq_true q105
    try go_wp2_with (first | ((with_reducible refine gate_dst (N := 7) rfl ?_); refine box_event ?hg (N := 7) ?hd (cs := #[.bool false, .int .i64 0, .string (⟨#[]⟩ : ByteArray)]) (t := 26) ?hr ?_; (case hd => rfl); (case hg => rfl); (case hr => first | (go_simp; done) | (go_simp; rfl)); intro gb106 hg w21 hbox hb; have n0_ := Aside0.mk (Kd.R_below (xR HO_5.out) hb); have n1_ := Aside0.mk (blk_below (xB BK101.out) hb); have n2_ := Aside0.mk (below_step (xS HB.out (ge GE101.out g0)) hb); have n3_ := Aside0.mk (hbox); have n4_ := Aside0.mk ((by rw [hg]; exact (below_size (xS HB.out (ge GE101.out g0))) : w.heap.size ≤ gb106)); have n5_ := Aside0.mk ((by rw [hg]; exact (below_size (xS HB.out (ge GE101.out g0))) : w.heap.size ≤ gb106)); have n6_ := Aside0.mk ((by rw [hg]; exact Nat.ne_of_lt (blk_lt (xB BK101.out)) : gb101 ≠ gb106)); have n7_ := Aside0.mk ((by rw [hg]; exact Nat.ne_of_gt (blk_lt (xB BK101.out)) : gb106 ≠ gb101)); clear HO_5 BK101 HB; revert n0_ n1_ n2_ n3_ n4_ n5_ n6_ n7_; intro HO_5 BK101 HB BK106 GW106 GE106 NB101_106 NB106_101; clear hb hbox hg; have hnb22 := NB106_101.out; have hnc22 := NB101_106.out; have hcz23_0 : w21.cell? ⟨gb106, 0, none⟩ = some (.bool false) := (blk_cell BK106.out 0).trans rfl; have hcz23_1 : w21.cell? ⟨gb106, 1, none⟩ = some (.int .i64 0) := (blk_cell BK106.out 1).trans rfl; have hcz23_2 : w21.cell? ⟨gb106, 2, none⟩ = some (.string (⟨#[]⟩ : ByteArray)) := (blk_cell BK106.out 2).trans rfl; have hfz23_0 := blk_frozen BK106.out 0; have hfz23_1 := blk_frozen BK106.out 1; have hfz23_2 := blk_frozen BK106.out 2))
    have n0_ : Aside0 (Kd.R (Kd.int .u8) 5 (((w21.setCell ⟨gb106, 0, none⟩ (.bool true)).setCell ⟨gb106, 1, none⟩ (.int .i64 ((rd_T26 l1 x15_1).f1))).setCell ⟨gb106, 2, none⟩ (.string ((rd_T26 l1 x15_1).f2))) w.heap.size (fun _ => True) v103 x5_1) := ⟨by (with_reducible repeat (first | apply Kd.R_alloc | apply Kd.R_drewN | apply Kd.R_drew)); exact Kd.R_mono (Kd.R_far (p := ⟨gb106, 2, none⟩) (Kd.R_far (p := ⟨gb106, 1, none⟩) (Kd.R_far (p := ⟨gb106, 0, none⟩) (Kd.R_types HO_5.out BK106.out (by decide)) (fun _ hk => hk.2) (.bool true)) (fun _ hk => hk.2) (.int .i64 ((rd_T26 l1 x15_1).f1))) (fun _ hk => hk.2) (.string ((rd_T26 l1 x15_1).f2))) (fun _ hk => trivial)⟩
    have n1_ : Aside0 ((((w21.setCell ⟨gb106, 0, none⟩ (.bool true)).setCell ⟨gb106, 1, none⟩ (.int .i64 ((rd_T26 l1 x15_1).f1))).setCell ⟨gb106, 2, none⟩ (.string ((rd_T26 l1 x15_1).f2))).heap[gb101]? = some (.cells #[] 75 (0, 0))) := ⟨by (with_reducible repeat (first | refine blk_drewN ?_ _ | refine blk_drew ?_ | refine blk_alloc ?_ _)); refine blk_far ?_ NB101_106.out _; (with_reducible repeat (first | refine blk_drewN ?_ _ | refine blk_drew ?_ | refine blk_alloc ?_ _)); refine blk_far ?_ NB101_106.out _; (with_reducible repeat (first | refine blk_drewN ?_ _ | refine blk_drew ?_ | refine blk_alloc ?_ _)); refine blk_far ?_ NB101_106.out _; (with_reducible repeat (first | refine blk_drewN ?_ _ | refine blk_drew ?_ | refine blk_alloc ?_ _)); exact BK101.out⟩
    have n2_ : Aside0 ((((w21.setCell ⟨gb106, 0, none⟩ (.bool true)).setCell ⟨gb106, 1, none⟩ (.int .i64 ((rd_T26 l1 x15_1).f1))).setCell ⟨gb106, 2, none⟩ (.string ((rd_T26 l1 x15_1).f2))).heap[gb106]? = some (.cells #[.bool true, .int .i64 ((rd_T26 l1 x15_1).f1), .string ((rd_T26 l1 x15_1).f2)] 26 (0, 0))) := ⟨by (with_reducible repeat (first | refine blk_drewN ?_ _ | refine blk_drew ?_ | refine blk_alloc ?_ _)); refine blk_put (cs := #[.bool true, .int .i64 ((rd_T26 l1 x15_1).f1), .string (⟨#[]⟩ : ByteArray)]) ?_ 2 _ rfl; (with_reducible repeat (first | refine blk_drewN ?_ _ | refine blk_drew ?_ | refine blk_alloc ?_ _)); refine blk_put (cs := #[.bool true, .int .i64 0, .string (⟨#[]⟩ : ByteArray)]) ?_ 1 _ rfl; (with_reducible repeat (first | refine blk_drewN ?_ _ | refine blk_drew ?_ | refine blk_alloc ?_ _)); refine blk_put (cs := #[.bool false, .int .i64 0, .string (⟨#[]⟩ : ByteArray)]) ?_ 0 _ rfl; (with_reducible repeat (first | refine blk_drewN ?_ _ | refine blk_drew ?_ | refine blk_alloc ?_ _)); exact BK106.out⟩
    have n3_ : Aside0 (Below w.heap.size w (((w21.setCell ⟨gb106, 0, none⟩ (.bool true)).setCell ⟨gb106, 1, none⟩ (.int .i64 ((rd_T26 l1 x15_1).f1))).setCell ⟨gb106, 2, none⟩ (.string ((rd_T26 l1 x15_1).f2)))) := ⟨by repeat (first | (with_reducible first | exact HB.out | apply below_alloc | apply pw_below_drewN | apply below_drew1 | refine below_set ?_ GE101.out | refine below_set ?_ GE106.out) | exact HB.out)⟩
    (try clear HO_5)
    (try clear BK101)
    (try clear BK106)
    (try clear HB)
    generalize (((w21.setCell ⟨gb106, 0, none⟩ (.bool true)).setCell ⟨gb106, 1, none⟩ (.int .i64 ((rd_T26 l1 x15_1).f1))).setCell ⟨gb106, 2, none⟩ (.string ((rd_T26 l1 x15_1).f2))) = w24 at n0_ n1_ n2_ n3_ ⊢
    have HO_5 := n0_
    have BK101 := n1_
    have BK106 := n2_
    have HB := n3_
    clear n0_ n1_ n2_ n3_
    have n0_ := Aside0.mk (Kd.R_drew HO_5.out)
    have n1_ := Aside0.mk (blk_drew BK101.out)
    have n2_ := Aside0.mk (blk_drew BK106.out)
    have n3_ := Aside0.mk (below_drew1 HB.out)
    clear HO_5
    clear BK101
    clear BK106
    clear HB
    have HO_5 := n0_
    have BK101 := n1_
    have BK106 := n2_
    have HB := n3_
    clear n0_ n1_ n2_ n3_
    obtain ⟨Ao26, co26, eo26⟩ := Kd.R_slice HO_5.out
    (first | subst eo26 | (injection eo26 with f1_ f2_ f3_; have f4_ := f1_.symm; have f5_ := f3_.symm; clear f1_ f2_ f3_; subst f4_; subst f5_))
    have p107 : 0 ≤ ((ji14) : Int) := of_decide_eq_true (by first | (with_reducible assumption) | assumption)
    have q107 : (ji14) < (x5_1.length : Int) := of_decide_eq_true (by first | (with_reducible assumption) | assumption)
    obtain ⟨ad107, e107, hx107_0⟩ := Kd.at_int (Kd.R_reads' HO_5.out).2.2 (ji14) p107 q107
    cases e107
    replace p107 := eq_true p107
    replace q107 := eq_true q107
    have p20 : 0 ≤ ((ji14) : Int) := of_decide_eq_true (by first | (with_reducible assumption) | assumption)
    have q20 : ((ji14) : Int) < ((x5_1.length : Int) : Int) := of_decide_eq_true (by first | (with_reducible assumption) | assumption)
    obtain ⟨go20, co20, eo20, gb20, gl20, cl20, HG20⟩ := Kd.R_form HO_5.out (by omega)
    (first | cases eo20 | (injection eo20 with ea_ en_ ec_; (first | subst ea_ | (injection ea_ with ea_; subst ea_)); subst ec_; clear en_))
    have GB20 := Aside0.mk gb20
    have GG20 := Aside0.mk HG20
    clear gb20 gl20 HG20
    (first | simp only [add_plain] at hx107_0 | skip)
    obtain ⟨hx20_0, hf20_0⟩ := Kd.R_celln 0 HO_5.out ((ji14) : Int) p20 q20
    replace p20 := eq_true p20
    replace q20 := eq_true q20
    have HP27 := Kd.R_putn HO_5.out ((ji14) : Int) (Go.bits .or .u8 (rd x5_1 (ji14)) (ji19))
    rw [← Ny108.out] at HP27
    have HQ27 := Aside0.mk HP27
    clear HP27
    refine start_ (n := 11) (S := fun w' => w'.cell? ⟨go20, ((ji14)).toNat, none⟩ = some (.int .u8 (rd x5_1 (ji14)))) (ds := [10]) #[false, false, false, false, false, false, false, false, false, false, false] (by kernel_rfl) rfl rfl (hx107_0) (fun hHeld => ?_); refine with_tabW page_masked_mask.tab6 page_masked_mask.bits6 (fun HT_ HW_ => ?_)
    generalize w24.drew = w25 at HO_5 BK101 BK106 HB GG20 HQ27 hf20_0 hx107_0 hx20_0 hHeld ⊢
    refine pure_ (i := 0) (N := some 22) (v := ?_) (a' := ?_) #[true, false, false, false, false, false, false, false, false, false, false] rfl rfl (any_of HT_.out (by kernel_rfl)) (fun _ _ _ h => h) (Or.inl ⟨by rfl, ?_⟩) ?_ ?_
    rotate_left
    ·intro w'
     go_simp
     with_reducible rfl
    rotate_left
    ·simp only [Act.put, List.setIfInBounds_toArray, List.set_cons_zero, List.set_cons_succ, i64_w, i32_w]
     rfl
    refine pure_ (i := 1) (N := some 23) (v := ?_) (a' := ?_) #[true, true, false, false, false, false, false, false, false, false, false] rfl rfl (any_of HT_.out (by kernel_rfl)) (fun _ _ _ h => h) (Or.inl ⟨by rfl, ?_⟩) ?_ ?_
    rotate_left
    ·intro w'
     go_simp
     with_reducible rfl
    rotate_left
    ·simp only [Act.put, List.setIfInBounds_toArray, List.set_cons_zero, List.set_cons_succ, i64_w, i32_w]
     rfl
    refine pure_ (i := 2) (N := some 24) (v := ?_) (a' := ?_) #[true, true, true, false, false, false, false, false, false, false, false] rfl rfl (any_of HT_.out (by kernel_rfl)) (fun _ _ _ h => h) (Or.inl ⟨by rfl, ?_⟩) ?_ ?_
    rotate_left
    ·intro w'
     go_simp
     with_reducible rfl
    rotate_left
    ·simp only [Act.put, List.setIfInBounds_toArray, List.set_cons_zero, List.set_cons_succ, i64_w, i32_w]
     rfl
    refine pure_ (i := 3) (N := some 25) (v := ?_) (a' := ?_) #[true, true, true, true, false, false, false, false, false, false, false] rfl rfl (any_of HT_.out (by kernel_rfl)) (fun _ _ _ h => h) (Or.inl ⟨by rfl, ?_⟩) ?_ ?_
    rotate_left
    ·intro w'
     go_simp
     with_reducible rfl
    rotate_left
    ·simp only [Act.put, List.setIfInBounds_toArray, List.set_cons_zero, List.set_cons_succ, i64_w, i32_w]
     rfl
    refine pure_ (i := 5) (N := some 27) (v := ?_) (a' := ?_) #[true, true, true, true, false, true, false, false, false, false, false] rfl rfl (any_of HT_.out (by kernel_rfl)) (fun _ _ _ h => h) (Or.inl ⟨by rfl, ?_⟩) ?_ ?_
    rotate_left
    ·intro w'
     go_simp
     with_reducible rfl
    rotate_left
    ·simp only [Act.put, List.setIfInBounds_toArray, List.set_cons_zero, List.set_cons_succ, i64_w, i32_w]
     rfl
    refine pure_ (i := 6) (N := some 28) (v := ?_) (a' := ?_) #[true, true, true, true, false, true, true, false, false, false, false] rfl rfl (any_of HT_.out (by kernel_rfl)) (fun _ _ _ h => h) (Or.inl ⟨by rfl, ?_⟩) ?_ ?_
    rotate_left
    ·intro w'
     go_simp
     with_reducible rfl
    rotate_left
    ·simp only [Act.put, List.setIfInBounds_toArray, List.set_cons_zero, List.set_cons_succ, i64_w, i32_w]
     rfl
    refine pure_ (i := 7) (N := some 29) (v := ?_) (a' := ?_) #[true, true, true, true, false, true, true, true, false, false, false] rfl rfl (any_of HT_.out (by kernel_rfl)) (fun _ _ _ h => h) (Or.inl ⟨by rfl, ?_⟩) ?_ ?_
    rotate_left
    ·intro w'
     go_simp
     with_reducible rfl
    rotate_left
    ·simp only [Act.put, List.setIfInBounds_toArray, List.set_cons_zero, List.set_cons_succ, i64_w, i32_w]
     rfl
    refine take_ (i := 4) (N := some 26) (v := ?_) (a' := ?_) #[true, true, true, true, true, true, true, true, false, false, false] rfl rfl (take_ofW HT_.out HW_.out (by kernel_rfl)) (fun _ _ _ h => h) (Or.inl ⟨by rfl, ?_⟩) hHeld ?_ ?_
    rotate_left
    ·intro w' s0
     go_simp
     with_reducible rfl
    rotate_left
    ·simp only [Act.put, List.setIfInBounds_toArray, List.set_cons_zero, List.set_cons_succ, i64_w, i32_w]
     rfl
    refine pure_ (i := 8) (N := some 30) (v := ?_) (a' := ?_) #[true, true, true, true, true, true, true, true, true, false, false] rfl rfl (any_of HT_.out (by kernel_rfl)) (fun _ _ _ h => h) (Or.inl ⟨by rfl, ?_⟩) ?_ ?_
    rotate_left
    ·intro w'
     go_simp
     with_reducible rfl
    rotate_left
    ·simp only [Act.put, List.setIfInBounds_toArray, List.set_cons_zero, List.set_cons_succ, i64_w, i32_w]
     rfl
    refine pure_ (i := 9) (N := some 31) (v := ?_) (a' := ?_) #[true, true, true, true, true, true, true, true, true, true, false] rfl rfl (any_of HT_.out (by kernel_rfl)) (fun _ _ _ h => h) (Or.inl ⟨by rfl, ?_⟩) ?_ ?_
    rotate_left
    ·intro w'
     go_simp
     with_reducible rfl
    rotate_left
    ·simp only [Act.put, List.setIfInBounds_toArray, List.set_cons_zero, List.set_cons_succ, i64_w, i32_w]
     rfl
    refine last_ (i := 10) (N := none) #[true, true, true, true, true, true, true, true, true, true, true] rfl rfl (one_of HT_.out (by kernel_rfl)) (by decide) (fun K hK => ?_)
    refine skip_ (w1 := ?_) (by rfl) rfl ?_ ?_
    rotate_left
    ·go_simp
     rfl
    refine hK.out _ _ ?_
    clear hK K
    refine done_ (done_of HT_.out (by kernel_rfl)) ?_
    try go_wp2
    go_roundg k1
    case measure => have := HK1.out; omega
    case rel => exact ⟨(y108), (wrap64 (x15_1 + 1)), (by first | rfl | (simp; done) | (simp [*]; done)), H', ⟨by have := HK1.out; omega⟩, ⟨by (with_reducible repeat (first | apply Kd.R_alloc | apply Kd.R_drewN | apply Kd.R_drew)); exact HQ27.out⟩, ⟨by (with_reducible repeat (first | refine blk_drewN ?_ _ | refine blk_drew ?_ | refine blk_alloc ?_ _)); refine blk_far ?_ (by have h_ := Kd.R_ne HO_5.out BK101.out (by decide); intro e_; exact h_ (by rw [e_]; rfl)) _; (with_reducible repeat (first | refine blk_drewN ?_ _ | refine blk_drew ?_ | refine blk_alloc ?_ _)); exact BK101.out⟩, ⟨by repeat (first | (with_reducible first | exact HB.out | apply below_alloc | apply pw_below_drewN | apply below_drew1 | refine below_set ?_ GB20.out | refine below_set ?_ GE101.out | refine below_set ?_ GE106.out) | exact HB.out)⟩⟩
   ·replace c13 := Bool.eq_false_iff.mpr c13
    subst c13
    rw [if_neg (show ¬ (false = true) by decide)] at H
    have H' := Aside0.mk H
    clear H
    have p105 : 0 ≤ (x15_1 : Int) := of_decide_eq_true (by first | (with_reducible assumption) | assumption)
    have q105 : x15_1 < (l1.length : Int) := of_decide_eq_true (by first | (with_reducible assumption) | assumption)
    obtain ⟨ad105, e105, hx105_0, hx105_1, hx105_2⟩ := at_T26 HR1.out x15_1 p105 q105
    (try rw [← Nbq12.out] at hx105_0)
    cases e105
    replace hx105_0 := (HB.out.cell (World.block_lt_of_cell? w _ hx105_0)).trans hx105_0
    replace hx105_1 := (HB.out.cell (World.block_lt_of_cell? w _ hx105_1)).trans hx105_1
    replace hx105_2 := (HB.out.cell (World.block_lt_of_cell? w _ hx105_2)).trans hx105_2
    replace p105 := eq_true p105
    replace q105 := eq_true q105
    go_wp2_with (first | ((with_reducible refine gate_dst (N := 7) rfl ?_); refine box_event ?hg (N := 7) ?hd (cs := #[.bool false, .int .i64 0, .string (⟨#[]⟩ : ByteArray)]) (t := 26) ?hr ?_; (case hd => rfl); (case hg => rfl); (case hr => first | (go_simp; done) | (go_simp; rfl)); intro gb106 hg w28 hbox hb; have n0_ := Aside0.mk (Kd.R_below (xR HO_5.out) hb); have n1_ := Aside0.mk (blk_below (xB BK101.out) hb); have n2_ := Aside0.mk (below_step (xS HB.out (ge GE101.out g0)) hb); have n3_ := Aside0.mk (hbox); have n5_ := Aside0.mk ((by rw [hg]; exact (below_size (xS HB.out (ge GE101.out g0))) : w.heap.size ≤ gb106)); have n6_ := Aside0.mk ((by rw [hg]; exact Nat.ne_of_lt (blk_lt (xB BK101.out)) : gb101 ≠ gb106)); have n7_ := Aside0.mk ((by rw [hg]; exact Nat.ne_of_gt (blk_lt (xB BK101.out)) : gb106 ≠ gb101)); clear HO_5 BK101 HB; revert n0_ n1_ n2_ n3_ n5_ n6_ n7_; intro HO_5 BK101 HB BK106 GE106 NB101_106 NB106_101; clear hb hbox hg; have hnb29 := NB106_101.out; have hnc29 := NB101_106.out; have hcz30_0 : w28.cell? ⟨gb106, 0, none⟩ = some (.bool false) := (blk_cell BK106.out 0).trans rfl; have hcz30_1 : w28.cell? ⟨gb106, 1, none⟩ = some (.int .i64 0) := (blk_cell BK106.out 1).trans rfl; have hcz30_2 : w28.cell? ⟨gb106, 2, none⟩ = some (.string (⟨#[]⟩ : ByteArray)) := (blk_cell BK106.out 2).trans rfl; have hfz30_0 := blk_frozen BK106.out 0; have hfz30_1 := blk_frozen BK106.out 1; have hfz30_2 := blk_frozen BK106.out 2))
    go_roundg k1
    case measure => have := HK1.out; omega
    case rel => exact ⟨(x5_1), (wrap64 (x15_1 + 1)), (by first | rfl | (simp; done) | (simp [*]; done)), H', ⟨by have := HK1.out; omega⟩, ⟨by (with_reducible repeat (first | apply Kd.R_alloc | apply Kd.R_drewN | apply Kd.R_drew)); exact Kd.R_mono (Kd.R_far (p := ⟨gb106, 2, none⟩) (Kd.R_far (p := ⟨gb106, 1, none⟩) (Kd.R_far (p := ⟨gb106, 0, none⟩) (Kd.R_types HO_5.out BK106.out (by decide)) (fun _ hk => hk.2) (.bool false)) (fun _ hk => hk.2) (.int .i64 ((rd_T26 l1 x15_1).f1))) (fun _ hk => hk.2) (.string ((rd_T26 l1 x15_1).f2))) (fun _ hk => trivial)⟩, ⟨by (with_reducible repeat (first | refine blk_drewN ?_ _ | refine blk_drew ?_ | refine blk_alloc ?_ _)); refine blk_far ?_ NB101_106.out _; (with_reducible repeat (first | refine blk_drewN ?_ _ | refine blk_drew ?_ | refine blk_alloc ?_ _)); refine blk_far ?_ NB101_106.out _; (with_reducible repeat (first | refine blk_drewN ?_ _ | refine blk_drew ?_ | refine blk_alloc ?_ _)); refine blk_far ?_ NB101_106.out _; (with_reducible repeat (first | refine blk_drewN ?_ _ | refine blk_drew ?_ | refine blk_alloc ?_ _)); exact BK101.out⟩, ⟨by repeat (first | (with_reducible first | exact HB.out | apply below_alloc | apply pw_below_drewN | apply below_drew1 | refine below_set ?_ GE101.out | refine below_set ?_ GE106.out) | exact HB.out)⟩⟩
end
end Go.Proofs.Ytnfdhgfpjamphaa.X
