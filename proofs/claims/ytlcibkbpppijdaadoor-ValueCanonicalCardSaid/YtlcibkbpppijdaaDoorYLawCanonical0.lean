/- The law LawCanonical: its walk and its proof, part 1 of 8. -/
import Derived.ArgAppend
import Derived.Below
import Derived.BigQuiet
import Derived.Carry
import Derived.ChangeArms
import Derived.DataReads
import Derived.Deep.AppendLies
import Derived.Deep.CutBlock
import Derived.Deep.DeepCutAuto
import Derived.Deep.Draws
import Derived.Deep.LoopGhost
import Derived.Deep.OwnRows
import Derived.Deep.QuietTactic
import Derived.Deep.RegionHeld3
import Derived.Deep.Strs
import Derived.KernelRfl
import Derived.LaidEql
import Derived.LaidLaws
import Derived.LaidMore
import Derived.LaidOnce
import Derived.Laws.BitsLemmas
import Derived.Laws.BytesArg
import Derived.Laws.IdiomCopy
import Derived.Laws.MakeOwn
import Derived.Laws.OwnMore
import Derived.Laws.Rows
import Derived.Laws.Slices
import Derived.Lib.AppendIntMem
import Derived.Lib.AppendStr
import Derived.Lib.ConvBytes
import Derived.Lib.LaidTab
import Derived.Maps.AppendAt
import Derived.OpenShut
import Derived.OrdersHeld
import Derived.OwnWalk
import Derived.ProofKit
import Derived.RowKit
import Derived.RowKit3
import Derived.Shelf.Small.Strs
import Derived.Shelf.Strconv.ErrVarParseInt
import Derived.Shelf.Strconv.Itoa4
import Derived.Shelf.Strings.BuilderK
import Derived.Shelf.Strings.Repeat
import Derived.Shelf.Strings.Search1
import Derived.Stop.Joined
import Derived.Stop.LaidErr
import Derived.Tactics
import Derived.Test.YtlcibkbpppijdaaDoorProg
import Derived.Test.YtlcibkbpppijdaaDoorRows
import Derived.Test.YtlcibkbpppijdaaDoorYWLawCanonical
import Derived.WalkKit
import Derived.WideLaws
namespace Go.Proofs.YtlcibkbpppijdaaDoor.X
section
open Go.RowKit Go.Proofs.YtlcibkbpppijdaaDoorW.PrintWords Go.Proofs.YtlcibkbpppijdaaDoorW.PrintLast Go.Proofs.YtlcibkbpppijdaaDoorW.PrintMore
attribute [local go_sem] max2_int min2_int max_two min_two max_three min_three max_four min_four   -- for this text's walks alone
set_option linter.unusedVariables false
set_option linter.unusedSimpArgs false
def errW : Option Int → Value
 | none => .nilIface
 | some c => .iface 98 (.int .i64 c)
theorem errW_none : errW none = .nilIface := rfl
theorem errW_some (c : Int) : errW (some c) = .iface 98 (.int .i64 c) := rfl
theorem info5 : (Tryd.prog.info? 5).map (fun i => (i.zero, i.size, i.bytes)) = some (some (.int .u8 0), 1, 1) := by kernel_rfl
/-! #### struct type 25 -/
structure S25 where
 f0 : Bool
 f1 : Int
 f2 : ByteArray
class Ex (w w' : World) : Prop where
  below : Below w.heap.size w w'
instance Ex.refl (w : World) : Ex w w := ⟨Below.refl _ _⟩
instance Ex.alloc (w w' : World) (o : Obj) [h : Ex w w'] : Ex w (w'.alloc o) := ⟨below_alloc h.below o⟩
instance Ex.drew (w w' : World) [h : Ex w w'] : Ex w w'.drew := ⟨below_drew1 h.below⟩
instance Ex.drewN (w w' : World) (n : Nat) [h : Ex w w'] : Ex w (w'.drewN n) := ⟨pw_below_drewN h.below n⟩
class Mg (g : Nat) (gs : List Nat) : Prop where
  mem : g ∈ gs
instance Mg.head (g : Nat) (gs : List Nat) : Mg g (g :: gs) := ⟨List.mem_cons_self⟩
instance Mg.tail (g h : Nat) (gs : List Nat) [m : Mg g gs] : Mg g (h :: gs) := ⟨List.mem_cons_of_mem _ m.mem⟩
/-- From w to w' new blocks, draws, and stores into the blocks gs. -/
class Es (gs : List Nat) (w w' : World) : Prop where
  bel : ∀ u : World, Below u.heap.size u w → (∀ g ∈ gs, u.heap.size ≤ g) → Below u.heap.size u w'
  far : ∀ k : Nat, k < w.heap.size → k ∉ gs → w'.heap[k]? = w.heap[k]?
  size : w.heap.size ≤ w'.heap.size
instance Es.refl (gs : List Nat) (w : World) : Es gs w w := ⟨fun _ h _ => h, fun _ _ _ => rfl, Nat.le_refl _⟩
instance Es.alloc (gs : List Nat) (w w' : World) (o : Obj) [h : Es gs w w'] : Es gs w (w'.alloc o) :=
  ⟨fun u hu hg => below_alloc (h.bel u hu hg) o, fun k hk hn => (Below.heap_alloc w' o k (Nat.lt_of_lt_of_le hk h.size)).trans (h.far k hk hn), Nat.le_trans h.size (Ex.alloc w' w' o).below.size⟩
instance Es.drew (gs : List Nat) (w w' : World) [h : Es gs w w'] : Es gs w w'.drew := ⟨fun u hu hg => below_drew1 (h.bel u hu hg), fun k hk hn => h.far k hk hn, h.size⟩
instance Es.drewN (gs : List Nat) (w w' : World) (n : Nat) [h : Es gs w w'] : Es gs w (w'.drewN n) := ⟨fun u hu hg => pw_below_drewN (h.bel u hu hg) n, fun k hk hn => h.far k hk hn, h.size⟩
instance Es.set (gs : List Nat) (w w' : World) (g j : Nat) (v : Value) [m : Mg g gs] [h : Es gs w w'] : Es gs w (w'.setCell ⟨g, j, none⟩ v) :=
  ⟨fun u hu hg => below_set (h.bel u hu hg) (hg g m.mem), fun k hk hn => (Below.heap_setCell w' ⟨g, j, none⟩ v k (fun e => hn (e ▸ m.mem))).trans (h.far k hk hn), by rw [World.setCell]; simpa using h.size⟩
theorem g0 {P : Nat → Prop} : ∀ g ∈ ([] : List Nat), P g := fun _ h => absurd h (by simp)
theorem ge {P : Nat → Prop} {g : Nat} {gs : List Nat} (h : P g) (hs : ∀ g ∈ gs, P g) : ∀ k ∈ g :: gs, P k := fun k hk => by
  rcases List.mem_cons.1 hk with rfl | hk
  · exact h
  · exact hs k hk
/-- What block g holds in w', where it held cs in w: stores into it are told, stores into the blocks gs are not its. -/
class Bs (gs : List Nat) (g t : Nat) (w w' : World) (cs : Array Value) (cs' : outParam (Array Value)) : Prop where
  holds : w.heap[g]? = some (.cells cs t (0, 0)) → (∀ k ∈ gs, g ≠ k) → w'.heap[g]? = some (.cells cs' t (0, 0))
instance Bs.refl (gs : List Nat) (g t : Nat) (w : World) (cs : Array Value) : Bs gs g t w w cs cs := ⟨fun h _ => h⟩
instance Bs.alloc (gs : List Nat) (g t : Nat) (w w' : World) (cs cs' : Array Value) (o : Obj) [b : Bs gs g t w w' cs cs'] : Bs gs g t w (w'.alloc o) cs cs' := ⟨fun h hn => blk_alloc (b.holds h hn) o⟩
instance Bs.drew (gs : List Nat) (g t : Nat) (w w' : World) (cs cs' : Array Value) [b : Bs gs g t w w' cs cs'] : Bs gs g t w w'.drew cs cs' := ⟨fun h hn => blk_drew (b.holds h hn)⟩
instance Bs.drewN (gs : List Nat) (g t : Nat) (w w' : World) (cs cs' : Array Value) (n : Nat) [b : Bs gs g t w w' cs cs'] : Bs gs g t w (w'.drewN n) cs cs' := ⟨fun h hn => blk_drewN (b.holds h hn) n⟩
instance Bs.far (gs : List Nat) (g t : Nat) (w w' : World) (cs cs' : Array Value) (k j : Nat) (v : Value) [m : Mg k gs] [b : Bs gs g t w w' cs cs'] : Bs gs g t w (w'.setCell ⟨k, j, none⟩ v) cs cs' := ⟨fun h hn => blk_far (b.holds h hn) (hn k m.mem) v⟩
instance Bs.same (gs : List Nat) (g t : Nat) (w w' : World) (cs cs' : Array Value) (j : Nat) (v : Value) [b : Bs gs g t w w' cs cs'] : Bs gs g t w (w'.setCell ⟨g, j, none⟩ v) cs (cs'.setIfInBounds j v) := ⟨fun h hn => blk_set (b.holds h hn) j v⟩
section
variable {w w' : World}
theorem xP {gs : List Nat} {g t : Nat} {cs c1 c2 : Array Value} (h : w.heap[g]? = some (.cells cs t (0, 0))) (hn : ∀ k ∈ gs, g ≠ k) [b : Bs gs g t w w' cs c1] (e : c1 = c2) : w'.heap[g]? = some (.cells c2 t (0, 0)) := e ▸ b.holds h hn
theorem xB {g : Nat} {o : Obj} (h : w.heap[g]? = some o) [x : Ex w w'] : w'.heap[g]? = some o := blk_below h x.below
theorem xF {g : Nat} {o : Obj} {gs : List Nat} (h : w.heap[g]? = some o) (hn : ∀ k ∈ gs, g ≠ k) [x : Es gs w w'] : w'.heap[g]? = some o := (x.far g (blk_lt h) (fun hm => hn g hm rfl)).trans h
theorem xR {α : Type} {d : Kd α} {e base : Nat} {ok : Nat → Prop} {v : Value} {xs : List α} (h : d.R e w base ok v xs) [x : Ex w w'] : d.R e w' base ok v xs := Kd.R_below h x.below
theorem xC {α : Type} {d : Kd α} {A : Option Addr} {n : Nat} {xs : List α} (h : d.C w A n xs) [x : Ex w w'] : d.C w' A n xs := Kd.C_below h x.below
theorem xW {u : World} (h : Below u.heap.size u w) [x : Ex w w'] : Below u.heap.size u w' := below_step h x.below
theorem xS {u : World} {gs : List Nat} (h : Below u.heap.size u w) (hg : ∀ g ∈ gs, u.heap.size ≤ g) [x : Es gs w w'] : Below u.heap.size u w' := x.bel u h hg
theorem xT {α : Type} {d : Kd α} {e base g t : Nat} {ok : Nat → Prop} {v : Value} {xs : List α} {cells : Array Value} (h : d.R e w base ok v xs) (hb : w.heap[g]? = some (.cells cells t (0, 0))) (ht : ∀ q, q ∈ e :: d.E → q ≠ t) [x : Es [g] w w'] : d.R e w' base ok v xs :=
  Kd.R_mono (Kd.R_step (Kd.R_types h hb ht) (fun k hk hlt => x.far k hlt (by simpa using hk.2))) (fun _ hk => hk.1)
end
section
variable {H : Type} {enc : TypeId × Value → H} {P : Program} {w : World} {S : DataW H → Prop} {B : Nat}
structure SizeOk (S : DataW H → Prop) (B : Nat) : Prop where
  slice : ∀ es rest, S (.slice es rest) → es.length ≤ B ∧ ∀ e ∈ es, S e
  agg : ∀ es, S (.agg es) → ∀ e ∈ es, S e
  str : ∀ l, S (.lit (.string l)) → l.length ≤ B
def Opens (enc : TypeId × Value → H) (P : Program) (w : World) (S : DataW H → Prop) {α : Type} (t : TypeId) (d : Kd α) (Wf : α → Prop) : Prop :=
  ∀ fuel cs x, DataW.trod enc P w 0 (fun _ => true) true fuel t cs = some x → S x.1 → ∃ y, d.K w y cs ∧ Wf y
theorem opens_int {t : TypeId} {k : IntKind} (ht : P.underlying t = some (.int k)) : Opens enc P w S t (Kd.int k) (fun n => (Lit.int k n).wf = true) := by
  intro fuel cs x h _
  obtain ⟨n, rfl, _, hw⟩ := DataW.trod_int ht h
  exact ⟨n, rfl, hw⟩
theorem addr_add_add (a : Addr) (i j : Nat) : (a.add i).add j = a.add (i + j) := by
  rcases Nat.eq_zero_or_pos i with rfl | hi
  · simp [Addr.add]
  · have hi' : i ≠ 0 := by omega
    rcases Nat.eq_zero_or_pos j with rfl | hj
    · simp [Addr.add]
    · have hj' : j ≠ 0 := by omega
      have hij : i + j ≠ 0 := by omega
      simp [Addr.add, hi', hj', Nat.add_assoc]
theorem list_of {α : Type} {Q : Nat → α → Prop} : ∀ n : Nat, (∀ i, i < n → ∃ y, Q i y) → ∃ ys : List α, ys.length = n ∧ ∀ i y, ys[i]? = some y → Q i y
  | 0, _ => ⟨[], rfl, fun i y h => by simp at h⟩
  | n + 1, h => by
    obtain ⟨ys, hl, hq⟩ := list_of n (fun i hi => h i (by omega))
    obtain ⟨y, hy⟩ := h n (by omega)
    refine ⟨ys ++ [y], by simp [hl], fun i z hz => ?_⟩
    rcases Nat.lt_or_ge i n with hi | hi
    · rw [List.getElem?_append_left (by omega)] at hz
      exact hq i z hz
    · rw [List.getElem?_append_right (by omega)] at hz
      have : i - ys.length = 0 := by
        rcases Nat.eq_zero_or_pos (i - ys.length) with h0 | h0
        · exact h0
        · rw [List.getElem?_eq_none (by simp; omega)] at hz; cases hz
      rw [this] at hz
      obtain rfl : i = n := by omega
      simp at hz
      rw [← hz]; exact hy
theorem opens_slice (hs : SizeOk S B) {α : Type} {t e : TypeId} {d : Kd α} {Wf : α → Prop} (ht : P.underlying t = some (.slice e)) (hc : P.cellsOf e = d.sz) (ho : Opens enc P w S e d Wf) :
    Opens enc P w S t (Kd.slice e d) (fun xs => xs.length ≤ B ∧ ∀ x ∈ xs, Wf x) := by
  intro fuel cs x h hx
  rcases DataW.trod_slice ht h with ⟨rfl, rfl⟩ | ⟨a, len, cap, elems, rest, n, rfl, rfl, rfl, hb, hl, hm, he, hel, _, _⟩
  · exact ⟨[], ⟨none, 0, rfl, Nat.le_refl _, rfl, by simp, fun h => absurd h (by simp)⟩, by simp, by simp⟩
  · obtain ⟨hB, hS⟩ := hs.slice _ _ hx
    have he' : elems.length = len := he
    rw [hc] at hel
    obtain ⟨ys, hyl, hyq⟩ := list_of (Q := fun i y => ∃ c, w.cells? 0 (a.add (i * d.sz)) d.sz = some c ∧ d.K w y c ∧ Wf y) len (by
      intro i hi
      have h1 := hel i hi
      have h2 : elems[i]? = some elems[i] := List.getElem?_eq_getElem (by omega)
      rw [h2] at h1
      obtain ⟨c, hc1, hc2⟩ := Option.bind_eq_some_iff.1 h1
      obtain ⟨y, hy, hw⟩ := ho n c _ hc2 (hS _ (List.mem_map.2 ⟨elems[i], List.getElem_mem _, rfl⟩))
      exact ⟨y, c, hc1, hy, hw⟩)
    refine ⟨ys, ⟨some a, cap, by rw [hyl], by rw [hyl]; exact hl, rfl, ?_, fun _ => ⟨a, rfl, fun j p hp => ?_⟩⟩, ?_, ?_⟩
    · have : maxLen ≤ 9223372036854775807 := by decide
      omega
    · obtain ⟨c, hc1, hc2, _⟩ := hyq j p hp
      refine ⟨c, d.K_len hc2, hc2, fun i u hu => ?_⟩
      unfold World.cells? at hc1
      rw [if_pos (Nat.zero_le _)] at hc1
      have hi : i < d.sz := by rw [← d.K_len hc2]; exact (List.getElem?_eq_some_iff.1 hu).1
      have := mapM_some_get hc1 i i (by simp [hi])
      rw [hu] at this
      have e : (a.add (j * d.sz)).add i = a.add (j * d.sz + i) := addr_add_add _ _ _
      rw [← e]; exact this
    · rw [hyl]; simp at hB; omega
    · intro y hy
      obtain ⟨i, hi⟩ := List.mem_iff_getElem?.1 hy
      obtain ⟨c, _, _, hw⟩ := hyq i y hi
      exact hw
/-- The fields of a struct (the elements of an array), one behind the other. -/
theorem opens_arg {α : Type} {t : TypeId} {d : Kd α} {Wf : α → Prop} {v : Value} {x : DataW H} {ps : List MemPlace} (h : Opens enc P w S t d Wf) (ht : DataW.Trod enc P w 0 (fun _ => true) true t v x ps) (hS : S x) : ∃ y, d.K w y v.cells.toList ∧ Wf y := by
  obtain ⟨fuel, hf⟩ := ht
  exact h fuel _ _ hf hS
end
theorem bulkAll_mem {H : Type} {e : DataW H} : ∀ {es : List (DataW H)}, e ∈ es → Rows.uptoBulk e ≤ Rows.uptoBulkAll es
  | d :: r, h => by
    rw [Rows.uptoBulkAll]
    rcases List.mem_cons.1 h with rfl | h
    · omega
    · have := bulkAll_mem h; omega
theorem bulk_pos {H : Type} (d : DataW H) : 1 ≤ Rows.uptoBulk d := by
  cases d with
  | lit l => cases l <;> simp [Rows.uptoBulk]
  | _ => simp [Rows.uptoBulk]
theorem bulkAll_length {H : Type} : ∀ (es : List (DataW H)), es.length ≤ Rows.uptoBulkAll es
  | [] => by simp
  | d :: r => by
    rw [Rows.uptoBulkAll]
    have := bulkAll_length r
    have := bulk_pos d
    simp; omega
theorem sizeOk_bulk {H : Type} (B : Nat) : SizeOk (fun d : DataW H => Rows.uptoBulk d ≤ B) B where
  slice := by
    intro es rest h
    simp only [Rows.uptoBulk] at h
    have := bulkAll_length es
    exact ⟨by omega, fun e he => by have := bulkAll_mem he; omega⟩
  agg := by
    intro es h e he
    simp only [Rows.uptoBulk] at h
    have := bulkAll_mem he
    omega
  str := by
    intro l h
    simp only [Rows.uptoBulk] at h
    omega
open Go.Shelf
section
open Go.RowKit Go.Lib Go.Sort
def laysM173_ren : Go.Shelf.Ren := ⟨fun | 173 => 34 | 246 => 54 | 283 => 72 | 284 => 73 | 285 => 74 | 286 => 75 | 129 => 89 | 317 => 88 | 318 => 90 | 319 => 91 | 320 => 92 | 337 => 95 | 338 => 96 | n => n, fun | 2 => 2 | 3 => 3 | 9 => 9 | 4 => 4 | 171 => 111 | 0 => 0 | 53 => 72 | 37 => 22 | 5 => 5 | 173 => 114 | 212 => 130 | 51 => 123 | 20 => 20 | 213 => 131 | 46 => 73 | 232 => 138 | 233 => 139 | n => n, fun | 17 => 3 | 18 => 4 | 19 => 5 | n => n⟩
theorem laysM173 : Go.Proofs.LaysM.n173 Tryd.prog laysM173_ren := {
  mixed := by kernel_rfl
  f129 := Tryd.func89.trans (congrArg some (by kernel_rfl))
  f173 := Tryd.func34.trans (congrArg some (by kernel_rfl))
  f246 := Tryd.func54.trans (congrArg some (by kernel_rfl))
  f283 := Tryd.func72.trans (congrArg some (by kernel_rfl))
  f284 := Tryd.func73.trans (congrArg some (by kernel_rfl))
  f285 := Tryd.func74.trans (congrArg some (by kernel_rfl))
  f286 := Tryd.func75.trans (congrArg some (by kernel_rfl))
  f317 := Tryd.func88.trans (congrArg some (by kernel_rfl))
  f318 := Tryd.func90.trans (congrArg some (by kernel_rfl))
  f319 := Tryd.func91.trans (congrArg some (by kernel_rfl))
  f320 := Tryd.func92.trans (congrArg some (by kernel_rfl))
  f337 := Tryd.func95.trans (congrArg some (by kernel_rfl))
  f338 := Tryd.func96.trans (congrArg some (by kernel_rfl))
  t0 := Tryd.underlying0
  a0 := Tryd.isAgg0
  z0 := Tryd.sizeOf0
  v0 := Tryd.zeroValue0
  t2 := Tryd.underlying2
  a2 := Tryd.isAgg2
  z2 := Tryd.sizeOf2
  v2 := Tryd.zeroValue2
  t3 := Tryd.underlying3
  a3 := Tryd.isAgg3
  z3 := Tryd.sizeOf3
  v3 := Tryd.zeroValue3
  t4 := Tryd.underlying4
  a4 := Tryd.isAgg4
  z4 := Tryd.sizeOf4
  v4 := Tryd.zeroValue4
  t5 := Tryd.underlying5
  a5 := Tryd.isAgg5
  z5 := Tryd.sizeOf5
  v5 := Tryd.zeroValue5
  t9 := Tryd.underlying9
  a9 := Tryd.isAgg9
  z9 := Tryd.sizeOf9
  v9 := Tryd.zeroValue9
  t20 := Tryd.underlying20
  a20 := Tryd.isAgg20
  z20 := Tryd.sizeOf20
  v20 := Tryd.zeroValue20
  t37 := Tryd.underlying22
  a37 := Tryd.isAgg22
  z37 := Tryd.sizeOf22
  v37 := Tryd.zeroValue22
  t46 := Tryd.underlying73
  a46 := Tryd.isAgg73
  z46 := Tryd.sizeOf73
  v46 := Tryd.zeroValue73
  t51 := Tryd.underlying123
  a51 := Tryd.isAgg123
  z51 := Tryd.sizeOf123
  v51 := Tryd.zeroValue123
  t53 := Tryd.underlying72
  a53 := Tryd.isAgg72
  z53 := Tryd.sizeOf72
  v53 := Tryd.zeroValue72
  t171 := Tryd.underlying111
  a171 := Tryd.isAgg111
  z171 := Tryd.sizeOf111
  v171 := Tryd.zeroValue111
  t173 := Tryd.underlying114
  a173 := Tryd.isAgg114
  z173 := Tryd.sizeOf114
  v173 := Tryd.zeroValue114
  t212 := Tryd.underlying130
  a212 := Tryd.isAgg130
  z212 := Tryd.sizeOf130
  v212 := Tryd.zeroValue130
  t213 := Tryd.underlying131
  a213 := Tryd.isAgg131
  z213 := Tryd.sizeOf131
  t232 := Tryd.underlying138
  a232 := Tryd.isAgg138
  z232 := Tryd.sizeOf138
  v232 := Tryd.zeroValue138
  t233 := Tryd.underlying139
  a233 := Tryd.isAgg139
  z233 := Tryd.sizeOf139
  v233 := Tryd.zeroValue139
  g17 := by kernel_rfl
  g18 := by kernel_rfl
  g19 := by kernel_rfl
  i0 := by kernel_rfl
  i2 := by kernel_rfl
  i3 := by kernel_rfl
  i4 := by kernel_rfl
  i5 := by kernel_rfl
  i9 := by kernel_rfl
  i20 := by kernel_rfl
  i37 := by kernel_rfl
  i46 := by kernel_rfl
  i51 := by kernel_rfl
  i53 := by kernel_rfl
  i171 := by kernel_rfl
  i173 := by kernel_rfl
  i212 := by kernel_rfl
  i232 := by kernel_rfl
  i233 := by kernel_rfl
  m17 := by kernel_rfl
  m18 := by kernel_rfl
  m19 := by kernel_rfl }
theorem strconv_FormatInt_10 (n : Int) (h0 : -9223372036854775808 ≤ n) (h1 : n ≤ 9223372036854775807) (w : World) (htab : Lib.TabIs Tryd.prog w "internal/strconv.uint64pow10" .u64 Lib.pow10Tab) :
    Calls Tryd.prog 34 #[.int .i64 n, .int .i64 10] w fun e w' => e = .returned (.string ⟨(Lib.itoa n).toArray⟩) ∧ ∃ k os, w' = grow (w.drewN k) os := Any.strconv_FormatInt_10 laysM173 n h0 h1 w htab
def lays105_ren : Go.Shelf.Ren := ⟨fun | 105 => 53 | 212 => 68 | 99 => 69 | 165 => 70 | 166 => 50 | 170 => 71 | 169 => 51 | 263 => 84 | 264 => 85 | 206 => 86 | 240 => 67 | 241 => 87 | 276 => 83 | 277 => 94 | n => n, fun | 9 => 9 | 3 => 3 | 4 => 4 | 20 => 20 | 0 => 0 | 46 => 73 | 109 => 105 | 5 => 5 | 72 => 84 | 76 => 86 | 51 => 123 | 146 => 124 | 53 => 72 | 148 => 126 | 70 => 82 | 37 => 22 | 75 => 58 | 127 => 104 | 164 => 121 | 80 => 88 | n => n, fun | n => n⟩
theorem lays105 : Go.Proofs.Lays.n105 Tryd.prog lays105_ren := {
  mixed := by kernel_rfl
  f99 := Tryd.func69.trans (congrArg some (by kernel_rfl))
  f105 := Tryd.func53.trans (congrArg some (by kernel_rfl))
  f165 := Tryd.func70.trans (congrArg some (by kernel_rfl))
  f166 := Tryd.func50.trans (congrArg some (by kernel_rfl))
  f169 := Tryd.func51.trans (congrArg some (by kernel_rfl))
  f170 := Tryd.func71.trans (congrArg some (by kernel_rfl))
  f206 := Tryd.func86.trans (congrArg some (by kernel_rfl))
  f212 := Tryd.func68.trans (congrArg some (by kernel_rfl))
  f240 := Tryd.func67.trans (congrArg some (by kernel_rfl))
  f241 := Tryd.func87.trans (congrArg some (by kernel_rfl))
  f263 := Tryd.func84.trans (congrArg some (by kernel_rfl))
  f264 := Tryd.func85.trans (congrArg some (by kernel_rfl))
  f276 := Tryd.func83.trans (congrArg some (by kernel_rfl))
  f277 := Tryd.func94.trans (congrArg some (by kernel_rfl))
  t0 := Tryd.underlying0
  a0 := Tryd.isAgg0
  z0 := Tryd.sizeOf0
  v0 := Tryd.zeroValue0
  t3 := Tryd.underlying3
  a3 := Tryd.isAgg3
  z3 := Tryd.sizeOf3
  v3 := Tryd.zeroValue3
  t4 := Tryd.underlying4
  a4 := Tryd.isAgg4
  z4 := Tryd.sizeOf4
  v4 := Tryd.zeroValue4
  t5 := Tryd.underlying5
  a5 := Tryd.isAgg5
  z5 := Tryd.sizeOf5
  v5 := Tryd.zeroValue5
  t9 := Tryd.underlying9
  a9 := Tryd.isAgg9
  z9 := Tryd.sizeOf9
  v9 := Tryd.zeroValue9
  t20 := Tryd.underlying20
  a20 := Tryd.isAgg20
  z20 := Tryd.sizeOf20
  v20 := Tryd.zeroValue20
  t37 := Tryd.underlying22
  a37 := Tryd.isAgg22
  z37 := Tryd.sizeOf22
  v37 := Tryd.zeroValue22
  t46 := Tryd.underlying73
  a46 := Tryd.isAgg73
  z46 := Tryd.sizeOf73
  v46 := Tryd.zeroValue73
  t51 := Tryd.underlying123
  a51 := Tryd.isAgg123
  z51 := Tryd.sizeOf123
  v51 := Tryd.zeroValue123
  t53 := Tryd.underlying72
  a53 := Tryd.isAgg72
  z53 := Tryd.sizeOf72
  v53 := Tryd.zeroValue72
  t70 := Tryd.underlying82
  a70 := Tryd.isAgg82
  z70 := Tryd.sizeOf82
  v70 := Tryd.zeroValue82
  t72 := Tryd.underlying84
  a72 := Tryd.isAgg84
  z72 := Tryd.sizeOf84
  v72 := Tryd.zeroValue84
  t75 := Tryd.underlying58
  a75 := Tryd.isAgg58
  z75 := Tryd.sizeOf58
  v75 := Tryd.zeroValue58
  t76 := Tryd.underlying86
  a76 := Tryd.isAgg86
  z76 := Tryd.sizeOf86
  v76 := Tryd.zeroValue86
  t109 := Tryd.underlying105
  a109 := Tryd.isAgg105
  z109 := Tryd.sizeOf105
  v109 := Tryd.zeroValue105
  t127 := Tryd.underlying104
  a127 := Tryd.isAgg104
  z127 := Tryd.sizeOf104
  v127 := Tryd.zeroValue104
  t146 := Tryd.underlying124
  a146 := Tryd.isAgg124
  z146 := Tryd.sizeOf124
  v146 := Tryd.zeroValue124
  t148 := Tryd.underlying126
  a148 := Tryd.isAgg126
  z148 := Tryd.sizeOf126
  v148 := Tryd.zeroValue126
  t164 := Tryd.underlying121
  a164 := Tryd.isAgg121
  z164 := Tryd.sizeOf121
  v164 := Tryd.zeroValue121 }
theorem Builder_Extra_105 : Builder.Extra Tryd.prog lays105_ren := {
  sizeBuilder := by kernel_rfl
  liesBuilder := by kernel_rfl
  t5 := Tryd.underlying5
  a5 := Tryd.isAgg5
  z5 := Tryd.sizeOf5
  v5 := Tryd.zeroValue5
  infoByte := by kernel_rfl
  cellsByte := by kernel_rfl
  sizeByte := by kernel_rfl
  neB5 := by decide }
theorem strings_Repeat (s : ByteArray) (c : Nat) (w : World) (hc : c ≤ 9223372036854775807) (hlen : s.size * c ≤ 140737488355328) :
    Calls Tryd.prog 53 #[.string s, .int .i64 c] w fun e w' => e = .returned (.string ⟨(Lib.repeatL s.data.toList c).toArray⟩) ∧ Below w.heap.size w w' := Any.strings_Repeat lays105 Builder_Extra_105 s c w hc hlen
def lays137_ren : Go.Shelf.Ren := ⟨fun | 137 => 44 | 217 => 61 | 266 => 77 | n => n, fun | 9 => 9 | 5 => 5 | 3 => 3 | n => n, fun | n => n⟩
theorem lays137 : Go.Proofs.Lays.n137 Tryd.prog lays137_ren := {
  mixed := by kernel_rfl
  f137 := Tryd.func44.trans (congrArg some (by kernel_rfl))
  f217 := Tryd.func61.trans (congrArg some (by kernel_rfl))
  f266 := Tryd.func77.trans (congrArg some (by kernel_rfl))
  t3 := Tryd.underlying3
  a3 := Tryd.isAgg3
  z3 := Tryd.sizeOf3
  v3 := Tryd.zeroValue3
  t5 := Tryd.underlying5
  a5 := Tryd.isAgg5
  z5 := Tryd.sizeOf5
  v5 := Tryd.zeroValue5
  t9 := Tryd.underlying9
  a9 := Tryd.isAgg9
  z9 := Tryd.sizeOf9
  v9 := Tryd.zeroValue9 }
theorem strings_IndexByte (s : ByteArray) (c : Int) (w : World) :
    Calls Tryd.prog 44 #[.string s, .int .u8 c] w fun e w' => e = .returned (.int .i64 (Lib.indexByte s.data.toList c.toNat.toUInt8)) ∧ w' = w := Any.strings_IndexByte lays137 s c w
def lays169_ren : Go.Shelf.Ren := ⟨fun | 169 => 51 | n => n, fun | 70 => 82 | 9 => 9 | 0 => 0 | 72 => 84 | 37 => 22 | 127 => 104 | 3 => 3 | 5 => 5 | n => n, fun | n => n⟩
theorem lays169 : Go.Proofs.Lays.n169 Tryd.prog lays169_ren := {
  mixed := by kernel_rfl
  f169 := Tryd.func51.trans (congrArg some (by kernel_rfl))
  t0 := Tryd.underlying0
  a0 := Tryd.isAgg0
  z0 := Tryd.sizeOf0
  v0 := Tryd.zeroValue0
  t3 := Tryd.underlying3
  a3 := Tryd.isAgg3
  z3 := Tryd.sizeOf3
  v3 := Tryd.zeroValue3
  t9 := Tryd.underlying9
  a9 := Tryd.isAgg9
  z9 := Tryd.sizeOf9
  v9 := Tryd.zeroValue9
  t37 := Tryd.underlying22
  a37 := Tryd.isAgg22
  z37 := Tryd.sizeOf22
  v37 := Tryd.zeroValue22
  t70 := Tryd.underlying82
  a70 := Tryd.isAgg82
  z70 := Tryd.sizeOf82
  v70 := Tryd.zeroValue82
  t72 := Tryd.underlying84
  a72 := Tryd.isAgg84
  z72 := Tryd.sizeOf84
  v72 := Tryd.zeroValue84
  t127 := Tryd.underlying104
  a127 := Tryd.isAgg104
  z127 := Tryd.sizeOf104
  v127 := Tryd.zeroValue104 }
theorem Builder_Extra_169 : Builder.Extra Tryd.prog lays169_ren := {
  sizeBuilder := by kernel_rfl
  liesBuilder := by kernel_rfl
  t5 := Tryd.underlying5
  a5 := Tryd.isAgg5
  z5 := Tryd.sizeOf5
  v5 := Tryd.zeroValue5
  infoByte := by kernel_rfl
  cellsByte := by kernel_rfl
  sizeByte := by kernel_rfl
  neB5 := by decide }
theorem Builder_String_any_k (B b : Nat) (l : List UInt8) (w : World) (h : Lib.IsBuilderF 84 5 B b (Lib.byteCells l) w) (hBw : B ≤ w.heap.size) :
    Calls Tryd.prog 51 #[.pointer (some ⟨b, 0, none⟩)] w fun e w' => e = .returned (.string ⟨l.toArray⟩) ∧ (Lib.IsBuilderF 84 5 B b (Lib.byteCells l) w' ∧ Below B w w' ∧ Lib.OthersKept 5 (some b) w w') := Any.Builder_String_any_k lays169 Builder_Extra_169 B b l w h hBw
def laysC174_ren : Go.Shelf.Ren := ⟨fun | 174 => 29 | 247 => 46 | 245 => 47 | 287 => 62 | 279 => 63 | 280 => 64 | 281 => 65 | 282 => 66 | 321 => 78 | 322 => 79 | 316 => 80 | 171 => 82 | 205 => 81 | 243 => 93 | 246 => 54 | 283 => 72 | 284 => 73 | 285 => 74 | 286 => 75 | 129 => 89 | 317 => 88 | 318 => 90 | 319 => 91 | 320 => 92 | 337 => 95 | 338 => 96 | n => n, fun | 9 => 9 | 3 => 3 | 2 => 2 | 75 => 58 | 85 => 59 | 4 => 4 | 167 => 98 | 5 => 5 | 53 => 72 | 175 => 99 | 46 => 73 | 168 => 101 | 37 => 22 | 0 => 0 | 210 => 119 | 21 => 21 | 127 => 104 | 145 => 135 | 143 => 133 | 171 => 111 | 173 => 114 | 212 => 130 | 51 => 123 | 20 => 20 | 213 => 131 | 232 => 138 | 233 => 139 | 80 => 88 | n => n, fun | 15 => 1 | 16 => 2 | 17 => 3 | 18 => 4 | 19 => 5 | n => n⟩
theorem laysC174 : Go.Proofs.LaysC.n174 Tryd.prog laysC174_ren := {
  mixed := by kernel_rfl
  f129 := Tryd.func89.trans (congrArg some (by kernel_rfl))
  f171 := Tryd.func82.trans (congrArg some (by kernel_rfl))
  f174 := Tryd.func29.trans (congrArg some (by kernel_rfl))
  f205 := Tryd.func81.trans (congrArg some (by kernel_rfl))
  f243 := Tryd.func93.trans (congrArg some (by kernel_rfl))
  f245 := Tryd.func47.trans (congrArg some (by kernel_rfl))
  f246 := Tryd.func54.trans (congrArg some (by kernel_rfl))
  f247 := Tryd.func46.trans (congrArg some (by kernel_rfl))
  f279 := Tryd.func63.trans (congrArg some (by kernel_rfl))
  f280 := Tryd.func64.trans (congrArg some (by kernel_rfl))
  f281 := Tryd.func65.trans (congrArg some (by kernel_rfl))
  f282 := Tryd.func66.trans (congrArg some (by kernel_rfl))
  f283 := Tryd.func72.trans (congrArg some (by kernel_rfl))
  f284 := Tryd.func73.trans (congrArg some (by kernel_rfl))
  f285 := Tryd.func74.trans (congrArg some (by kernel_rfl))
  f286 := Tryd.func75.trans (congrArg some (by kernel_rfl))
  f287 := Tryd.func62.trans (congrArg some (by kernel_rfl))
  f316 := Tryd.func80.trans (congrArg some (by kernel_rfl))
  f317 := Tryd.func88.trans (congrArg some (by kernel_rfl))
  f318 := Tryd.func90.trans (congrArg some (by kernel_rfl))
  f319 := Tryd.func91.trans (congrArg some (by kernel_rfl))
  f320 := Tryd.func92.trans (congrArg some (by kernel_rfl))
  f321 := Tryd.func78.trans (congrArg some (by kernel_rfl))
  f322 := Tryd.func79.trans (congrArg some (by kernel_rfl))
  f337 := Tryd.func95.trans (congrArg some (by kernel_rfl))
  f338 := Tryd.func96.trans (congrArg some (by kernel_rfl))
  t0 := Tryd.underlying0
  a0 := Tryd.isAgg0
  z0 := Tryd.sizeOf0
  v0 := Tryd.zeroValue0
  t2 := Tryd.underlying2
  a2 := Tryd.isAgg2
  z2 := Tryd.sizeOf2
  v2 := Tryd.zeroValue2
  t3 := Tryd.underlying3
  a3 := Tryd.isAgg3
  z3 := Tryd.sizeOf3
  v3 := Tryd.zeroValue3
  t4 := Tryd.underlying4
  a4 := Tryd.isAgg4
  z4 := Tryd.sizeOf4
  v4 := Tryd.zeroValue4
  t5 := Tryd.underlying5
  a5 := Tryd.isAgg5
  z5 := Tryd.sizeOf5
  v5 := Tryd.zeroValue5
  t9 := Tryd.underlying9
  a9 := Tryd.isAgg9
  z9 := Tryd.sizeOf9
  v9 := Tryd.zeroValue9
  t20 := Tryd.underlying20
  a20 := Tryd.isAgg20
  z20 := Tryd.sizeOf20
  v20 := Tryd.zeroValue20
  t21 := Tryd.underlying21
  a21 := Tryd.isAgg21
  z21 := Tryd.sizeOf21
  v21 := Tryd.zeroValue21
  t37 := Tryd.underlying22
  a37 := Tryd.isAgg22
  z37 := Tryd.sizeOf22
  v37 := Tryd.zeroValue22
  t46 := Tryd.underlying73
  a46 := Tryd.isAgg73
  z46 := Tryd.sizeOf73
  v46 := Tryd.zeroValue73
  t51 := Tryd.underlying123
  a51 := Tryd.isAgg123
  z51 := Tryd.sizeOf123
  v51 := Tryd.zeroValue123
  t53 := Tryd.underlying72
  a53 := Tryd.isAgg72
  z53 := Tryd.sizeOf72
  v53 := Tryd.zeroValue72
  t75 := Tryd.underlying58
  a75 := Tryd.isAgg58
  z75 := Tryd.sizeOf58
  v75 := Tryd.zeroValue58
  t85 := Tryd.underlying59
  a85 := Tryd.isAgg59
  z85 := Tryd.sizeOf59
  v85 := Tryd.zeroValue59
  t127 := Tryd.underlying104
  a127 := Tryd.isAgg104
  z127 := Tryd.sizeOf104
  v127 := Tryd.zeroValue104
  t143 := Tryd.underlying133
  a143 := Tryd.isAgg133
  z143 := Tryd.sizeOf133
  v143 := Tryd.zeroValue133
  t145 := Tryd.underlying135
  a145 := Tryd.isAgg135
  z145 := Tryd.sizeOf135
  v145 := Tryd.zeroValue135
  t167 := Tryd.underlying98
  a167 := Tryd.isAgg98
  z167 := Tryd.sizeOf98
  v167 := Tryd.zeroValue98
  t168 := Tryd.underlying101
  a168 := Tryd.isAgg101
  z168 := Tryd.sizeOf101
  v168 := Tryd.zeroValue101
  t171 := Tryd.underlying111
  a171 := Tryd.isAgg111
  z171 := Tryd.sizeOf111
  v171 := Tryd.zeroValue111
  t173 := Tryd.underlying114
  a173 := Tryd.isAgg114
  z173 := Tryd.sizeOf114
  v173 := Tryd.zeroValue114
  t175 := Tryd.underlying99
  a175 := Tryd.isAgg99
  z175 := Tryd.sizeOf99
  v175 := Tryd.zeroValue99
  t210 := Tryd.underlying119
  a210 := Tryd.isAgg119
  z210 := Tryd.sizeOf119
  v210 := Tryd.zeroValue119
  t212 := Tryd.underlying130
  a212 := Tryd.isAgg130
  z212 := Tryd.sizeOf130
  v212 := Tryd.zeroValue130
  t213 := Tryd.underlying131
  a213 := Tryd.isAgg131
  z213 := Tryd.sizeOf131
  t232 := Tryd.underlying138
  a232 := Tryd.isAgg138
  z232 := Tryd.sizeOf138
  v232 := Tryd.zeroValue138
  t233 := Tryd.underlying139
  a233 := Tryd.isAgg139
  z233 := Tryd.sizeOf139
  v233 := Tryd.zeroValue139
  g15 := by kernel_rfl
  g16 := by kernel_rfl
  g17 := by kernel_rfl
  g18 := by kernel_rfl
  g19 := by kernel_rfl
  t80 := Tryd.underlying88
  a80 := Tryd.isAgg88
  z80 := Tryd.sizeOf88
  v80 := Tryd.zeroValue88
  i0 := by kernel_rfl
  i2 := by kernel_rfl
  i3 := by kernel_rfl
  i4 := by kernel_rfl
  i5 := by kernel_rfl
  i9 := by kernel_rfl
  i20 := by kernel_rfl
  i21 := by kernel_rfl
  i37 := by kernel_rfl
  i46 := by kernel_rfl
  i51 := by kernel_rfl
  i53 := by kernel_rfl
  i75 := by kernel_rfl
  i80 := by kernel_rfl
  i85 := by kernel_rfl
  i127 := by kernel_rfl
  i143 := by kernel_rfl
  i145 := by kernel_rfl
  i167 := by kernel_rfl
  i168 := by kernel_rfl
  i171 := by kernel_rfl
  i173 := by kernel_rfl
  i175 := by kernel_rfl
  i210 := by kernel_rfl
  i212 := by kernel_rfl
  i232 := by kernel_rfl
  i233 := by kernel_rfl
  m15 := by kernel_rfl
  m16 := by kernel_rfl
  m17 := by kernel_rfl
  m18 := by kernel_rfl
  m19 := by kernel_rfl
  c0 := by kernel_rfl
  c2 := by kernel_rfl
  c3 := by kernel_rfl
  c4 := by kernel_rfl
  c5 := by kernel_rfl
  c9 := by kernel_rfl
  c20 := by kernel_rfl
  c21 := by kernel_rfl
  c37 := by kernel_rfl
  c46 := by kernel_rfl
  c51 := by kernel_rfl
  c53 := by kernel_rfl
  c75 := by kernel_rfl
  c80 := by kernel_rfl
  c85 := by kernel_rfl
  c127 := by kernel_rfl
  c143 := by kernel_rfl
  c145 := by kernel_rfl
  c167 := by kernel_rfl
  c168 := by kernel_rfl
  c171 := by kernel_rfl
  c173 := by kernel_rfl
  c175 := by kernel_rfl
  c210 := by kernel_rfl
  c212 := by kernel_rfl
  c213 := by kernel_rfl
  c232 := by kernel_rfl
  c233 := by kernel_rfl }
theorem strconv_ParseInt_10_at64_ok (s : ByteArray) (hmax : s.size ≤ 9223372036854775806) (v : Int) (h : Lib.parseIntB 64 s.data.toList = .ok v) (w : World) :
    Calls Tryd.prog 29 #[.string s, .int .i64 10, .int .i64 64] w fun e w' => e = .returned (.tuple #[.int .i64 v, .nilIface]) ∧ (w' = w ∨ ∃ t, w' = Lib.bytesWorld w 5 t) := Any.strconv_ParseInt_10_at64_ok laysC174 s hmax v h w
theorem strconv_ParseInt_10_at64_syn_var (s : ByteArray) (hlim : s.size ≤ 281474976710656) (h : Lib.parseIntB 64 s.data.toList = Lib.parseIntB 64 []) (tp : TypeId) (p : Value) (w : World) (hvar : w.var? Tryd.prog "strconv.ErrSyntax" = some #[.iface tp p]) :
    Calls Tryd.prog 29 #[.string s, .int .i64 10, .int .i64 64] w fun e w' => ∃ N, e = .returned (.tuple #[.int .i64 (0), .iface 101 (.pointer (some ⟨N, 0, none⟩))]) ∧ w.heap.size ≤ N ∧ w'.heap[N]? = some (.cells #[.string ⟨#[80, 97, 114, 115, 101, 73, 110, 116]⟩, .string s, .iface tp p] 119 (0, 0)) ∧ Below w.heap.size w w' := Any.strconv_ParseInt_10_at64_syntax_var laysC174 s hlim h tp p w hvar
theorem strconv_ParseInt_10_at64_range_var (s : ByteArray) (hlim : s.size ≤ 281474976710656) (h : Lib.parseIntB 64 s.data.toList = .range) (tp : TypeId) (p : Value) (w : World) (hvar : w.var? Tryd.prog "strconv.ErrRange" = some #[.iface tp p]) :
    Calls Tryd.prog 29 #[.string s, .int .i64 10, .int .i64 64] w fun e w' => ∃ N, e = .returned (.tuple #[.int .i64 (Lib.intSat 64 s.data.toList), .iface 101 (.pointer (some ⟨N, 0, none⟩))]) ∧ w.heap.size ≤ N ∧ w'.heap[N]? = some (.cells #[.string ⟨#[80, 97, 114, 115, 101, 73, 110, 116]⟩, .string s, .iface tp p] 119 (0, 0)) ∧ Below w.heap.size w w' := Any.strconv_ParseInt_10_at64_range_var laysC174 s hlim h tp p w hvar
theorem strconv_ParseInt_10_at32_ok (s : ByteArray) (hmax : s.size ≤ 9223372036854775806) (v : Int) (h : Lib.parseIntB 32 s.data.toList = .ok v) (w : World) :
    Calls Tryd.prog 29 #[.string s, .int .i64 10, .int .i64 32] w fun e w' => e = .returned (.tuple #[.int .i64 v, .nilIface]) ∧ (w' = w ∨ ∃ t, w' = Lib.bytesWorld w 5 t) := Any.strconv_ParseInt_10_at32_ok laysC174 s hmax v h w
theorem strconv_ParseInt_10_at32_syn_var (s : ByteArray) (hlim : s.size ≤ 281474976710656) (h : Lib.parseIntB 32 s.data.toList = Lib.parseIntB 32 []) (tp : TypeId) (p : Value) (w : World) (hvar : w.var? Tryd.prog "strconv.ErrSyntax" = some #[.iface tp p]) :
    Calls Tryd.prog 29 #[.string s, .int .i64 10, .int .i64 32] w fun e w' => ∃ N, e = .returned (.tuple #[.int .i64 (0), .iface 101 (.pointer (some ⟨N, 0, none⟩))]) ∧ w.heap.size ≤ N ∧ w'.heap[N]? = some (.cells #[.string ⟨#[80, 97, 114, 115, 101, 73, 110, 116]⟩, .string s, .iface tp p] 119 (0, 0)) ∧ Below w.heap.size w w' := Any.strconv_ParseInt_10_at32_syntax_var laysC174 s hlim h tp p w hvar
theorem strconv_ParseInt_10_at32_range_var (s : ByteArray) (hlim : s.size ≤ 281474976710656) (h : Lib.parseIntB 32 s.data.toList = .range) (tp : TypeId) (p : Value) (w : World) (hvar : w.var? Tryd.prog "strconv.ErrRange" = some #[.iface tp p]) :
    Calls Tryd.prog 29 #[.string s, .int .i64 10, .int .i64 32] w fun e w' => ∃ N, e = .returned (.tuple #[.int .i64 (Lib.intSat 32 s.data.toList), .iface 101 (.pointer (some ⟨N, 0, none⟩))]) ∧ w.heap.size ≤ N ∧ w'.heap[N]? = some (.cells #[.string ⟨#[80, 97, 114, 115, 101, 73, 110, 116]⟩, .string s, .iface tp p] 119 (0, 0)) ∧ Below w.heap.size w w' := Any.strconv_ParseInt_10_at32_range_var laysC174 s hlim h tp p w hvar
def builder_ren : Go.Shelf.Ren := ⟨fun | 240 => 67 | 276 => 83 | 167 => 49 | 166 => 50 | n => n, fun | 70 => 82 | 72 => 84 | 37 => 22 | 164 => 121 | 75 => 58 | 80 => 88 | 5 => 5 | 9 => 9 | 20 => 20 | 4 => 4 | 3 => 3 | 0 => 0 | n => n, fun | n => n⟩
theorem builder_lays167 : Go.Proofs.Lays.n167 Tryd.prog builder_ren := {
  mixed := by kernel_rfl
  f167 := Tryd.func49.trans (congrArg some (by kernel_rfl))
  f240 := Tryd.func67.trans (congrArg some (by kernel_rfl))
  f276 := Tryd.func83.trans (congrArg some (by kernel_rfl))
  t0 := Tryd.underlying0
  a0 := Tryd.isAgg0
  z0 := Tryd.sizeOf0
  v0 := Tryd.zeroValue0
  t4 := Tryd.underlying4
  a4 := Tryd.isAgg4
  z4 := Tryd.sizeOf4
  v4 := Tryd.zeroValue4
  t5 := Tryd.underlying5
  a5 := Tryd.isAgg5
  z5 := Tryd.sizeOf5
  v5 := Tryd.zeroValue5
  t9 := Tryd.underlying9
  a9 := Tryd.isAgg9
  z9 := Tryd.sizeOf9
  v9 := Tryd.zeroValue9
  t20 := Tryd.underlying20
  a20 := Tryd.isAgg20
  z20 := Tryd.sizeOf20
  v20 := Tryd.zeroValue20
  t37 := Tryd.underlying22
  a37 := Tryd.isAgg22
  z37 := Tryd.sizeOf22
  v37 := Tryd.zeroValue22
  t70 := Tryd.underlying82
  a70 := Tryd.isAgg82
  z70 := Tryd.sizeOf82
  v70 := Tryd.zeroValue82
  t72 := Tryd.underlying84
  a72 := Tryd.isAgg84
  z72 := Tryd.sizeOf84
  v72 := Tryd.zeroValue84
  t75 := Tryd.underlying58
  a75 := Tryd.isAgg58
  z75 := Tryd.sizeOf58
  v75 := Tryd.zeroValue58
  t164 := Tryd.underlying121
  a164 := Tryd.isAgg121
  z164 := Tryd.sizeOf121
  v164 := Tryd.zeroValue121 }
theorem builder_lays166 : Go.Proofs.Lays.n166 Tryd.prog builder_ren := {
  mixed := by kernel_rfl
  f166 := Tryd.func50.trans (congrArg some (by kernel_rfl))
  f240 := Tryd.func67.trans (congrArg some (by kernel_rfl))
  f276 := Tryd.func83.trans (congrArg some (by kernel_rfl))
  t0 := Tryd.underlying0
  a0 := Tryd.isAgg0
  z0 := Tryd.sizeOf0
  v0 := Tryd.zeroValue0
  t3 := Tryd.underlying3
  a3 := Tryd.isAgg3
  z3 := Tryd.sizeOf3
  v3 := Tryd.zeroValue3
  t4 := Tryd.underlying4
  a4 := Tryd.isAgg4
  z4 := Tryd.sizeOf4
  v4 := Tryd.zeroValue4
  t9 := Tryd.underlying9
  a9 := Tryd.isAgg9
  z9 := Tryd.sizeOf9
  v9 := Tryd.zeroValue9
  t20 := Tryd.underlying20
  a20 := Tryd.isAgg20
  z20 := Tryd.sizeOf20
  v20 := Tryd.zeroValue20
  t37 := Tryd.underlying22
  a37 := Tryd.isAgg22
  z37 := Tryd.sizeOf22
  v37 := Tryd.zeroValue22
  t70 := Tryd.underlying82
  a70 := Tryd.isAgg82
  z70 := Tryd.sizeOf82
  v70 := Tryd.zeroValue82
  t72 := Tryd.underlying84
  a72 := Tryd.isAgg84
  z72 := Tryd.sizeOf84
  v72 := Tryd.zeroValue84
  t75 := Tryd.underlying58
  a75 := Tryd.isAgg58
  z75 := Tryd.sizeOf58
  v75 := Tryd.zeroValue58
  t164 := Tryd.underlying121
  a164 := Tryd.isAgg121
  z164 := Tryd.sizeOf121
  v164 := Tryd.zeroValue121 }
theorem builder_extra : Builder.Extra Tryd.prog builder_ren := {
  sizeBuilder := by kernel_rfl
  liesBuilder := by kernel_rfl
  t5 := Tryd.underlying5
  a5 := Tryd.isAgg5
  z5 := Tryd.sizeOf5
  v5 := Tryd.zeroValue5
  infoByte := by kernel_rfl
  cellsByte := by kernel_rfl
  sizeByte := by kernel_rfl
  neB5 := by decide }
theorem Builder_WriteByte_k (B b : Nat) (bs : List Value) (c : Int) (w : World) (h : Lib.IsBuilderF 84 5 B b bs w) (hlen : bs.length + 1 ≤ 140737488355328) (hBw : B ≤ w.heap.size) :
    Calls Tryd.prog 49 #[.pointer (some ⟨b, 0, none⟩), .int .u8 c] w fun e w' => e = .returned .nilIface ∧ (Lib.BuilderAtF 84 5 B b (.pointer (some ⟨b, 0, none⟩)) (bs ++ [.int .u8 c]) w' ∧ Below B w w' ∧ Lib.OthersKept 5 (some b) w w') := Any.Builder_WriteByte_k builder_lays167 builder_extra B b bs c w h hlen hBw
theorem Builder_WriteString_k (B b : Nat) (bs : List Value) (s : ByteArray) (w : World) (h : Lib.IsBuilderF 84 5 B b bs w) (hlen : bs.length + s.size ≤ 140737488355328) (hBw : B ≤ w.heap.size) :
    Calls Tryd.prog 50 #[.pointer (some ⟨b, 0, none⟩), .string s] w fun e w' => e = .returned (.tuple #[.int .i64 s.size, .nilIface]) ∧ (Lib.BuilderAtF 84 5 B b (.pointer (some ⟨b, 0, none⟩)) (bs ++ Lib.strCells s) w' ∧ Below B w w' ∧ Lib.OthersKept 5 (some b) w w') := Any.Builder_WriteString_k builder_lays166 builder_extra B b bs s w h hlen hBw
end
theorem var_below {P : Program} {w w1 : World} {name : String} {cs : Array Value} (h : w.var? P name = some cs) (hb : Below w.heap.size w w1) : w1.var? P name = some cs := by
  unfold World.var? at *
  cases hg : P.globalNamed name with
  | none => simp [hg] at h
  | some g =>
    simp only [hg, Option.bind_some] at h ⊢
    have hlt : g < w.heap.size := by
      rcases Nat.lt_or_ge g w.heap.size with h' | h'
      · exact h'
      · rw [Array.getElem?_eq_none h'] at h; simp at h
    rw [hb.block g hlt]
    exact h
structure Glob (w : World) : Prop where
  tab : Lib.TabIs Tryd.prog w "internal/strconv.uint64pow10" .u64 Lib.pow10Tab
  syn : ∃ tp p, w.var? Tryd.prog "strconv.ErrSyntax" = some #[.iface tp p]
  rng : ∃ tp p, w.var? Tryd.prog "strconv.ErrRange" = some #[.iface tp p]
theorem Glob.at {w w1 : World} (h : Glob w) (hb : Below w.heap.size w w1) : Glob w1 :=
  ⟨var_below h.tab hb, let ⟨tp, p, e⟩ := h.syn; ⟨tp, p, var_below e hb⟩, let ⟨tp, p, e⟩ := h.rng; ⟨tp, p, var_below e hb⟩⟩
def strconv_FormatInt_34.f (a0 a1 : Int) : Option ByteArray := if a1 = 10 ∧ -9223372036854775808 ≤ a0 ∧ a0 ≤ 9223372036854775807 then some ⟨(Lib.itoa a0).toArray⟩ else none
theorem strconv_FormatInt_34.calls (a0 : Int) (a1 : Int) (r : ByteArray) (w : World) (hG : Glob w) (h : strconv_FormatInt_34.f a0 a1 = some r) :
    Calls Tryd.prog 34 #[.int .i64 a0, .int .i64 a1] w fun e w' => e = .returned (.string r) ∧ Below w.heap.size w w' := by
  unfold strconv_FormatInt_34.f at h
  split at h
  · rename_i hc
    obtain ⟨rfl, h0, h1⟩ := hc
    obtain rfl := Option.some.inj h
    exact (strconv_FormatInt_10 a0 h0 h1 w hG.tab).mono fun e w' ⟨he, k, os, hw⟩ => ⟨he, by rw [hw]; exact Lib.below_grow _ _ (Nat.le_refl _) _ _⟩
  · exact absurd h (by simp)
def strings_Repeat.f (a0 : ByteArray) (a1 : Int) : Option ByteArray := if 0 ≤ a1 ∧ a1 ≤ 1000000 ∧ a0.size ≤ 1000000 then some ⟨(Lib.repeatL a0.data.toList a1.toNat).toArray⟩ else none
theorem strings_Repeat.calls (a0 : ByteArray) (a1 : Int) (r : ByteArray) (w : World) (h : strings_Repeat.f a0 a1 = some r) :
    Calls Tryd.prog 53 #[.string a0, .int .i64 a1] w fun e w' => e = .returned (.string r) ∧ Below w.heap.size w w' := by
  unfold strings_Repeat.f at h
  split at h
  · rename_i hc
    obtain ⟨h0, h1, h2⟩ := hc
    obtain ⟨n, rfl⟩ := Int.eq_ofNat_of_zero_le h0
    obtain rfl := Option.some.inj h
    have hm : a0.size * n ≤ 1000000 * 1000000 := Nat.mul_le_mul h2 (by omega)
    exact strings_Repeat a0 n w (by omega) (by omega)
  · exact absurd h (by simp)
def strings_IndexByte.f (a0 : ByteArray) (a1 : Int) : Option Int := some (Lib.indexByte a0.data.toList a1.toNat.toUInt8)
theorem strings_IndexByte.calls (a0 : ByteArray) (a1 : Int) (r : Int) (w : World) (h : strings_IndexByte.f a0 a1 = some r) :
    Calls Tryd.prog 44 #[.string a0, .int .u8 a1] w fun e w' => e = .returned (.int .i64 r) ∧ Drawn0 w w' := by
  obtain rfl := Option.some.inj h
  exact (strings_IndexByte a0 a1 w).mono fun e w' ⟨he, hw⟩ => ⟨he, by rw [hw]; exact Drawn0.refl _⟩
def NilIs (ev : Value) (b : Bool) : Prop := (b = true ∧ ev = .nilIface) ∨ (b = false ∧ ∃ t p, ev = .iface t (.pointer p))
def pInt (B : Nat) (s : ByteArray) : Int × Bool :=
  match Lib.parseIntB B s.data.toList with
  | .ok v => (v, true)
  | .range => (Lib.intSat B s.data.toList, false)
  | _ => (0, false)
theorem below_or {w w' : World} (h : w' = w ∨ ∃ t, w' = Lib.bytesWorld w 5 t) : Below w.heap.size w w' := by
  rcases h with rfl | ⟨t, rfl⟩
  · exact Below.refl _ _
  · exact Lib.bytesWorld_below _ _ _
theorem parse_int (B : Int) (hB : B = 32 ∨ B = 64) (s : ByteArray) (hs : s.size ≤ 281474976710656) (w : World) (hG : Glob w) :
    Calls Tryd.prog 29 #[.string s, .int .i64 10, .int .i64 B] w fun e w' => ∃ ev, e = .returned (.tuple #[.int .i64 (pInt B.toNat s).1, ev]) ∧ NilIs ev (pInt B.toNat s).2 ∧ Below w.heap.size w w' := by
  obtain ⟨t1, p1, e1⟩ := hG.syn
  obtain ⟨t2, p2, e2⟩ := hG.rng
  rcases hB with rfl | rfl
  · show Calls _ _ _ _ fun e w' => ∃ ev, e = .returned (.tuple #[.int .i64 (pInt 32 s).1, ev]) ∧ NilIs ev (pInt 32 s).2 ∧ Below w.heap.size w w'
    unfold pInt
    cases h : Lib.parseIntB 32 s.data.toList with
    | ok v => exact (strconv_ParseInt_10_at32_ok s (by omega) v h w).mono fun e w' ⟨he, hw⟩ => ⟨_, he, .inl ⟨rfl, rfl⟩, below_or hw⟩
    | range => exact (strconv_ParseInt_10_at32_range_var s hs h t2 p2 w e2).mono fun e w' ⟨N, he, _, _, hw⟩ => ⟨_, he, .inr ⟨rfl, _, _, rfl⟩, hw⟩
    | _ => exact (strconv_ParseInt_10_at32_syn_var s hs h t1 p1 w e1).mono fun e w' ⟨N, he, _, _, hw⟩ => ⟨_, he, .inr ⟨rfl, _, _, rfl⟩, hw⟩
  · show Calls _ _ _ _ fun e w' => ∃ ev, e = .returned (.tuple #[.int .i64 (pInt 64 s).1, ev]) ∧ NilIs ev (pInt 64 s).2 ∧ Below w.heap.size w w'
    unfold pInt
    cases h : Lib.parseIntB 64 s.data.toList with
    | ok v => exact (strconv_ParseInt_10_at64_ok s (by omega) v h w).mono fun e w' ⟨he, hw⟩ => ⟨_, he, .inl ⟨rfl, rfl⟩, below_or hw⟩
    | range => exact (strconv_ParseInt_10_at64_range_var s hs h t2 p2 w e2).mono fun e w' ⟨N, he, _, _, hw⟩ => ⟨_, he, .inr ⟨rfl, _, _, rfl⟩, hw⟩
    | _ => exact (strconv_ParseInt_10_at64_syn_var s hs h t1 p1 w e1).mono fun e w' ⟨N, he, _, _, hw⟩ => ⟨_, he, .inr ⟨rfl, _, _, rfl⟩, hw⟩
end
end Go.Proofs.YtlcibkbpppijdaaDoor.X
namespace Go.Proofs.YtlcibkbpppijdaaDoor.X
section
open Go.ChangeShapes Go.WideShapes Go.ChangeAt Go.RowKit
set_option linter.unusedVariables false
abbrev laid5 : List (String × DataW Unit) := [("math/bits.deBruijn32tab", Rows.laid_math_bits_deBruijn32tab), ("math/bits.deBruijn64tab", Rows.laid_math_bits_deBruijn64tab), ("internal/strconv.uint64pow10", Rows.laid_internal_strconv_uint64pow10), ("strconv.ErrRange", Rows.laid_strconv_ErrRange), ("strconv.ErrSyntax", Rows.laid_strconv_ErrSyntax)]
theorem errS_star : "*" ++ "errors.errorString" = "*errors.errorString" := by decide
theorem errS_row (u : TypeId) (h : Tryd.prog.typeName? 3 u = some "*errors.errorString") : u = 133 :=
  typeName_ptr_named (nm := "errors.errorString") (by rw [errS_star]; kernel_rfl) (by kernel_rfl) (by decide) u (by rw [errS_star]; exact h)
theorem glob_of_laid {w : World} (h : laidMetH Tryd.prog laid5 w) : Glob w := by
  rw [MakeChecks.laidMetH_plain _ _ _ (by kernel_rfl)] at h
  have h2 := h.tail.tail
  obtain ⟨a0, s0, hv0, -, -, -⟩ := laid_sentinel h2.tail (g := 2) (by kernel_rfl) (by kernel_rfl) Tryd.underlying58 errS_row Tryd.underlying133 Tryd.underlying135 rfl rfl Tryd.underlying9 (by kernel_rfl) (by kernel_rfl)
  obtain ⟨a1, s1, hv1, -, -, -⟩ := laid_sentinel h2.tail.tail (g := 1) (by kernel_rfl) (by kernel_rfl) Tryd.underlying58 errS_row Tryd.underlying133 Tryd.underlying135 rfl rfl Tryd.underlying9 (by kernel_rfl) (by kernel_rfl)
  exact ⟨Lib.tabIs_of_head (g := 3) (k := .u64) (zs := Lib.pow10Tab) (by kernel_rfl) (by kernel_rfl) Tryd.underlying130 Tryd.underlying72 (by kernel_rfl) (by kernel_rfl) h2, ⟨_, _, hv1⟩, ⟨_, _, hv0⟩⟩
theorem door_met (os : Os) (args : Array Value) : laidMetH Tryd.prog laid5 ((World.doorLaid Tryd.prog 62 os).forCall (fun _ _ => 0) ⟨#[], args, []⟩).memory :=
  laidMetH_of_parts3 (fuel := 8) (laidMet_of_run' 8 (by kernel_rfl) (by kernel_rfl)) (by kernel_rfl) (by kernel_rfl)
end
end Go.Proofs.YtlcibkbpppijdaaDoor.X
namespace Go.Proofs.YtlcibkbpppijdaaDoor.X
section
open Go.RowKit Go.Proofs.YtlcibkbpppijdaaDoorW.PrintWords Go.Proofs.YtlcibkbpppijdaaDoorW.PrintLast Go.Proofs.YtlcibkbpppijdaaDoorW.PrintMore
attribute [local go_sem] max2_int min2_int max_two min_two max_three min_three max_four min_four   -- for this text's walks alone
set_option linter.unusedVariables false
set_option linter.unusedSimpArgs false
theorem eqA25 (d : Nat) (w : World) (x0 y0 : Bool) (x1 y1 : Int) (x2 y2 : ByteArray) :
  (Op.equalIn (d + 2) 25 (.agg #[.bool x0, .int .i64 x1, .string x2]) (.agg #[.bool y0, .int .i64 y1, .string y2])).run Tryd.prog w = .ok (x0 == y0 && (x1 == y1 && (x2.toList == y2.toList))) w := by
 refine eqA_of Tryd.underlying25 (by kernel_rfl) ?_
 refine eqf_cons (by rfl) (by go_simp; rfl) (by go_simp; rfl) (by go_simp) ?_
 refine eqf_cons (by rfl) (by go_simp; rfl) (by go_simp; rfl) (by go_simp) ?_
 exact eqf_last (by rfl) (by go_simp; rfl) (by go_simp; rfl) (by go_simp)
def fenlandlaw05_null.f  : Option (Bool × Int × ByteArray) := some (true, 0, (⟨#[]⟩ : ByteArray))
set_option maxHeartbeats 8000000 in
set_option maxRecDepth 100000 in
theorem fenlandlaw05_null.calls  (r1 : Bool) (r2 : Int) (r3 : ByteArray) (w : World) (h : fenlandlaw05_null.f  = some (r1, r2, r3)) :
  Calls Tryd.prog 20 #[] w fun e w' => e = .returned (.agg #[.bool r1, .int .i64 r2, .string r3]) ∧ Below w.heap.size w w' := by
 have hu25 := Tryd.underlying25
 have HB := Aside0.mk (Below.refl w.heap.size w)
 have H : (some (true, 0, (⟨#[]⟩ : ByteArray))) = some (r1, r2, r3) := h
 clear h
 simp only [Option.some.injEq, Prod.mk.injEq] at H
 obtain ⟨rfl, rfl, rfl⟩ := H
 go_enter Tryd.func20, Tryd.ntmps20
 go_wp2_with (first | ((with_reducible refine gate_dst (N := 0) rfl ?_); refine box_event ?hg (N := 0) ?hd (cs := #[.bool false, .int .i64 0, .string (⟨#[]⟩ : ByteArray)]) (t := 25) ?hr ?_; (case hd => rfl); (case hg => rfl); (case hr => first | (go_simp; done) | (go_simp; rfl)); intro gb101 hg w1 hbox hb; have n0_ := Aside0.mk (below_step (xW HB.out) hb); have n1_ := Aside0.mk (hbox); have n3_ := Aside0.mk ((by rw [hg]; exact (below_size (xW HB.out)) : w.heap.size ≤ gb101)); clear HB; revert n0_ n1_ n3_; intro HB BK101 GE101; clear hb hbox hg; have hcz2_0 : w1.cell? ⟨gb101, 0, none⟩ = some (.bool false) := (blk_cell BK101.out 0).trans rfl; have hcz2_1 : w1.cell? ⟨gb101, 1, none⟩ = some (.int .i64 0) := (blk_cell BK101.out 1).trans rfl; have hcz2_2 : w1.cell? ⟨gb101, 2, none⟩ = some (.string (⟨#[]⟩ : ByteArray)) := (blk_cell BK101.out 2).trans rfl; have hfz2_0 := blk_frozen BK101.out 0; have hfz2_1 := blk_frozen BK101.out 1; have hfz2_2 := blk_frozen BK101.out 2))
 refine bodyPost_ret (results_cell_row rfl _ _ gb101 25 #[.bool true, .int .i64 0, .string (⟨#[]⟩ : ByteArray)] (0, 0) _ rfl (xP BK101.out g0 rfl) Tryd.underlying25 rfl (by kernel_rfl)) rfl ?_
 exact ⟨by first | rfl | simp [*], by repeat (first | (with_reducible first | exact HB.out | apply below_alloc | apply pw_below_drewN | apply below_drew1 | refine below_set ?_ GE101.out) | exact HB.out)⟩
def fenlandlaw05_num.f (a0 : Int) : Option (Bool × Int × ByteArray) := some (false, a0, (⟨#[]⟩ : ByteArray))
set_option maxHeartbeats 8000000 in
set_option maxRecDepth 100000 in
theorem fenlandlaw05_num.calls (a0 : Int) (r1 : Bool) (r2 : Int) (r3 : ByteArray) (w : World) (h : fenlandlaw05_num.f a0 = some (r1, r2, r3)) :
  Calls Tryd.prog 16 #[.int .i64 a0] w fun e w' => e = .returned (.agg #[.bool r1, .int .i64 r2, .string r3]) ∧ Below w.heap.size w w' := by
 have hu25 := Tryd.underlying25
 have HB := Aside0.mk (Below.refl w.heap.size w)
 have H : (some (false, a0, (⟨#[]⟩ : ByteArray))) = some (r1, r2, r3) := h
 clear h
 simp only [Option.some.injEq, Prod.mk.injEq] at H
 obtain ⟨rfl, rfl, rfl⟩ := H
 go_enter Tryd.func16, Tryd.ntmps16
 go_wp2_with (first | ((with_reducible refine gate_dst (N := 2) rfl ?_); refine box_event ?hg (N := 2) ?hd (cs := #[.bool false, .int .i64 0, .string (⟨#[]⟩ : ByteArray)]) (t := 25) ?hr ?_; (case hd => rfl); (case hg => rfl); (case hr => first | (go_simp; done) | (go_simp; rfl)); intro gb101 hg w2 hbox hb; have n0_ := Aside0.mk (below_step (xW HB.out) hb); have n1_ := Aside0.mk (hbox); have n3_ := Aside0.mk ((by rw [hg]; exact (below_size (xW HB.out)) : w.heap.size ≤ gb101)); clear HB; revert n0_ n1_ n3_; intro HB BK101 GE101; clear hb hbox hg; have hcz3_0 : w2.cell? ⟨gb101, 0, none⟩ = some (.bool false) := (blk_cell BK101.out 0).trans rfl; have hcz3_1 : w2.cell? ⟨gb101, 1, none⟩ = some (.int .i64 0) := (blk_cell BK101.out 1).trans rfl; have hcz3_2 : w2.cell? ⟨gb101, 2, none⟩ = some (.string (⟨#[]⟩ : ByteArray)) := (blk_cell BK101.out 2).trans rfl; have hfz3_0 := blk_frozen BK101.out 0; have hfz3_1 := blk_frozen BK101.out 1; have hfz3_2 := blk_frozen BK101.out 2))
 refine bodyPost_ret (results_cell_row rfl _ _ gb101 25 #[.bool false, .int .i64 a0, .string (⟨#[]⟩ : ByteArray)] (0, 0) _ rfl (xP BK101.out g0 rfl) Tryd.underlying25 rfl (by kernel_rfl)) rfl ?_
 exact ⟨by first | rfl | simp [*], by repeat (first | (with_reducible first | exact HB.out | apply below_alloc | apply pw_below_drewN | apply below_drew1 | refine below_set ?_ GE101.out) | exact HB.out)⟩
def fenlandlaw05_text.f (a0 : ByteArray) : Option (Bool × Int × ByteArray) := some (false, 0, a0)
set_option maxHeartbeats 8000000 in
set_option maxRecDepth 100000 in
theorem fenlandlaw05_text.calls (a0 : ByteArray) (r1 : Bool) (r2 : Int) (r3 : ByteArray) (w : World) (h : fenlandlaw05_text.f a0 = some (r1, r2, r3)) :
  Calls Tryd.prog 21 #[.string a0] w fun e w' => e = .returned (.agg #[.bool r1, .int .i64 r2, .string r3]) ∧ Below w.heap.size w w' := by
 have hu25 := Tryd.underlying25
 have HB := Aside0.mk (Below.refl w.heap.size w)
 have H : (some (false, 0, a0)) = some (r1, r2, r3) := h
 clear h
 simp only [Option.some.injEq, Prod.mk.injEq] at H
 obtain ⟨rfl, rfl, rfl⟩ := H
 go_enter Tryd.func21, Tryd.ntmps21
 go_wp2_with (first | ((with_reducible refine gate_dst (N := 2) rfl ?_); refine box_event ?hg (N := 2) ?hd (cs := #[.bool false, .int .i64 0, .string (⟨#[]⟩ : ByteArray)]) (t := 25) ?hr ?_; (case hd => rfl); (case hg => rfl); (case hr => first | (go_simp; done) | (go_simp; rfl)); intro gb101 hg w2 hbox hb; have n0_ := Aside0.mk (below_step (xW HB.out) hb); have n1_ := Aside0.mk (hbox); have n3_ := Aside0.mk ((by rw [hg]; exact (below_size (xW HB.out)) : w.heap.size ≤ gb101)); clear HB; revert n0_ n1_ n3_; intro HB BK101 GE101; clear hb hbox hg; have hcz3_0 : w2.cell? ⟨gb101, 0, none⟩ = some (.bool false) := (blk_cell BK101.out 0).trans rfl; have hcz3_1 : w2.cell? ⟨gb101, 1, none⟩ = some (.int .i64 0) := (blk_cell BK101.out 1).trans rfl; have hcz3_2 : w2.cell? ⟨gb101, 2, none⟩ = some (.string (⟨#[]⟩ : ByteArray)) := (blk_cell BK101.out 2).trans rfl; have hfz3_0 := blk_frozen BK101.out 0; have hfz3_1 := blk_frozen BK101.out 1; have hfz3_2 := blk_frozen BK101.out 2))
 refine bodyPost_ret (results_cell_row rfl _ _ gb101 25 #[.bool false, .int .i64 0, .string a0] (0, 0) _ rfl (xP BK101.out g0 rfl) Tryd.underlying25 rfl (by kernel_rfl)) rfl ?_
 exact ⟨by first | rfl | simp [*], by repeat (first | (with_reducible first | exact HB.out | apply below_alloc | apply pw_below_drewN | apply below_drew1 | refine below_set ?_ GE101.out) | exact HB.out)⟩
def fenlandref01_Same.l0 : Nat → List Int → List Int → Int → Option (Bool)
 | 0, _, _, _ => none
 | k + 1, x0, x1, x5 => if x5 < (x0.length : Int) then (if 0 ≤ x5 then (if x5 < (x1.length : Int) then (if (rd x0 x5) = (rd x1 x5) then (fenlandref01_Same.l0 k x0 x1 (wrap64 (x5 + 1))) else (some false)) else (none)) else (none)) else (some true)
def fenlandref01_Same.f (k : Nat) (l0 : List Int) (l1 : List Int) : Option (Bool) := if (l0.length : Int) = (l1.length : Int) then (fenlandref01_Same.l0 k l0 l1 0) else (some false)
set_option maxHeartbeats 8000000 in
set_option maxRecDepth 100000 in
theorem fenlandref01_Same.calls (k : Nat) (A0 : Option Addr) (c0 : Nat) (l0 : List Int) (A1 : Option Addr) (c1 : Nat) (l1 : List Int) (r : Bool) (w : World) (hr0 : Kd.C (Kd.int .u8) w A0 l0.length l0) (hc0 : l0.length ≤ c0) (hr1 : Kd.C (Kd.int .u8) w A1 l1.length l1) (hc1 : l1.length ≤ c1) (h : fenlandref01_Same.f k l0 l1 = some r) :
  Calls Tryd.prog 15 #[.slice A0 l0.length c0, .slice A1 l1.length c1] w fun e w' => e = .returned (.bool r) ∧ Drawn0 w w' := by
 have HR0 := Aside0.mk hr0
 have HC0 := Aside0.mk hc0
 clear hr0 hc0
 have HR1 := Aside0.mk hr1
 have HC1 := Aside0.mk hc1
 clear hr1 hc1
 have H : (if (l0.length : Int) = (l1.length : Int) then (fenlandref01_Same.l0 k l0 l1 0) else (some false)) = some r := h
 clear h
 by_cases c3 : (l0.length : Int) = (l1.length : Int)
 ·rw [if_pos c3] at H
  have c3b0 : ((l0.length : Int) == (l1.length : Int)) = true := beq_iff_eq.mpr c3
  have c3b1 : ((l0.length : Int) != (l1.length : Int)) = false := bne_eq_false_iff_eq.mpr c3
  have c3b2 : (l0.length == l1.length) = true := by first | simpa using c3 | (simp at c3 ⊢; omega)
  clear c3
  have H' := Aside0.mk H
  clear H
  go_enter Tryd.func15, Tryd.ntmps15
  go_wp2
  repeat (go_quiet (fail); try go_wp2)
  go_loopg [5] k (fun kq v5 w' => ∃ (x5_1 : Int), v5 = .int .i64 x5_1 ∧ Aside0 (fenlandref01_Same.l0 kq l0 l1 x5_1 = some r) ∧ Aside0 (kq ≤ k) ∧ Drawn0 w w')
  case atStart => exact ⟨(0), (by first | rfl | (simp; done) | (simp [*]; done)), H', ⟨Nat.le_refl _⟩, by repeat (first | exact Drawn0.refl _ | apply Drawn0.step)⟩
  case round =>
   clear H'
   try clear c1
   try clear p2
   try clear c3
   try clear c3b0
   try clear c3b1
   try clear c3b2
   obtain ⟨x5_1, rfl, HA, HK1, ⟨m1, rfl⟩⟩ := hrel
   cases gk with
   | zero => exact absurd HA.out (by simp [fenlandref01_Same.l0])
   | succ k1 =>
    have H := HA.out
    clear HA
    simp only [fenlandref01_Same.l0] at H
    by_cases c4 : x5_1 < (l0.length : Int)
    rotate_left
    ·rw [if_neg c4] at H
     have c4b0 : decide (x5_1 < (l0.length : Int)) = false := decide_eq_false c4
     clear c4
     obtain rfl := Option.some.inj H
     go_wp2
     repeat (go_quiet (fail); try go_wp2)
     go_ret
     exact ⟨by first | rfl | (simp; done) | (simp [*]; done), by repeat (first | exact Drawn0.refl _ | apply Drawn0.step)⟩
    rw [if_pos c4] at H
    have c4b0 : decide (x5_1 < (l0.length : Int)) = true := decide_eq_true c4
    clear c4
    by_cases c5 : 0 ≤ x5_1
    rotate_left
    ·rw [if_neg c5] at H
     exact absurd H (by simp)
    rw [if_pos c5] at H
    have c5b0 : decide (0 ≤ x5_1) = true := decide_eq_true c5
    clear c5
    by_cases c6 : x5_1 < (l1.length : Int)
    rotate_left
    ·rw [if_neg c6] at H
     exact absurd H (by simp)
    rw [if_pos c6] at H
    have c6b0 : decide (x5_1 < (l1.length : Int)) = true := decide_eq_true c6
    clear c6
    by_cases c7 : (rd l0 x5_1) = (rd l1 x5_1)
    ·rw [if_pos c7] at H
     have c7b0 : ((rd l0 x5_1) == (rd l1 x5_1)) = true := beq_iff_eq.mpr c7
     have c7b1 : ((rd l0 x5_1) != (rd l1 x5_1)) = false := bne_eq_false_iff_eq.mpr c7
     clear c7
     have H' := Aside0.mk H
     clear H
     have p101 : 0 ≤ (x5_1 : Int) := of_decide_eq_true (by first | (with_reducible assumption) | assumption)
     have q101 : x5_1 < (l0.length : Int) := of_decide_eq_true (by first | (with_reducible assumption) | assumption)
     obtain ⟨ad101, e101, hx101_0⟩ := Kd.at_int HR0.out x5_1 p101 q101
     cases e101
     replace p101 := eq_true p101
     replace q101 := eq_true q101
     have p102 : 0 ≤ (x5_1 : Int) := of_decide_eq_true (by first | (with_reducible assumption) | assumption)
     have q102 : x5_1 < (l1.length : Int) := of_decide_eq_true (by first | (with_reducible assumption) | assumption)
     obtain ⟨ad102, e102, hx102_0⟩ := Kd.at_int HR1.out x5_1 p102 q102
     cases e102
     replace p102 := eq_true p102
     replace q102 := eq_true q102
     go_wp2
     repeat (go_quiet (fail); try go_wp2)
     go_roundg k1
     case measure => have := HK1.out; omega
     case rel => exact ⟨(wrap64 (x5_1 + 1)), (by first | rfl | (simp; done) | (simp [*]; done)), H', ⟨by have := HK1.out; omega⟩, by repeat (first | exact Drawn0.refl _ | apply Drawn0.step)⟩
    ·rw [if_neg c7] at H
     have c7b0 : ((rd l0 x5_1) == (rd l1 x5_1)) = false := beq_eq_false_iff_ne.mpr c7
     have c7b1 : ((rd l0 x5_1) != (rd l1 x5_1)) = true := bne_iff_ne.mpr c7
     obtain rfl := Option.some.inj H
     have p101 : 0 ≤ (x5_1 : Int) := of_decide_eq_true (by first | (with_reducible assumption) | assumption)
     have q101 : x5_1 < (l0.length : Int) := of_decide_eq_true (by first | (with_reducible assumption) | assumption)
     obtain ⟨ad101, e101, hx101_0⟩ := Kd.at_int HR0.out x5_1 p101 q101
     cases e101
     replace p101 := eq_true p101
     replace q101 := eq_true q101
     have p102 : 0 ≤ (x5_1 : Int) := of_decide_eq_true (by first | (with_reducible assumption) | assumption)
     have q102 : x5_1 < (l1.length : Int) := of_decide_eq_true (by first | (with_reducible assumption) | assumption)
     obtain ⟨ad102, e102, hx102_0⟩ := Kd.at_int HR1.out x5_1 p102 q102
     cases e102
     replace p102 := eq_true p102
     replace q102 := eq_true q102
     go_wp2
     repeat (go_quiet (fail); try go_wp2)
     go_ret
     exact ⟨by first | rfl | (simp; done) | (simp [*]; done), by repeat (first | exact Drawn0.refl _ | apply Drawn0.step)⟩
 ·rw [if_neg c3] at H
  have c3b0 : ((l0.length : Int) == (l1.length : Int)) = false := beq_eq_false_iff_ne.mpr c3
  have c3b1 : ((l0.length : Int) != (l1.length : Int)) = true := bne_iff_ne.mpr c3
  have c3b2 : (l0.length == l1.length) = false := by first | simpa using c3 | (simp at c3 ⊢; omega)
  obtain rfl := Option.some.inj H
  go_enter Tryd.func15, Tryd.ntmps15
  go_wp2
  repeat (go_quiet (fail); try go_wp2)
  go_ret
  exact ⟨by first | rfl | (simp; done) | (simp [*]; done), by repeat (first | exact Drawn0.refl _ | apply Drawn0.step)⟩
def value_floor.f (a0 : Int) (a1 : Int) : Option (Int) := if a1 = 0 then (none) else (if (Int.tmod a0 a1) < 0 then (some (wrap64 ((wrap64 (Int.tdiv a0 a1)) - 1))) else (some (wrap64 (Int.tdiv a0 a1))))
set_option maxHeartbeats 8000000 in
set_option maxRecDepth 100000 in
theorem value_floor.calls (a0 : Int) (a1 : Int) (r : Int) (w : World) (h : value_floor.f a0 a1 = some r) :
  Calls Tryd.prog 52 #[.int .i64 a0, .int .i64 a1] w fun e w' => e = .returned (.int .i64 r) ∧ Drawn0 w w' := by
 have H : (if a1 = 0 then (none) else (if (Int.tmod a0 a1) < 0 then (some (wrap64 ((wrap64 (Int.tdiv a0 a1)) - 1))) else (some (wrap64 (Int.tdiv a0 a1))))) = some r := h
 clear h
 by_cases c3 : a1 = 0
 ·rw [if_pos c3] at H
  exact absurd H (by simp)
 ·rw [if_neg c3] at H
  have c3b0 : (a1 == 0) = false := beq_eq_false_iff_ne.mpr c3
  have c3b1 : (a1 != 0) = true := bne_iff_ne.mpr c3
  by_cases c4 : (Int.tmod a0 a1) < 0
  rotate_left
  ·rw [if_neg c4] at H
   have c4b0 : decide ((Int.tmod a0 a1) < 0) = false := decide_eq_false c4
   clear c4
   obtain rfl := Option.some.inj H
   go_enter Tryd.func52, Tryd.ntmps52
   go_wp2
   go_ret
   exact ⟨by first | rfl | (simp; done) | (simp [*]; done), by repeat (first | exact Drawn0.refl _ | apply Drawn0.step)⟩
  rw [if_pos c4] at H
  have c4b0 : decide ((Int.tmod a0 a1) < 0) = true := decide_eq_true c4
  clear c4
  obtain rfl := Option.some.inj H
  go_enter Tryd.func52, Tryd.ntmps52
  go_wp2
  go_ret
  exact ⟨by first | rfl | (simp; done) | (simp [*]; done), by repeat (first | exact Drawn0.refl _ | apply Drawn0.step)⟩
def value_day.f (a0 : Int) (a1 : Int) (a2 : Int) : Option (Int) := if a1 ≤ 2 then ((value_floor.f (wrap64 (a0 - 1)) 400).bind fun t101 => (some (wrap64 ((wrap64 ((wrap64 ((wrap64 ((wrap64 ((wrap64 ((wrap64 ((wrap64 (t101 * 146097)) + (wrap64 ((wrap64 ((wrap64 (a0 - 1)) - (wrap64 (t101 * 400)))) * 365)))) + (wrap64 (Int.tdiv (wrap64 ((wrap64 (a0 - 1)) - (wrap64 (t101 * 400)))) 4)))) - (wrap64 (Int.tdiv (wrap64 ((wrap64 (a0 - 1)) - (wrap64 (t101 * 400)))) 100)))) + (wrap64 (Int.tdiv (wrap64 ((wrap64 (153 * (wrap64 ((wrap64 (a1 + 12)) - 3)))) + 2)) 5)))) + a2)) - 1)) - 719468)))) else ((value_floor.f a0 400).bind fun t102 => (some (wrap64 ((wrap64 ((wrap64 ((wrap64 ((wrap64 ((wrap64 ((wrap64 ((wrap64 (t102 * 146097)) + (wrap64 ((wrap64 (a0 - (wrap64 (t102 * 400)))) * 365)))) + (wrap64 (Int.tdiv (wrap64 (a0 - (wrap64 (t102 * 400)))) 4)))) - (wrap64 (Int.tdiv (wrap64 (a0 - (wrap64 (t102 * 400)))) 100)))) + (wrap64 (Int.tdiv (wrap64 ((wrap64 (153 * (wrap64 (a1 - 3)))) + 2)) 5)))) + a2)) - 1)) - 719468))))
set_option maxHeartbeats 8000000 in
set_option maxRecDepth 100000 in
theorem value_day.calls (a0 : Int) (a1 : Int) (a2 : Int) (r : Int) (w : World) (h : value_day.f a0 a1 a2 = some r) :
  Calls Tryd.prog 45 #[.int .i64 a0, .int .i64 a1, .int .i64 a2] w fun e w' => e = .returned (.int .i64 r) ∧ Drawn0 w w' := by
 have H : (if a1 ≤ 2 then ((value_floor.f (wrap64 (a0 - 1)) 400).bind fun t101 => (some (wrap64 ((wrap64 ((wrap64 ((wrap64 ((wrap64 ((wrap64 ((wrap64 ((wrap64 (t101 * 146097)) + (wrap64 ((wrap64 ((wrap64 (a0 - 1)) - (wrap64 (t101 * 400)))) * 365)))) + (wrap64 (Int.tdiv (wrap64 ((wrap64 (a0 - 1)) - (wrap64 (t101 * 400)))) 4)))) - (wrap64 (Int.tdiv (wrap64 ((wrap64 (a0 - 1)) - (wrap64 (t101 * 400)))) 100)))) + (wrap64 (Int.tdiv (wrap64 ((wrap64 (153 * (wrap64 ((wrap64 (a1 + 12)) - 3)))) + 2)) 5)))) + a2)) - 1)) - 719468)))) else ((value_floor.f a0 400).bind fun t102 => (some (wrap64 ((wrap64 ((wrap64 ((wrap64 ((wrap64 ((wrap64 ((wrap64 ((wrap64 (t102 * 146097)) + (wrap64 ((wrap64 (a0 - (wrap64 (t102 * 400)))) * 365)))) + (wrap64 (Int.tdiv (wrap64 (a0 - (wrap64 (t102 * 400)))) 4)))) - (wrap64 (Int.tdiv (wrap64 (a0 - (wrap64 (t102 * 400)))) 100)))) + (wrap64 (Int.tdiv (wrap64 ((wrap64 (153 * (wrap64 (a1 - 3)))) + 2)) 5)))) + a2)) - 1)) - 719468))))) = some r := h
 clear h
 by_cases c4 : a1 ≤ 2
 ·rw [if_pos c4] at H
  have c4b0 : decide (a1 ≤ 2) = true := decide_eq_true c4
  clear c4
  replace H := Option.bind_eq_some_iff.mp H
  obtain ⟨t101, A50, H⟩ := H
  (try dsimp only at H)
  have A5 := Aside0.mk A50
  clear A50
  obtain rfl := Option.some.inj H
  go_enter Tryd.func45, Tryd.ntmps45
  go_wp2_with (first | ((with_reducible refine gate_callee (f := 52) rfl ?_); refine goesL_ (some 16) rfl rfl Tryd.func52 (by kernel_rfl) rfl #[.int .i64 (wrap64 (a0 - 1)), .int .i64 400] rfl (by (try simp only [List.map_toArray, List.map_cons, List.map_nil]) <;> rfl) ?_; (with_reducible refine (value_floor.calls (wrap64 (a0 - 1)) 400 t101 _ A5.out).mono ?_); rintro e w' ⟨rfl, ⟨nd, rfl⟩⟩; refine ⟨_, rfl, ?_⟩))
  go_ret
  exact ⟨by first | rfl | (simp; done) | (simp [*]; done), by repeat (first | exact Drawn0.refl _ | apply Drawn0.step)⟩
 ·rw [if_neg c4] at H
  have c4b0 : decide (a1 ≤ 2) = false := decide_eq_false c4
  clear c4
  replace H := Option.bind_eq_some_iff.mp H
  obtain ⟨t102, A60, H⟩ := H
  (try dsimp only at H)
  have A6 := Aside0.mk A60
  clear A60
  obtain rfl := Option.some.inj H
  go_enter Tryd.func45, Tryd.ntmps45
  go_wp2_with (first | ((with_reducible refine gate_callee (f := 52) rfl ?_); refine goesL_ (some 16) rfl rfl Tryd.func52 (by kernel_rfl) rfl #[.int .i64 a0, .int .i64 400] rfl (by (try simp only [List.map_toArray, List.map_cons, List.map_nil]) <;> rfl) ?_; (with_reducible refine (value_floor.calls a0 400 t102 _ A6.out).mono ?_); rintro e w' ⟨rfl, ⟨nd, rfl⟩⟩; refine ⟨_, rfl, ?_⟩))
  go_ret
  exact ⟨by first | rfl | (simp; done) | (simp [*]; done), by repeat (first | exact Drawn0.refl _ | apply Drawn0.step)⟩
def value_parseDay.f (a0 : ByteArray) : Option (Int × Bool) :=
  if a0.size < 10 ∨ 12 < a0.size then some (0, false)
  else match pInt 32 (a0.extract 0 (a0.size - 6)), pInt 32 (a0.extract (a0.size - 6 + 1) (a0.size - 6 + 3)), pInt 32 (a0.extract (a0.size - 6 + 4) a0.size) with
    | (y, e), (m, f), (d, g) => (value_day.f y m d).bind fun t => some (t, e && (f && (g && (decide (1 ≤ m) && decide (m ≤ 12)))))
set_option maxHeartbeats 2000000 in
set_option maxRecDepth 100000 in
theorem value_parseDay.calls (a0 : ByteArray) (r1 : Int) (r2 : Bool) (w : World) (hG : Glob w) (h : value_parseDay.f a0 = some (r1, r2)) :
    Calls Tryd.prog 28 #[.string a0] w fun e w' => e = .returned (.tuple #[.int .i64 r1, .bool r2]) ∧ Below w.heap.size w w' := by
  unfold value_parseDay.f at h
  split at h
  · rename_i hs
    obtain ⟨rfl, rfl⟩ : 0 = r1 ∧ false = r2 := by simpa using h
    clear h
    rcases hs with hs | hs
    · go_enter Tryd.func28, Tryd.ntmps28
      have h1 : (a0.size : Int) < 10 := by omega
      go_wp2
      go_ret2
      exact ⟨rfl, Below.refl _ _⟩
    · have h1 : ¬ (a0.size : Int) < 10 := by omega
      have h2 : (a0.size : Int) > 12 := by omega
      go_enter Tryd.func28, Tryd.ntmps28
      go_wp2
      go_ret2
      exact ⟨rfl, Below.refl _ _⟩
  · rename_i hs
    obtain ⟨P1, hP1⟩ : ∃ x, pInt 32 (a0.extract 0 (a0.size - 6)) = x := ⟨_, rfl⟩
    obtain ⟨P2, hP2⟩ : ∃ x, pInt 32 (a0.extract (a0.size - 6 + 1) (a0.size - 6 + 3)) = x := ⟨_, rfl⟩
    obtain ⟨P3, hP3⟩ : ∃ x, pInt 32 (a0.extract (a0.size - 6 + 4) a0.size) = x := ⟨_, rfl⟩
    rw [hP1, hP2, hP3] at h
    have Q1 := Aside0.mk hP1
    have Q2 := Aside0.mk hP2
    have Q3 := Aside0.mk hP3
    clear hP1 hP2 hP3
    obtain ⟨y, b1⟩ := P1
    obtain ⟨m, b2⟩ := P2
    obtain ⟨d, b3⟩ := P3
    have h1 : 10 ≤ (a0.size : Int) := by omega
    have h2 : (a0.size : Int) ≤ 12 := by omega
    obtain ⟨t, hday, ht⟩ := Option.bind_eq_some_iff.mp h
    obtain ⟨rfl, hr⟩ : t = r1 ∧ _ = r2 := by simpa using ht
    have HD := Aside0.mk hday
    have HT := Aside0.mk hr
    have HG := Aside0.mk hG
    clear h hs hday ht hr hG
    have h3 : 0 ≤ (a0.size : Int) - 6 := by omega
    have h4 : (a0.size : Int) - 6 ≤ (a0.size : Int) := by omega
    have h5 : 0 ≤ (a0.size : Int) - 6 + 1 := by omega
    have h6 : (a0.size : Int) - 6 + 1 ≤ (a0.size : Int) - 6 + 3 := by omega
    have h7 : (a0.size : Int) - 6 + 3 ≤ (a0.size : Int) := by omega
    have h8 : 0 ≤ (a0.size : Int) - 6 + 4 := by omega
    have h9 : (a0.size : Int) - 6 + 4 ≤ (a0.size : Int) := by omega
    go_enter Tryd.func28, Tryd.ntmps28
    go_wp2_with (fail)
    refine (parse_int 32 (Or.inl rfl) _ ?sz _ HG.out).mono ?_
    case sz => (simp only [ByteArray.size_extract]; omega)
    rw [show pInt (Int.toNat 32) (a0.extract 0 (a0.size - 6)) = (y, b1) from Q1.out]
    rintro e w1 ⟨ev1, rfl, hn1, hb1⟩
    have HN1 := Aside0.mk hn1
    have HB1 := Aside0.mk hb1
    clear hn1 hb1
    go_wp2_with (fail)
    refine (parse_int 32 (Or.inl rfl) _ ?sz _ (HG.out.at HB1.out)).mono ?_
    case sz => (simp only [ByteArray.size_extract]; omega)
    rw [show pInt (Int.toNat 32) (a0.extract (a0.size - 6 + 1) (a0.size - 6 + 3)) = (m, b2) from Q2.out]
    rintro e w2 ⟨ev2, rfl, hn2, hb2⟩
    have HN2 := Aside0.mk hn2
    have HB2 := Aside0.mk (HB1.out.trans (hb2.mono HB1.out.size))
    clear hn2 hb2
    go_wp2_with (fail)
    refine (parse_int 32 (Or.inl rfl) _ ?sz _ (HG.out.at HB2.out)).mono ?_
    case sz => (simp only [ByteArray.size_extract]; omega)
    rw [show pInt (Int.toNat 32) (a0.extract (a0.size - 6 + 4) a0.size) = (d, b3) from Q3.out]
    rintro e w3 ⟨ev3, rfl, hn3, hb3⟩
    have HB3 := Aside0.mk (HB2.out.trans (hb3.mono HB2.out.size))
    clear hb3
    have hn1 := HN1.out
    have hn2 := HN2.out
    clear HN1 HN2
    go_wp2_with (fail)
    have HD2 := Aside0.mk (fun W : World => value_day.calls y m d t W HD.out)
    rcases hn1 with ⟨rfl, rfl⟩ | ⟨rfl, t1, p1, rfl⟩ <;> rcases hn2 with ⟨rfl, rfl⟩ | ⟨rfl, t2, p2, rfl⟩ <;> rcases hn3 with ⟨rfl, rfl⟩ | ⟨rfl, t3, p3, rfl⟩
    case inl.inl.inl =>
      by_cases c1 : 1 ≤ m <;> by_cases c2 : m ≤ 12
      all_goals
        first | (have d1 := decide_eq_true c1) | (have d1 := decide_eq_false c1)
        first | (have d2 := decide_eq_true c2) | (have d2 := decide_eq_false c2)
        go_quiet ((go_at_call 45; exact Calls.quiet_of ((HD2.out _).mono fun e w' ⟨he, hw⟩ => ⟨he, hw.out⟩)))
        go_wp2
        go_ret2
        exact ⟨by rw [← HT.out]; simp [c1, c2], by repeat (first | exact HB3.out | apply pw_below_drewN | apply below_drew1)⟩
    all_goals
      go_quiet ((go_at_call 45; exact Calls.quiet_of ((HD2.out _).mono fun e w' ⟨he, hw⟩ => ⟨he, hw.out⟩)))
      go_wp2
      go_ret2
      exact ⟨by rw [← HT.out]; simp, by repeat (first | exact HB3.out | apply pw_below_drewN | apply below_drew1)⟩
def value_isType.f (a0 : Int) : Option (Bool) := if a0 ≥ 1 then (some (decide (a0 ≤ 5))) else (some false)
set_option maxHeartbeats 8000000 in
set_option maxRecDepth 100000 in
theorem value_isType.calls (a0 : Int) (r : Bool) (w : World) (h : value_isType.f a0 = some r) :
  Calls Tryd.prog 26 #[.int .i64 a0] w fun e w' => e = .returned (.bool r) ∧ Drawn0 w w' := by
 have H : (if a0 ≥ 1 then (some (decide (a0 ≤ 5))) else (some false)) = some r := h
 clear h
 by_cases c2 : a0 ≥ 1
 rotate_left
 ·rw [if_neg c2] at H
  have c2b0 : decide (1 ≤ a0) = false := decide_eq_false c2
  clear c2
  obtain rfl := Option.some.inj H
  go_enter Tryd.func26, Tryd.ntmps26
  go_wp2
  go_ret
  exact ⟨by first | rfl | (simp; done) | (simp [*]; done), by repeat (first | exact Drawn0.refl _ | apply Drawn0.step)⟩
 rw [if_pos c2] at H
 have c2b0 : decide (1 ≤ a0) = true := decide_eq_true c2
 clear c2
 obtain rfl := Option.some.inj H
 go_enter Tryd.func26, Tryd.ntmps26
 go_wp2
 go_ret
 exact ⟨by first | rfl | (simp; done) | (simp [*]; done), by repeat (first | exact Drawn0.refl _ | apply Drawn0.step)⟩
def value_plain.f (a0 : Int) : Option (Bool) := if a0 ≥ 32 then (if a0 ≤ 126 then (if a0 = 34 then (some false) else (some (a0 != 92))) else (some false)) else (some false)
set_option maxHeartbeats 8000000 in
set_option maxRecDepth 100000 in
theorem value_plain.calls (a0 : Int) (r : Bool) (w : World) (h : value_plain.f a0 = some r) :
  Calls Tryd.prog 43 #[.int .u8 a0] w fun e w' => e = .returned (.bool r) ∧ Drawn0 w w' := by
 have H : (if a0 ≥ 32 then (if a0 ≤ 126 then (if a0 = 34 then (some false) else (some (a0 != 92))) else (some false)) else (some false)) = some r := h
 clear h
 by_cases c2 : a0 ≥ 32
 rotate_left
 ·rw [if_neg c2] at H
  have c2b0 : decide (32 ≤ a0) = false := decide_eq_false c2
  clear c2
  obtain rfl := Option.some.inj H
  go_enter Tryd.func43, Tryd.ntmps43
  go_wp2
  go_ret
  exact ⟨by first | rfl | (simp; done) | (simp [*]; done), by repeat (first | exact Drawn0.refl _ | apply Drawn0.step)⟩
 rw [if_pos c2] at H
 have c2b0 : decide (32 ≤ a0) = true := decide_eq_true c2
 clear c2
 by_cases c3 : a0 ≤ 126
 rotate_left
 ·rw [if_neg c3] at H
  have c3b0 : decide (a0 ≤ 126) = false := decide_eq_false c3
  clear c3
  obtain rfl := Option.some.inj H
  go_enter Tryd.func43, Tryd.ntmps43
  go_wp2
  go_ret
  exact ⟨by first | rfl | (simp; done) | (simp [*]; done), by repeat (first | exact Drawn0.refl _ | apply Drawn0.step)⟩
 rw [if_pos c3] at H
 have c3b0 : decide (a0 ≤ 126) = true := decide_eq_true c3
 clear c3
 by_cases c4 : a0 = 34
 rotate_left
 ·rw [if_neg c4] at H
  have c4b0 : (a0 == 34) = false := beq_eq_false_iff_ne.mpr c4
  have c4b1 : (a0 != 34) = true := bne_iff_ne.mpr c4
  obtain rfl := Option.some.inj H
  go_enter Tryd.func43, Tryd.ntmps43
  go_wp2
  go_ret
  exact ⟨by first | rfl | (simp; done) | (simp [*]; done), by repeat (first | exact Drawn0.refl _ | apply Drawn0.step)⟩
 rw [if_pos c4] at H
 have c4b0 : (a0 == 34) = true := beq_iff_eq.mpr c4
 have c4b1 : (a0 != 34) = false := bne_eq_false_iff_eq.mpr c4
 clear c4
 obtain rfl := Option.some.inj H
 go_enter Tryd.func43, Tryd.ntmps43
 go_wp2
 go_ret
 exact ⟨by first | rfl | (simp; done) | (simp [*]; done), by repeat (first | exact Drawn0.refl _ | apply Drawn0.step)⟩
def hexd (n : Nat) : UInt8 := (if n < 10 then 48 + n else 87 + n).toUInt8
def pln (c : UInt8) : Bool := decide (32 ≤ c.toNat) && (decide (c.toNat ≤ 126) && (decide (c.toNat ≠ 34) && decide (c.toNat ≠ 92)))
def quo (c : UInt8) : List UInt8 := if pln c = true then [c] else [92, 120, hexd (c.toNat / 16), hexd (c.toNat % 16)]
def quoted (l : List UInt8) : List UInt8 := [34] ++ l.flatMap quo ++ [34]
def value_quote.f (a0 : ByteArray) : Option ByteArray := if a0.size ≤ 1000000000 then some ⟨(quoted a0.data.toList).toArray⟩ else none
theorem plain_of (c : UInt8) : value_plain.f (c.toNat : Int) = some (pln c) := by
  unfold value_plain.f pln
  have := c.toNat_lt
  by_cases h1 : 32 ≤ c.toNat
  · have g1 : (c.toNat : Int) ≥ 32 := by omega
    by_cases h2 : c.toNat ≤ 126
    · have g2 : (c.toNat : Int) ≤ 126 := by omega
      by_cases h3 : c.toNat = 34
      · simp [h3]
      · have g3 : ¬ (c.toNat : Int) = 34 := by omega
        rw [if_pos g1, if_pos g2, if_neg g3]
        by_cases h4 : c.toNat = 92
        · simp [h4]
        · have g4 : ¬ (c.toNat : Int) = 92 := by omega
          simp only [h1, h2, h3, h4, ne_eq, not_false_eq_true, decide_true, Bool.and_self, Option.some.injEq, bne_iff_ne]
          exact g4
    · have g2 : ¬ (c.toNat : Int) ≤ 126 := by omega
      rw [if_pos g1, if_neg g2]; simp [h2]
  · have g1 : ¬ (c.toNat : Int) ≥ 32 := by omega
    rw [if_neg g1]; simp [h1]
theorem quo_len (c : UInt8) : (quo c).length ≤ 4 := by unfold quo; split <;> simp
theorem flat_len (l : List UInt8) : (l.flatMap quo).length ≤ 4 * l.length := by
  induction l with
  | nil => simp
  | cons c r ih => have := quo_len c; simp only [List.flatMap_cons, List.length_append, List.length_cons]; omega
theorem flat_snoc (s : ByteArray) (k : Nat) (h : k < s.size) : (s.data.toList.take (k + 1)).flatMap quo = (s.data.toList.take k).flatMap quo ++ quo s[k] := by
  rw [List.take_succ_eq_append_getElem (by simpa using h), List.flatMap_append]
  simp only [List.flatMap_cons, List.flatMap_nil, List.append_nil]
  rfl
theorem cells_snoc (l : List UInt8) (c : UInt8) : Lib.byteCells l ++ [Value.int .u8 (c.toNat : Int)] = Lib.byteCells (l ++ [c]) := by simp [Lib.byteCells]
theorem hexd_at (i : Nat) (h : i < 16) : (⟨#[48, 49, 50, 51, 52, 53, 54, 55, 56, 57, 97, 98, 99, 100, 101, 102]⟩ : ByteArray)[i]'h = hexd i := by
  have : i = 0 ∨ i = 1 ∨ i = 2 ∨ i = 3 ∨ i = 4 ∨ i = 5 ∨ i = 6 ∨ i = 7 ∨ i = 8 ∨ i = 9 ∨ i = 10 ∨ i = 11 ∨ i = 12 ∨ i = 13 ∨ i = 14 ∨ i = 15 := by omega
  rcases this with rfl | rfl | rfl | rfl | rfl | rfl | rfl | rfl | rfl | rfl | rfl | rfl | rfl | rfl | rfl | rfl <;> rfl
theorem builder_drawn {T e : TypeId} {B b : Nat} {bs : List Value} {w w' : World} (h : Lib.IsBuilderF T e B b bs w) (hd : Drawn0 w w') : Lib.IsBuilderF T e B b bs w' := by
  obtain ⟨n, rfl⟩ := hd.out
  exact h
set_option maxHeartbeats 4000000 in
set_option maxRecDepth 100000 in
theorem value_quote.calls (a0 : ByteArray) (r : ByteArray) (w : World) (h : value_quote.f a0 = some r) :
    Calls Tryd.prog 31 #[.string a0] w fun e w' => e = .returned (.string r) ∧ Below w.heap.size w w' := by
  unfold value_quote.f at h
  split at h
  · rename_i hs0
    obtain rfl := Option.some.inj h
    have hs : a0.size ≤ 1000000000 := hs0
    clear h hs0
    go_enter Tryd.func31, Tryd.ntmps31
    go_wp2_with (fail)
    refine (Builder_WriteByte_k w.heap.size w.heap.size [] 34 _ (Lib.IsBuilderF.of (Lib.fresh_isBuilder 84 5 w)) (by simp) (by simp)).mono ?_
    rintro e w1 ⟨rfl, h1, b1, _⟩
    have HB1 := Aside0.mk (((Below.refl _ w).alloc (Nat.le_refl _) _).trans b1)
    have HI1 := Aside0.mk (show Lib.IsBuilderF 84 5 w.heap.size w.heap.size (Lib.byteCells ([34] ++ (a0.data.toList.take 0).flatMap quo)) w1 from Or.inr h1)
    clear h1 b1
    go_wp2_with (fail)
    go_loopw [9] (fun v9 wr => ∃ (k : Nat), k ≤ a0.size ∧ v9 = .int .i64 k ∧ Aside0 (Lib.IsBuilderF 84 5 w.heap.size w.heap.size (Lib.byteCells ([34] ++ (a0.data.toList.take k).flatMap quo)) wr) ∧ Aside0 (Below w.heap.size w wr)) (fun v9 _ => a0.size - (intOf v9).toNat)
    case atStart => exact ⟨0, Nat.zero_le _, rfl, HI1, HB1⟩
    case round =>
      obtain ⟨k, hk, rfl, HI, HB⟩ := hrel
      clear HI1 HB1
      by_cases hlt : k < a0.size
      · have hf := flat_len (a0.data.toList.take k)
        have hl : (a0.data.toList.take k).length ≤ k := List.length_take_le _ _
        have LN : ([34] ++ (a0.data.toList.take k).flatMap quo).length ≤ 4 * k + 1 := by simp only [List.length_append, List.length_cons, List.length_nil]; omega
        have HL := Aside0.mk LN
        have HP := Aside0.mk (fun W : World => value_plain.calls (a0[k].toNat : Int) (pln a0[k]) W (plain_of _))
        clear hf hl LN
        have hw2 := flat_snoc a0 k hlt
        have HS := Aside0.mk hw2
        clear hw2
        cases hp : pln a0[k]
        · have hq : quo a0[k] = [92, 120, hexd (a0[k].toNat / 16), hexd (a0[k].toNat % 16)] := by unfold quo; rw [hp]; rfl
          have HQ := Aside0.mk hq
          rw [hp] at HP
          clear hp hq
          go_wp2_with (go_at_call 43; (with_reducible refine (HP.out _).mono ?_); rintro e w2 ⟨rfl, hd⟩; have HB2 := Aside0.mk (HB.out.trans (hd.below.mono HB.out.size)); have HI2 := Aside0.mk (builder_drawn HI.out hd); clear HI; clear hd)
          refine (Builder_WriteString_k w.heap.size w.heap.size _ ⟨#[92, 120]⟩ _ HI2.out (by have := HL.out; rw [Lib.byteCells_length]; show _ + 2 ≤ _; omega) HB2.out.size).mono ?_
          rintro e w3 ⟨rfl, h3, b3, _⟩
          have HB3 := Aside0.mk (HB2.out.trans b3)
          have HI3 := Aside0.mk (show Lib.IsBuilderF 84 5 w.heap.size w.heap.size (Lib.byteCells ([34] ++ (a0.data.toList.take k).flatMap quo ++ [92, 120])) w3 from Or.inr (by rw [Lib.byteCells_append]; exact h3))
          clear h3 b3 HI2 HB2
          have hc := a0[k].toNat_lt
          have n16 : a0[k].toNat / 16 < 16 := by omega
          have m16 : a0[k].toNat % 16 < 16 := by omega
          have i16 : ((a0[k].toNat / 16 : Nat) : Int) < 16 := by omega
          have j16 : ((a0[k].toNat % 16 : Nat) : Int) < 16 := by omega
          clear hc
          go_wp2_with (fail)
          rw [hexd_at _ n16]
          refine (Builder_WriteByte_k w.heap.size w.heap.size _ ((hexd (a0[k].toNat / 16)).toNat : Int) _ HI3.out (by have := HL.out; rw [Lib.byteCells_length]; simp only [List.length_append, List.length_cons, List.length_nil] at this ⊢; omega) HB3.out.size).mono ?_
          rintro e w4 ⟨rfl, h4, b4, _⟩
          have HB4 := Aside0.mk (HB3.out.trans b4)
          have HI4 := Aside0.mk (show Lib.IsBuilderF 84 5 w.heap.size w.heap.size (Lib.byteCells ([34] ++ (a0.data.toList.take k).flatMap quo ++ [92, 120] ++ [hexd (a0[k].toNat / 16)])) w4 from Or.inr (by rw [← cells_snoc]; exact h4))
          clear h4 b4 HI3 HB3
          go_wp2_with (fail)
          rw [hexd_at _ m16]
          refine (Builder_WriteByte_k w.heap.size w.heap.size _ ((hexd (a0[k].toNat % 16)).toNat : Int) _ HI4.out (by have := HL.out; rw [Lib.byteCells_length]; simp only [List.length_append, List.length_cons, List.length_nil] at this ⊢; omega) HB4.out.size).mono ?_
          rintro e w5 ⟨rfl, h5, b5, _⟩
          have HB5 := Aside0.mk (HB4.out.trans b5)
          have HI5 := Aside0.mk (show Lib.IsBuilderF 84 5 w.heap.size w.heap.size (Lib.byteCells ([34] ++ (a0.data.toList.take (k + 1)).flatMap quo)) w5 from Or.inr (by
            have e : [34] ++ (a0.data.toList.take (k + 1)).flatMap quo = [34] ++ (a0.data.toList.take k).flatMap quo ++ [92, 120] ++ [hexd (a0[k].toNat / 16)] ++ [hexd (a0[k].toNat % 16)] := by rw [HS.out, HQ.out]; simp
            rw [e, ← cells_snoc]; exact h5))
          clear h5 b5 HI4 HB4
          go_wp2
          go_roundw
          case rel => exact ⟨k + 1, by omega, by go_num, HI5, HB5⟩
          case measure => simp [intOf]; omega
        · have hq : quo a0[k] = [a0[k]] := by unfold quo; rw [hp]; rfl
          have HQ := Aside0.mk hq
          rw [hp] at HP
          clear hp hq
          go_wp2_with (go_at_call 43; (with_reducible refine (HP.out _).mono ?_); rintro e w2 ⟨rfl, hd⟩; have HB2 := Aside0.mk (HB.out.trans (hd.below.mono HB.out.size)); have HI2 := Aside0.mk (builder_drawn HI.out hd); clear HI; clear hd)
          refine (Builder_WriteByte_k w.heap.size w.heap.size _ (a0[k].toNat : Int) _ HI2.out (by have := HL.out; rw [Lib.byteCells_length]; omega) HB2.out.size).mono ?_
          rintro e w3 ⟨rfl, h3, b3, _⟩
          have HB3 := Aside0.mk (HB2.out.trans b3)
          have HI3 := Aside0.mk (show Lib.IsBuilderF 84 5 w.heap.size w.heap.size (Lib.byteCells ([34] ++ (a0.data.toList.take (k + 1)).flatMap quo)) w3 from Or.inr (by
            have e : [34] ++ (a0.data.toList.take (k + 1)).flatMap quo = [34] ++ (a0.data.toList.take k).flatMap quo ++ [a0[k]] := by rw [HS.out, HQ.out]; simp
            rw [e, ← cells_snoc]; exact h3))
          clear h3 b3 HI2 HB2
          go_wp2
          go_roundw
          case rel => exact ⟨k + 1, by omega, by go_num, HI3, HB3⟩
          case measure => simp [intOf]; omega
      · have hl : a0.data.toList.take k = a0.data.toList := List.take_of_length_le (by simp; show a0.size ≤ k; omega)
        rw [hl] at HI
        have hf := flat_len a0.data.toList
        have hz : a0.data.toList.length = a0.size := by simp
        have LN : ([34] ++ a0.data.toList.flatMap quo).length ≤ 5000000000 := by simp only [List.length_append, List.length_cons, List.length_nil]; omega
        have HL := Aside0.mk LN
        clear hl hf hz LN
        go_wp2_with (fail)
        refine (Builder_WriteByte_k w.heap.size w.heap.size _ 34 _ HI.out (by have := HL.out; rw [Lib.byteCells_length]; omega) HB.out.size).mono ?_
        rintro e w3 ⟨rfl, h3, b3, _⟩
        have HB3 := Aside0.mk (HB.out.trans b3)
        have HI3 := Aside0.mk (show Lib.IsBuilderF 84 5 w.heap.size w.heap.size (Lib.byteCells (quoted a0.data.toList)) w3 from Or.inr (by
          unfold quoted
          rw [← cells_snoc]; exact h3))
        clear h3 b3 HI HB
        go_wp2_with (fail)
        refine (Builder_String_any_k w.heap.size w.heap.size _ _ HI3.out HB3.out.size).mono ?_
        rintro e w4 ⟨rfl, _, b4, _⟩
        have HB4 := Aside0.mk (HB3.out.trans b4)
        clear b4 HI3 HB3
        go_wp2
        go_ret
        exact ⟨rfl, HB4.out⟩
  · exact absurd h (by simp)
def strconv_FormatBool_48.f (a0 : Bool) : Option (ByteArray) := if a0 = true then (some (⟨#[116, 114, 117, 101]⟩ : ByteArray)) else (some (⟨#[102, 97, 108, 115, 101]⟩ : ByteArray))
set_option maxHeartbeats 8000000 in
set_option maxRecDepth 100000 in
theorem strconv_FormatBool_48.calls (a0 : Bool) (r : ByteArray) (w : World) (h : strconv_FormatBool_48.f a0 = some r) :
  Calls Tryd.prog 48 #[.bool a0] w fun e w' => e = .returned (.string r) ∧ Drawn0 w w' := by
 have H : (if a0 = true then (some (⟨#[116, 114, 117, 101]⟩ : ByteArray)) else (some (⟨#[102, 97, 108, 115, 101]⟩ : ByteArray))) = some r := h
 clear h
 by_cases c2 : a0 = true
 rotate_left
 ·replace c2 := Bool.eq_false_iff.mpr c2
  subst c2
  rw [if_neg (show ¬ (false = true) by decide)] at H
  obtain rfl := Option.some.inj H
  go_enter Tryd.func48, Tryd.ntmps48
  go_wp2
  go_ret
  exact ⟨by first | rfl | (simp; done) | (simp [*]; done), by repeat (first | exact Drawn0.refl _ | apply Drawn0.step)⟩
 subst c2
 rw [if_pos rfl] at H
 obtain rfl := Option.some.inj H
 go_enter Tryd.func48, Tryd.ntmps48
 go_wp2
 go_ret
 exact ⟨by first | rfl | (simp; done) | (simp [*]; done), by repeat (first | exact Drawn0.refl _ | apply Drawn0.step)⟩
def strconv_FormatBool_30.f (a0 : Bool) : Option (ByteArray) := (strconv_FormatBool_48.f a0).bind fun t101 => (some t101)
set_option maxHeartbeats 8000000 in
set_option maxRecDepth 100000 in
theorem strconv_FormatBool_30.calls (a0 : Bool) (r : ByteArray) (w : World) (h : strconv_FormatBool_30.f a0 = some r) :
  Calls Tryd.prog 30 #[.bool a0] w fun e w' => e = .returned (.string r) ∧ Drawn0 w w' := by
 have H : ((strconv_FormatBool_48.f a0).bind fun t101 => (some t101)) = some r := h
 clear h
 replace H := Option.bind_eq_some_iff.mp H
 obtain ⟨t101, A20, H⟩ := H
 replace H : (some t101) = some r := H
 have A2 := Aside0.mk A20
 clear A20
 obtain rfl := Option.some.inj H
 go_enter Tryd.func30, Tryd.ntmps30
 go_wp2_with (first | ((with_reducible refine gate_callee (f := 48) rfl ?_); refine goesL_ (some 4) rfl rfl Tryd.func48 (by kernel_rfl) rfl #[.bool a0] rfl (by (try simp only [List.map_toArray, List.map_cons, List.map_nil]) <;> rfl) ?_; (with_reducible refine (strconv_FormatBool_48.calls a0 t101 _ A2.out).mono ?_); rintro e w' ⟨rfl, ⟨nd, rfl⟩⟩; refine ⟨_, rfl, ?_⟩))
 go_ret
 exact ⟨by first | rfl | (simp; done) | (simp [*]; done), by repeat (first | exact Drawn0.refl _ | apply Drawn0.step)⟩
end
end Go.Proofs.YtlcibkbpppijdaaDoor.X
