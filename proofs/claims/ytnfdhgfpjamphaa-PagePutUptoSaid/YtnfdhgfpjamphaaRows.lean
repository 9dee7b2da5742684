/-
  No cell of these rows narrows 'for every input' (looked for: loops, veiled, ifaces, maps, wideKeys, modest, calm, conditions, laid).
  DERIVED. THE GIVEN ROWS OF THIS SEAT. 2 by the template 'for every input the law returns true; each argument reads behind the call as it read before'; 0 by the template 'total and deterministic' (their statements: YtnfdhgfpjamphaaTotals.lean).
  GIVEN WITH THE SEED: the statements are not yours to turn. If you find one false, say at which input.
  Laid BY PROGRAM, IN A SANDBOX (cutbox-rows.mjs): the forced cells as the released guide's own fill.sh prints them over the translation 932748d426bc18e0… (all of the seat's roots in one cut). By AI agents, Wed Nov 11 2026. No macro, syntax, notation, axiom, sorry.
-/
import Derived.Test.YtnfdhgfpjamphaaChecked
import GoSem.Claim
import GoSem.ClaimJoined
import GoSem.ClaimMapViews
import Derived.JoinedTies
import Derived.KernelRfl
namespace Go.Proofs.Ytnfdhgfpjamphaa
/- THE CELL 'sum', in the pinned program and in every row, IS THE sha256 OF THE DUMP (.gsa) THAT YtnfdhgfpjamphaaProg.lean LOADS. Nothing in Lean hashes anything: it is a label: what it is worth is what the hold of that sum in a sandbox is worth. -/
noncomputable def Try.pinned : Pinned := { name := "ytnfdhgfpjamphaa", sum := "932748d426bc18e058bddb60d0996fc3f5680786cdd68c87ff07f1a7b7ecea2a", checked := Try.checked }
namespace Rows
def none {H : Type} : Left H := { results := [], args := [] }

/-- 'fenlandlaw10.PageGrowth': WHATEVER THE INPUT: true; the input reads as it did. -/
def pageGrowthSpec : ChangeSpec := { name := "pageGrowth", fn := fun _ => fun
  | [d1, d2] => { results := [.lit (.bool true)], args := [d1, d2] }
  | _ => none }
def pageGrowthRow : OpenClaim := { program := "ytnfdhgfpjamphaa", sum := "932748d426bc18e058bddb60d0996fc3f5680786cdd68c87ff07f1a7b7ecea2a", func := "fenland/fenlandlaw10.PageGrowth", spec := "pageGrowth", unfollowed := true, recurses := true, apart := false }
def PageGrowthSaid : Prop := pageGrowthRow.holds Try.pinned (OpenSpec.ofChange pageGrowthSpec)

/-- ITS FALSE NEIGHBOUR: 'it returns false'. Refute it at one input. -/
def pageGrowthWrong : ChangeSpec := { name := "pageGrowth", fn := fun _ => fun
  | [d1, d2] => { results := [.lit (.bool false)], args := [d1, d2] }
  | _ => none }
def PageGrowthWrongFalsely : Prop := pageGrowthRow.holds Try.pinned (OpenSpec.ofChange pageGrowthWrong)

/-- 'fenlandlaw10.PagePut': WHATEVER THE INPUT: true; the input reads as it did. -/
def pagePutSpec : ChangeSpec := { name := "pagePut", fn := fun _ => fun
  | [d1, d2, d3] => { results := [.lit (.bool true)], args := [d1, d2, d3] }
  | _ => none }
def pagePutRow : OpenClaim := { program := "ytnfdhgfpjamphaa", sum := "932748d426bc18e058bddb60d0996fc3f5680786cdd68c87ff07f1a7b7ecea2a", func := "fenland/fenlandlaw10.PagePut", spec := "pagePut", unfollowed := true, recurses := true, apart := false }
def PagePutSaid : Prop := pagePutRow.holds Try.pinned (OpenSpec.ofChange pagePutSpec)

/-- ITS FALSE NEIGHBOUR: 'it returns false'. Refute it at one input. -/
def pagePutWrong : ChangeSpec := { name := "pagePut", fn := fun _ => fun
  | [d1, d2, d3] => { results := [.lit (.bool false)], args := [d1, d2, d3] }
  | _ => none }
def PagePutWrongFalsely : Prop := pagePutRow.holds Try.pinned (OpenSpec.ofChange pagePutWrong)

/- THE SECOND FORM. 'bulk': how many values and letters a reading holds, each counted each time it is reached (what is shared counts as often as it is met; a slice's spare places count too). A statement '..UptoSaid' is the law's where the arguments, and the package variables that the reading takes, are together of bulk at most 1048576: NARROWER than '..Said'. Prove '..Said' where nothing that the law and all that it calls make is longer than what came in: it says more and counts as full. Else prove '..UptoSaid'. A law counts once. -/
mutual
def uptoBulk {H : Type} : DataW H → Nat
  | .lit (.string bytes) => bytes.length + 1
  | .lit _ => 1
  | .nil => 1
  | .ptr d => uptoBulk d + 1
  | .slice elems spare => uptoBulkAll elems + uptoBulkAll spare + 1
  | .agg parts => uptoBulkAll parts + 1
  | .iface _ d => uptoBulk d + 1
  | .map entries => uptoBulkEntries entries + 1
  | .held _ => 1
def uptoBulkAll {H : Type} : List (DataW H) → Nat
  | [] => 0
  | d :: r => uptoBulk d + uptoBulkAll r
def uptoBulkEntries {H : Type} : List (Lit × DataW H) → Nat
  | [] => 0
  | x :: r => uptoBulkEntry x + uptoBulkEntries r
def uptoBulkEntry {H : Type} : Lit × DataW H → Nat
  | (.string bytes, d) => bytes.length + uptoBulk d + 1
  | (_, d) => uptoBulk d + 1
 end
def uptoSmall : (H : Type) → List (DataW H) → Bool := fun _ ds => decide (uptoBulkAll ds ≤ 1048576)
def OpenSpec.upto (s : _root_.Go.ChangeSpec) : _root_.Go.OpenSpec := { _root_.Go.OpenSpec.ofChange s with cond := some uptoSmall }

/-- 'fenlandlaw10.PageGrowth', WHERE WHAT IT READS IS OF BULK AT MOST 1048576: true; the input reads as it did. -/
def pageGrowthUptoRow : OpenClaim := { program := "ytnfdhgfpjamphaa", sum := "932748d426bc18e058bddb60d0996fc3f5680786cdd68c87ff07f1a7b7ecea2a", func := "fenland/fenlandlaw10.PageGrowth", spec := "pageGrowth", unfollowed := true, recurses := true, apart := false, narrowed := true }
def PageGrowthUptoSaid : Prop := pageGrowthUptoRow.holds Try.pinned (OpenSpec.upto pageGrowthSpec)

/-- 'fenlandlaw10.PagePut', WHERE WHAT IT READS IS OF BULK AT MOST 1048576: true; the input reads as it did. -/
def pagePutUptoRow : OpenClaim := { program := "ytnfdhgfpjamphaa", sum := "932748d426bc18e058bddb60d0996fc3f5680786cdd68c87ff07f1a7b7ecea2a", func := "fenland/fenlandlaw10.PagePut", spec := "pagePut", unfollowed := true, recurses := true, apart := false, narrowed := true }
def PagePutUptoSaid : Prop := pagePutUptoRow.holds Try.pinned (OpenSpec.upto pagePutSpec)

end Rows
end Go.Proofs.Ytnfdhgfpjamphaa
