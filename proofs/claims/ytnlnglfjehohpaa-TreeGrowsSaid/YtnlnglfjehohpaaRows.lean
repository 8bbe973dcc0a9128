/-
  No cell of these rows narrows 'for every input' (looked for: loops, veiled, ifaces, maps, wideKeys, modest, calm, conditions, laid).
  DERIVED. THE GIVEN ROWS OF THIS SEAT. 5 by the template 'for every input the law returns true; each argument reads behind the call as it read before'; 0 by the template 'total and deterministic' (their statements: YtnlnglfjehohpaaTotals.lean).
  GIVEN WITH THE SEED: the statements are not yours to turn. If you find one false, say at which input.
  Laid BY PROGRAM, IN A SANDBOX (cutbox-rows.mjs): the forced cells as the released guide's own fill.sh prints them over the translation 751cbb3e66131893… (all of the seat's roots in one cut). By AI agents, Wed Nov 11 2026. No macro, syntax, notation, axiom, sorry.
-/
import Derived.Test.YtnlnglfjehohpaaChecked
import GoSem.Claim
import GoSem.ClaimJoined
import GoSem.ClaimMapViews
import Derived.JoinedTies
import Derived.KernelRfl
namespace Go.Proofs.Ytnlnglfjehohpaa
/- THE CELL 'sum', in the pinned program and in every row, IS THE sha256 OF THE DUMP (.gsa) THAT YtnlnglfjehohpaaProg.lean LOADS. Nothing in Lean hashes anything: it is a label: what it is worth is what the hold of that sum in a sandbox is worth. -/
noncomputable def Try.pinned : Pinned := { name := "ytnlnglfjehohpaa", sum := "751cbb3e66131893c3d2731dd22f8b9a103fa759bef41d05316e303148e3add1", checked := Try.checked }
namespace Rows
def none {H : Type} : Left H := { results := [], args := [] }

/-- 'heronrylaw09.TreeEnds': WHATEVER THE INPUT: true; the input reads as it did. -/
def treeEndsSpec : ChangeSpec := { name := "treeEnds", fn := fun _ => fun
  | [d1, d2] => { results := [.lit (.bool true)], args := [d1, d2] }
  | _ => none }
def treeEndsRow : OpenClaim := { program := "ytnlnglfjehohpaa", sum := "751cbb3e66131893c3d2731dd22f8b9a103fa759bef41d05316e303148e3add1", func := "heronry/heronrylaw09.TreeEnds", spec := "treeEnds", unfollowed := true, recurses := true, apart := false }
def TreeEndsSaid : Prop := treeEndsRow.holds Try.pinned (OpenSpec.ofChange treeEndsSpec)

/-- ITS FALSE NEIGHBOUR: 'it returns false'. Refute it at one input. -/
def treeEndsWrong : ChangeSpec := { name := "treeEnds", fn := fun _ => fun
  | [d1, d2] => { results := [.lit (.bool false)], args := [d1, d2] }
  | _ => none }
def TreeEndsWrongFalsely : Prop := treeEndsRow.holds Try.pinned (OpenSpec.ofChange treeEndsWrong)

/-- 'heronrylaw09.TreeWithin': WHATEVER THE INPUT: true; the input reads as it did. -/
def treeWithinSpec : ChangeSpec := { name := "treeWithin", fn := fun _ => fun
  | [d1, d2] => { results := [.lit (.bool true)], args := [d1, d2] }
  | _ => none }
def treeWithinRow : OpenClaim := { program := "ytnlnglfjehohpaa", sum := "751cbb3e66131893c3d2731dd22f8b9a103fa759bef41d05316e303148e3add1", func := "heronry/heronrylaw09.TreeWithin", spec := "treeWithin", unfollowed := true, recurses := true, apart := false }
def TreeWithinSaid : Prop := treeWithinRow.holds Try.pinned (OpenSpec.ofChange treeWithinSpec)

/-- ITS FALSE NEIGHBOUR: 'it returns false'. Refute it at one input. -/
def treeWithinWrong : ChangeSpec := { name := "treeWithin", fn := fun _ => fun
  | [d1, d2] => { results := [.lit (.bool false)], args := [d1, d2] }
  | _ => none }
def TreeWithinWrongFalsely : Prop := treeWithinRow.holds Try.pinned (OpenSpec.ofChange treeWithinWrong)

/-- 'heronrylaw09.TreeStays': WHATEVER THE INPUT: true; the input reads as it did. -/
def treeStaysSpec : ChangeSpec := { name := "treeStays", fn := fun _ => fun
  | [d1, d2, d3] => { results := [.lit (.bool true)], args := [d1, d2, d3] }
  | _ => none }
def treeStaysRow : OpenClaim := { program := "ytnlnglfjehohpaa", sum := "751cbb3e66131893c3d2731dd22f8b9a103fa759bef41d05316e303148e3add1", func := "heronry/heronrylaw09.TreeStays", spec := "treeStays", unfollowed := true, recurses := true, apart := false }
def TreeStaysSaid : Prop := treeStaysRow.holds Try.pinned (OpenSpec.ofChange treeStaysSpec)

/-- ITS FALSE NEIGHBOUR: 'it returns false'. Refute it at one input. -/
def treeStaysWrong : ChangeSpec := { name := "treeStays", fn := fun _ => fun
  | [d1, d2, d3] => { results := [.lit (.bool false)], args := [d1, d2, d3] }
  | _ => none }
def TreeStaysWrongFalsely : Prop := treeStaysRow.holds Try.pinned (OpenSpec.ofChange treeStaysWrong)

/-- 'heronrylaw09.TreeOrder': WHATEVER THE INPUT: true; the input reads as it did. -/
def treeOrderSpec : ChangeSpec := { name := "treeOrder", fn := fun _ => fun
  | [d] => { results := [.lit (.bool true)], args := [d] }
  | _ => none }
def treeOrderRow : OpenClaim := { program := "ytnlnglfjehohpaa", sum := "751cbb3e66131893c3d2731dd22f8b9a103fa759bef41d05316e303148e3add1", func := "heronry/heronrylaw09.TreeOrder", spec := "treeOrder", unfollowed := true, recurses := true, apart := false }
def TreeOrderSaid : Prop := treeOrderRow.holds Try.pinned (OpenSpec.ofChange treeOrderSpec)

/-- ITS FALSE NEIGHBOUR: 'it returns false'. Refute it at one input. -/
def treeOrderWrong : ChangeSpec := { name := "treeOrder", fn := fun _ => fun
  | [d] => { results := [.lit (.bool false)], args := [d] }
  | _ => none }
def TreeOrderWrongFalsely : Prop := treeOrderRow.holds Try.pinned (OpenSpec.ofChange treeOrderWrong)

/-- 'heronrylaw09.TreeGrows': WHATEVER THE INPUT: true; the input reads as it did. -/
def treeGrowsSpec : ChangeSpec := { name := "treeGrows", fn := fun _ => fun
  | [d] => { results := [.lit (.bool true)], args := [d] }
  | _ => none }
def treeGrowsRow : OpenClaim := { program := "ytnlnglfjehohpaa", sum := "751cbb3e66131893c3d2731dd22f8b9a103fa759bef41d05316e303148e3add1", func := "heronry/heronrylaw09.TreeGrows", spec := "treeGrows", unfollowed := true, recurses := true, apart := false }
def TreeGrowsSaid : Prop := treeGrowsRow.holds Try.pinned (OpenSpec.ofChange treeGrowsSpec)

/-- ITS FALSE NEIGHBOUR: 'it returns false'. Refute it at one input. -/
def treeGrowsWrong : ChangeSpec := { name := "treeGrows", fn := fun _ => fun
  | [d] => { results := [.lit (.bool false)], args := [d] }
  | _ => none }
def TreeGrowsWrongFalsely : Prop := treeGrowsRow.holds Try.pinned (OpenSpec.ofChange treeGrowsWrong)

/- THE SECOND FORM. 'bulk': how many values and letters a reading holds, each counted each time it is reached (what is shared counts as often as it is met; a slice's spare places count too). A statement '..UptoSaid' is the law's where the arguments, and the package variables that the reading takes, are together of bulk at most 1048576: NARROWER than '..Said'. Prove '..Said' where nothing that the law and all that it calls make is longer than what came in: it says more and counts as full. Else prove '..UptoSaid'. A law counts once. -/
mutual
def uptoBulk {H : Type} : DataW H → Nat
  | .lit (.string bytes) => bytes.length + 1
  | .lit _ => 1
  | .nil => 1
  | .ptr d => uptoBulk d + 1
  | .slice elems spare => uptoBulkAll elems + uptoBulkAll spare + 1
  | .agg parts => uptoBulkAll parts + 1
  | .iface _ d => uptoBulk d + 1
  | .map entries => uptoBulkEntries entries + 1
  | .held _ => 1
def uptoBulkAll {H : Type} : List (DataW H) → Nat
  | [] => 0
  | d :: r => uptoBulk d + uptoBulkAll r
def uptoBulkEntries {H : Type} : List (Lit × DataW H) → Nat
  | [] => 0
  | x :: r => uptoBulkEntry x + uptoBulkEntries r
def uptoBulkEntry {H : Type} : Lit × DataW H → Nat
  | (.string bytes, d) => bytes.length + uptoBulk d + 1
  | (_, d) => uptoBulk d + 1
 end
def uptoSmall : (H : Type) → List (DataW H) → Bool := fun _ ds => decide (uptoBulkAll ds ≤ 1048576)
def OpenSpec.upto (s : _root_.Go.ChangeSpec) : _root_.Go.OpenSpec := { _root_.Go.OpenSpec.ofChange s with cond := some uptoSmall }

/-- 'heronrylaw09.TreeEnds', WHERE WHAT IT READS IS OF BULK AT MOST 1048576: true; the input reads as it did. -/
def treeEndsUptoRow : OpenClaim := { program := "ytnlnglfjehohpaa", sum := "751cbb3e66131893c3d2731dd22f8b9a103fa759bef41d05316e303148e3add1", func := "heronry/heronrylaw09.TreeEnds", spec := "treeEnds", unfollowed := true, recurses := true, apart := false, narrowed := true }
def TreeEndsUptoSaid : Prop := treeEndsUptoRow.holds Try.pinned (OpenSpec.upto treeEndsSpec)

/-- 'heronrylaw09.TreeWithin', WHERE WHAT IT READS IS OF BULK AT MOST 1048576: true; the input reads as it did. -/
def treeWithinUptoRow : OpenClaim := { program := "ytnlnglfjehohpaa", sum := "751cbb3e66131893c3d2731dd22f8b9a103fa759bef41d05316e303148e3add1", func := "heronry/heronrylaw09.TreeWithin", spec := "treeWithin", unfollowed := true, recurses := true, apart := false, narrowed := true }
def TreeWithinUptoSaid : Prop := treeWithinUptoRow.holds Try.pinned (OpenSpec.upto treeWithinSpec)

/-- 'heronrylaw09.TreeStays', WHERE WHAT IT READS IS OF BULK AT MOST 1048576: true; the input reads as it did. -/
def treeStaysUptoRow : OpenClaim := { program := "ytnlnglfjehohpaa", sum := "751cbb3e66131893c3d2731dd22f8b9a103fa759bef41d05316e303148e3add1", func := "heronry/heronrylaw09.TreeStays", spec := "treeStays", unfollowed := true, recurses := true, apart := false, narrowed := true }
def TreeStaysUptoSaid : Prop := treeStaysUptoRow.holds Try.pinned (OpenSpec.upto treeStaysSpec)

/-- 'heronrylaw09.TreeOrder', WHERE WHAT IT READS IS OF BULK AT MOST 1048576: true; the input reads as it did. -/
def treeOrderUptoRow : OpenClaim := { program := "ytnlnglfjehohpaa", sum := "751cbb3e66131893c3d2731dd22f8b9a103fa759bef41d05316e303148e3add1", func := "heronry/heronrylaw09.TreeOrder", spec := "treeOrder", unfollowed := true, recurses := true, apart := false, narrowed := true }
def TreeOrderUptoSaid : Prop := treeOrderUptoRow.holds Try.pinned (OpenSpec.upto treeOrderSpec)

/-- 'heronrylaw09.TreeGrows', WHERE WHAT IT READS IS OF BULK AT MOST 1048576: true; the input reads as it did. -/
def treeGrowsUptoRow : OpenClaim := { program := "ytnlnglfjehohpaa", sum := "751cbb3e66131893c3d2731dd22f8b9a103fa759bef41d05316e303148e3add1", func := "heronry/heronrylaw09.TreeGrows", spec := "treeGrows", unfollowed := true, recurses := true, apart := false, narrowed := true }
def TreeGrowsUptoSaid : Prop := treeGrowsUptoRow.holds Try.pinned (OpenSpec.upto treeGrowsSpec)

end Rows
end Go.Proofs.Ytnlnglfjehohpaa
