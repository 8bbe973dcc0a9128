/-
  No cell of these rows narrows 'for every input' (looked for: loops, veiled, ifaces, maps, wideKeys, modest, calm, conditions, laid).
  DERIVED. THE GIVEN ROWS OF THIS SEAT. 5 by the template 'for every input the law returns true; each argument reads behind the call as it read before'; 0 by the template 'total and deterministic' (their statements: YtjbdlgjhnldfbaaTotals.lean).
  GIVEN WITH THE SEED: the statements are not yours to turn. If you find one false, say at which input.
  Laid BY PROGRAM, IN A SANDBOX (cutbox-rows.mjs): the forced cells as the released guide's own fill.sh prints them over the translation 9877a822a7ecec93… (all of the seat's roots in one cut). By AI agents, Wed Nov 11 2026. No macro, syntax, notation, axiom, sorry.
-/
import Derived.Test.YtjbdlgjhnldfbaaChecked
import GoSem.Claim
import GoSem.ClaimJoined
import GoSem.ClaimMapViews
import Derived.JoinedTies
import Derived.KernelRfl
namespace Go.Proofs.Ytjbdlgjhnldfbaa
/- THE CELL 'sum', in the pinned program and in every row, IS THE sha256 OF THE DUMP (.gsa) THAT YtjbdlgjhnldfbaaProg.lean LOADS. Nothing in Lean hashes anything: it is a label: what it is worth is what the hold of that sum in a sandbox is worth. -/
noncomputable def Try.pinned : Pinned := { name := "ytjbdlgjhnldfbaa", sum := "9877a822a7ecec93aa9aebdb121b0cc715a022390582e87619fbc504ca444526", checked := Try.checked }
namespace Rows
def none {H : Type} : Left H := { results := [], args := [] }

/-- 'heronrylaw21.SchedRanks': WHATEVER THE INPUT: true; the input reads as it did. -/
def schedRanksSpec : ChangeSpec := { name := "schedRanks", fn := fun _ => fun
  | [d] => { results := [.lit (.bool true)], args := [d] }
  | _ => none }
def schedRanksRow : OpenClaim := { program := "ytjbdlgjhnldfbaa", sum := "9877a822a7ecec93aa9aebdb121b0cc715a022390582e87619fbc504ca444526", func := "heronry/heronrylaw21.SchedRanks", spec := "schedRanks", inPlace := ["math.Float64bits", "math.Float64frombits"], unfollowed := true, recurses := true, apart := false }
def SchedRanksSaid : Prop := schedRanksRow.holds Try.pinned (OpenSpec.ofChange schedRanksSpec)

/-- ITS FALSE NEIGHBOUR: 'it returns false'. Refute it at one input. -/
def schedRanksWrong : ChangeSpec := { name := "schedRanks", fn := fun _ => fun
  | [d] => { results := [.lit (.bool false)], args := [d] }
  | _ => none }
def SchedRanksWrongFalsely : Prop := schedRanksRow.holds Try.pinned (OpenSpec.ofChange schedRanksWrong)

/-- 'heronrylaw21.SchedPicks': WHATEVER THE INPUT: true; the input reads as it did. -/
def schedPicksSpec : ChangeSpec := { name := "schedPicks", fn := fun _ => fun
  | [d1, d2] => { results := [.lit (.bool true)], args := [d1, d2] }
  | _ => none }
def schedPicksRow : OpenClaim := { program := "ytjbdlgjhnldfbaa", sum := "9877a822a7ecec93aa9aebdb121b0cc715a022390582e87619fbc504ca444526", func := "heronry/heronrylaw21.SchedPicks", spec := "schedPicks", inPlace := ["math.Float64bits", "math.Float64frombits"], unfollowed := true, recurses := true, apart := false }
def SchedPicksSaid : Prop := schedPicksRow.holds Try.pinned (OpenSpec.ofChange schedPicksSpec)

/-- ITS FALSE NEIGHBOUR: 'it returns false'. Refute it at one input. -/
def schedPicksWrong : ChangeSpec := { name := "schedPicks", fn := fun _ => fun
  | [d1, d2] => { results := [.lit (.bool false)], args := [d1, d2] }
  | _ => none }
def SchedPicksWrongFalsely : Prop := schedPicksRow.holds Try.pinned (OpenSpec.ofChange schedPicksWrong)

/-- 'heronrylaw21.SchedFair': WHATEVER THE INPUT: true; the input reads as it did. -/
def schedFairSpec : ChangeSpec := { name := "schedFair", fn := fun _ => fun
  | [d1, d2, d3] => { results := [.lit (.bool true)], args := [d1, d2, d3] }
  | _ => none }
def schedFairRow : OpenClaim := { program := "ytjbdlgjhnldfbaa", sum := "9877a822a7ecec93aa9aebdb121b0cc715a022390582e87619fbc504ca444526", func := "heronry/heronrylaw21.SchedFair", spec := "schedFair", inPlace := ["math.Float64bits", "math.Float64frombits"], unfollowed := true, recurses := true, apart := false }
def SchedFairSaid : Prop := schedFairRow.holds Try.pinned (OpenSpec.ofChange schedFairSpec)

/-- ITS FALSE NEIGHBOUR: 'it returns false'. Refute it at one input. -/
def schedFairWrong : ChangeSpec := { name := "schedFair", fn := fun _ => fun
  | [d1, d2, d3] => { results := [.lit (.bool false)], args := [d1, d2, d3] }
  | _ => none }
def SchedFairWrongFalsely : Prop := schedFairRow.holds Try.pinned (OpenSpec.ofChange schedFairWrong)

/-- 'heronrylaw21.SchedDrops': WHATEVER THE INPUT: true; the input reads as it did. -/
def schedDropsSpec : ChangeSpec := { name := "schedDrops", fn := fun _ => fun
  | [d1, d2] => { results := [.lit (.bool true)], args := [d1, d2] }
  | _ => none }
def schedDropsRow : OpenClaim := { program := "ytjbdlgjhnldfbaa", sum := "9877a822a7ecec93aa9aebdb121b0cc715a022390582e87619fbc504ca444526", func := "heronry/heronrylaw21.SchedDrops", spec := "schedDrops", inPlace := ["math.Float64bits", "math.Float64frombits"], unfollowed := true, recurses := true, apart := false }
def SchedDropsSaid : Prop := schedDropsRow.holds Try.pinned (OpenSpec.ofChange schedDropsSpec)

/-- ITS FALSE NEIGHBOUR: 'it returns false'. Refute it at one input. -/
def schedDropsWrong : ChangeSpec := { name := "schedDrops", fn := fun _ => fun
  | [d1, d2] => { results := [.lit (.bool false)], args := [d1, d2] }
  | _ => none }
def SchedDropsWrongFalsely : Prop := schedDropsRow.holds Try.pinned (OpenSpec.ofChange schedDropsWrong)

/-- 'heronrylaw21.SchedIs': WHATEVER THE INPUT: true; the input reads as it did. -/
def schedIsSpec : ChangeSpec := { name := "schedIs", fn := fun _ => fun
  | [d1, d2, d3, d4] => { results := [.lit (.bool true)], args := [d1, d2, d3, d4] }
  | _ => none }
def schedIsRow : OpenClaim := { program := "ytjbdlgjhnldfbaa", sum := "9877a822a7ecec93aa9aebdb121b0cc715a022390582e87619fbc504ca444526", func := "heronry/heronrylaw21.SchedIs", spec := "schedIs", inPlace := ["math.Float64bits", "math.Float64frombits"], unfollowed := true, recurses := true, apart := false }
def SchedIsSaid : Prop := schedIsRow.holds Try.pinned (OpenSpec.ofChange schedIsSpec)

/-- ITS FALSE NEIGHBOUR: 'it returns false'. Refute it at one input. -/
def schedIsWrong : ChangeSpec := { name := "schedIs", fn := fun _ => fun
  | [d1, d2, d3, d4] => { results := [.lit (.bool false)], args := [d1, d2, d3, d4] }
  | _ => none }
def SchedIsWrongFalsely : Prop := schedIsRow.holds Try.pinned (OpenSpec.ofChange schedIsWrong)

/- THE SECOND FORM. 'bulk': how many values and letters a reading holds, each counted each time it is reached (what is shared counts as often as it is met; a slice's spare places count too). A statement '..UptoSaid' is the law's where the arguments, and the package variables that the reading takes, are together of bulk at most 1048576: NARROWER than '..Said'. Prove '..Said' where nothing that the law and all that it calls make is longer than what came in: it says more and counts as full. Else prove '..UptoSaid'. A law counts once. -/
mutual
def uptoBulk {H : Type} : DataW H → Nat
  | .lit (.string bytes) => bytes.length + 1
  | .lit _ => 1
  | .nil => 1
  | .ptr d => uptoBulk d + 1
  | .slice elems spare => uptoBulkAll elems + uptoBulkAll spare + 1
  | .agg parts => uptoBulkAll parts + 1
  | .iface _ d => uptoBulk d + 1
  | .map entries => uptoBulkEntries entries + 1
  | .held _ => 1
def uptoBulkAll {H : Type} : List (DataW H) → Nat
  | [] => 0
  | d :: r => uptoBulk d + uptoBulkAll r
def uptoBulkEntries {H : Type} : List (Lit × DataW H) → Nat
  | [] => 0
  | x :: r => uptoBulkEntry x + uptoBulkEntries r
def uptoBulkEntry {H : Type} : Lit × DataW H → Nat
  | (.string bytes, d) => bytes.length + uptoBulk d + 1
  | (_, d) => uptoBulk d + 1
 end
def uptoSmall : (H : Type) → List (DataW H) → Bool := fun _ ds => decide (uptoBulkAll ds ≤ 1048576)
def OpenSpec.upto (s : _root_.Go.ChangeSpec) : _root_.Go.OpenSpec := { _root_.Go.OpenSpec.ofChange s with cond := some uptoSmall }

/-- 'heronrylaw21.SchedRanks', WHERE WHAT IT READS IS OF BULK AT MOST 1048576: true; the input reads as it did. -/
def schedRanksUptoRow : OpenClaim := { program := "ytjbdlgjhnldfbaa", sum := "9877a822a7ecec93aa9aebdb121b0cc715a022390582e87619fbc504ca444526", func := "heronry/heronrylaw21.SchedRanks", spec := "schedRanks", inPlace := ["math.Float64bits", "math.Float64frombits"], unfollowed := true, recurses := true, apart := false, narrowed := true }
def SchedRanksUptoSaid : Prop := schedRanksUptoRow.holds Try.pinned (OpenSpec.upto schedRanksSpec)

/-- 'heronrylaw21.SchedPicks', WHERE WHAT IT READS IS OF BULK AT MOST 1048576: true; the input reads as it did. -/
def schedPicksUptoRow : OpenClaim := { program := "ytjbdlgjhnldfbaa", sum := "9877a822a7ecec93aa9aebdb121b0cc715a022390582e87619fbc504ca444526", func := "heronry/heronrylaw21.SchedPicks", spec := "schedPicks", inPlace := ["math.Float64bits", "math.Float64frombits"], unfollowed := true, recurses := true, apart := false, narrowed := true }
def SchedPicksUptoSaid : Prop := schedPicksUptoRow.holds Try.pinned (OpenSpec.upto schedPicksSpec)

/-- 'heronrylaw21.SchedFair', WHERE WHAT IT READS IS OF BULK AT MOST 1048576: true; the input reads as it did. -/
def schedFairUptoRow : OpenClaim := { program := "ytjbdlgjhnldfbaa", sum := "9877a822a7ecec93aa9aebdb121b0cc715a022390582e87619fbc504ca444526", func := "heronry/heronrylaw21.SchedFair", spec := "schedFair", inPlace := ["math.Float64bits", "math.Float64frombits"], unfollowed := true, recurses := true, apart := false, narrowed := true }
def SchedFairUptoSaid : Prop := schedFairUptoRow.holds Try.pinned (OpenSpec.upto schedFairSpec)

/-- 'heronrylaw21.SchedDrops', WHERE WHAT IT READS IS OF BULK AT MOST 1048576: true; the input reads as it did. -/
def schedDropsUptoRow : OpenClaim := { program := "ytjbdlgjhnldfbaa", sum := "9877a822a7ecec93aa9aebdb121b0cc715a022390582e87619fbc504ca444526", func := "heronry/heronrylaw21.SchedDrops", spec := "schedDrops", inPlace := ["math.Float64bits", "math.Float64frombits"], unfollowed := true, recurses := true, apart := false, narrowed := true }
def SchedDropsUptoSaid : Prop := schedDropsUptoRow.holds Try.pinned (OpenSpec.upto schedDropsSpec)

/-- 'heronrylaw21.SchedIs', WHERE WHAT IT READS IS OF BULK AT MOST 1048576: true; the input reads as it did. -/
def schedIsUptoRow : OpenClaim := { program := "ytjbdlgjhnldfbaa", sum := "9877a822a7ecec93aa9aebdb121b0cc715a022390582e87619fbc504ca444526", func := "heronry/heronrylaw21.SchedIs", spec := "schedIs", inPlace := ["math.Float64bits", "math.Float64frombits"], unfollowed := true, recurses := true, apart := false, narrowed := true }
def SchedIsUptoSaid : Prop := schedIsUptoRow.holds Try.pinned (OpenSpec.upto schedIsSpec)

end Rows
end Go.Proofs.Ytjbdlgjhnldfbaa
