/-
  No cell of these rows narrows 'for every input' (looked for: loops, veiled, ifaces, maps, wideKeys, modest, calm, conditions, laid).
  DERIVED. THE GIVEN ROWS OF THIS SEAT. 3 by the template 'for every input the law returns true; each argument reads behind the call as it read before'; 0 by the template 'total and deterministic' (their statements: YtdnkbmjlcdddcaaTotals.lean).
  GIVEN WITH THE SEED: the statements are not yours to turn. If you find one false, say at which input.
  Laid BY PROGRAM, IN A SANDBOX (cutbox-rows.mjs): the forced cells as the released guide's own fill.sh prints them over the translation 05e0bac487f99b96… (all of the seat's roots in one cut). By AI agents, Wed Nov 11 2026. No macro, syntax, notation, axiom, sorry.
-/
import Derived.Test.YtdnkbmjlcdddcaaChecked
import GoSem.Claim
import GoSem.ClaimJoined
import GoSem.ClaimMapViews
import Derived.JoinedTies
import Derived.KernelRfl
namespace Go.Proofs.Ytdnkbmjlcdddcaa
/- THE CELL 'sum', in the pinned program and in every row, IS THE sha256 OF THE DUMP (.gsa) THAT YtdnkbmjlcdddcaaProg.lean LOADS. Nothing in Lean hashes anything: it is a label: what it is worth is what the hold of that sum in a sandbox is worth. -/
noncomputable def Try.pinned : Pinned := { name := "ytdnkbmjlcdddcaa", sum := "05e0bac487f99b9628d08aa2dd7b9eb73e345dfd67030e906ef5039e8e823bdc", checked := Try.checked }
namespace Rows
def none {H : Type} : Left H := { results := [], args := [] }

/-- 'heronrylaw13.EscrowAll': WHATEVER THE INPUT: true; the input reads as it did. -/
def escrowAllSpec : ChangeSpec := { name := "escrowAll", fn := fun _ => fun
  | [d] => { results := [.lit (.bool true)], args := [d] }
  | _ => none }
def escrowAllRow : OpenClaim := { program := "ytdnkbmjlcdddcaa", sum := "05e0bac487f99b9628d08aa2dd7b9eb73e345dfd67030e906ef5039e8e823bdc", func := "heronry/heronrylaw13.EscrowAll", spec := "escrowAll", inPlace := ["math/bits.Add64", "slices.overlaps[heronry/escrow.Pend]"], unfollowed := true, recurses := true, apart := false }
def EscrowAllSaid : Prop := escrowAllRow.holds Try.pinned (OpenSpec.ofChange escrowAllSpec)

/-- ITS FALSE NEIGHBOUR: 'it returns false'. Refute it at one input. -/
def escrowAllWrong : ChangeSpec := { name := "escrowAll", fn := fun _ => fun
  | [d] => { results := [.lit (.bool false)], args := [d] }
  | _ => none }
def EscrowAllWrongFalsely : Prop := escrowAllRow.holds Try.pinned (OpenSpec.ofChange escrowAllWrong)

/-- 'heronrylaw13.EscrowUndo': WHATEVER THE INPUT: true; the input reads as it did. -/
def escrowUndoSpec : ChangeSpec := { name := "escrowUndo", fn := fun _ => fun
  | [d1, d2, d3] => { results := [.lit (.bool true)], args := [d1, d2, d3] }
  | _ => none }
def escrowUndoRow : OpenClaim := { program := "ytdnkbmjlcdddcaa", sum := "05e0bac487f99b9628d08aa2dd7b9eb73e345dfd67030e906ef5039e8e823bdc", func := "heronry/heronrylaw13.EscrowUndo", spec := "escrowUndo", inPlace := ["math/bits.Add64", "slices.overlaps[heronry/escrow.Pend]"], unfollowed := true, recurses := true, apart := false }
def EscrowUndoSaid : Prop := escrowUndoRow.holds Try.pinned (OpenSpec.ofChange escrowUndoSpec)

/-- ITS FALSE NEIGHBOUR: 'it returns false'. Refute it at one input. -/
def escrowUndoWrong : ChangeSpec := { name := "escrowUndo", fn := fun _ => fun
  | [d1, d2, d3] => { results := [.lit (.bool false)], args := [d1, d2, d3] }
  | _ => none }
def EscrowUndoWrongFalsely : Prop := escrowUndoRow.holds Try.pinned (OpenSpec.ofChange escrowUndoWrong)

/-- 'heronrylaw13.EscrowIs': WHATEVER THE INPUT: true; the input reads as it did. -/
def escrowIsSpec : ChangeSpec := { name := "escrowIs", fn := fun _ => fun
  | [d1, d2, d3, d4, d5, d6, d7] => { results := [.lit (.bool true)], args := [d1, d2, d3, d4, d5, d6, d7] }
  | _ => none }
def escrowIsRow : OpenClaim := { program := "ytdnkbmjlcdddcaa", sum := "05e0bac487f99b9628d08aa2dd7b9eb73e345dfd67030e906ef5039e8e823bdc", func := "heronry/heronrylaw13.EscrowIs", spec := "escrowIs", inPlace := ["math/bits.Add64", "slices.overlaps[heronry/escrow.Pend]"], unfollowed := true, recurses := true, apart := false }
def EscrowIsSaid : Prop := escrowIsRow.holds Try.pinned (OpenSpec.ofChange escrowIsSpec)

/-- ITS FALSE NEIGHBOUR: 'it returns false'. Refute it at one input. -/
def escrowIsWrong : ChangeSpec := { name := "escrowIs", fn := fun _ => fun
  | [d1, d2, d3, d4, d5, d6, d7] => { results := [.lit (.bool false)], args := [d1, d2, d3, d4, d5, d6, d7] }
  | _ => none }
def EscrowIsWrongFalsely : Prop := escrowIsRow.holds Try.pinned (OpenSpec.ofChange escrowIsWrong)

/- THE SECOND FORM. 'bulk': how many values and letters a reading holds, each counted each time it is reached (what is shared counts as often as it is met; a slice's spare places count too). A statement '..UptoSaid' is the law's where the arguments, and the package variables that the reading takes, are together of bulk at most 1048576: NARROWER than '..Said'. Prove '..Said' where nothing that the law and all that it calls make is longer than what came in: it says more and counts as full. Else prove '..UptoSaid'. A law counts once. -/
mutual
def uptoBulk {H : Type} : DataW H → Nat
  | .lit (.string bytes) => bytes.length + 1
  | .lit _ => 1
  | .nil => 1
  | .ptr d => uptoBulk d + 1
  | .slice elems spare => uptoBulkAll elems + uptoBulkAll spare + 1
  | .agg parts => uptoBulkAll parts + 1
  | .iface _ d => uptoBulk d + 1
  | .map entries => uptoBulkEntries entries + 1
  | .held _ => 1
def uptoBulkAll {H : Type} : List (DataW H) → Nat
  | [] => 0
  | d :: r => uptoBulk d + uptoBulkAll r
def uptoBulkEntries {H : Type} : List (Lit × DataW H) → Nat
  | [] => 0
  | x :: r => uptoBulkEntry x + uptoBulkEntries r
def uptoBulkEntry {H : Type} : Lit × DataW H → Nat
  | (.string bytes, d) => bytes.length + uptoBulk d + 1
  | (_, d) => uptoBulk d + 1
 end
def uptoSmall : (H : Type) → List (DataW H) → Bool := fun _ ds => decide (uptoBulkAll ds ≤ 1048576)
def OpenSpec.upto (s : _root_.Go.ChangeSpec) : _root_.Go.OpenSpec := { _root_.Go.OpenSpec.ofChange s with cond := some uptoSmall }

/-- 'heronrylaw13.EscrowAll', WHERE WHAT IT READS IS OF BULK AT MOST 1048576: true; the input reads as it did. -/
def escrowAllUptoRow : OpenClaim := { program := "ytdnkbmjlcdddcaa", sum := "05e0bac487f99b9628d08aa2dd7b9eb73e345dfd67030e906ef5039e8e823bdc", func := "heronry/heronrylaw13.EscrowAll", spec := "escrowAll", inPlace := ["math/bits.Add64", "slices.overlaps[heronry/escrow.Pend]"], unfollowed := true, recurses := true, apart := false, narrowed := true }
def EscrowAllUptoSaid : Prop := escrowAllUptoRow.holds Try.pinned (OpenSpec.upto escrowAllSpec)

/-- 'heronrylaw13.EscrowUndo', WHERE WHAT IT READS IS OF BULK AT MOST 1048576: true; the input reads as it did. -/
def escrowUndoUptoRow : OpenClaim := { program := "ytdnkbmjlcdddcaa", sum := "05e0bac487f99b9628d08aa2dd7b9eb73e345dfd67030e906ef5039e8e823bdc", func := "heronry/heronrylaw13.EscrowUndo", spec := "escrowUndo", inPlace := ["math/bits.Add64", "slices.overlaps[heronry/escrow.Pend]"], unfollowed := true, recurses := true, apart := false, narrowed := true }
def EscrowUndoUptoSaid : Prop := escrowUndoUptoRow.holds Try.pinned (OpenSpec.upto escrowUndoSpec)

/-- 'heronrylaw13.EscrowIs', WHERE WHAT IT READS IS OF BULK AT MOST 1048576: true; the input reads as it did. -/
def escrowIsUptoRow : OpenClaim := { program := "ytdnkbmjlcdddcaa", sum := "05e0bac487f99b9628d08aa2dd7b9eb73e345dfd67030e906ef5039e8e823bdc", func := "heronry/heronrylaw13.EscrowIs", spec := "escrowIs", inPlace := ["math/bits.Add64", "slices.overlaps[heronry/escrow.Pend]"], unfollowed := true, recurses := true, apart := false, narrowed := true }
def EscrowIsUptoSaid : Prop := escrowIsUptoRow.holds Try.pinned (OpenSpec.upto escrowIsSpec)

end Rows
end Go.Proofs.Ytdnkbmjlcdddcaa
