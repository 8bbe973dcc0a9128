/-
  No cell of these rows narrows 'for every input' (looked for: loops, veiled, ifaces, maps, wideKeys, modest, calm, conditions, laid).
  DERIVED. THE GIVEN ROWS OF THIS SEAT. 6 by the template 'for every input the law returns true; each argument reads behind the call as it read before'; 0 by the template 'total and deterministic' (their statements: YthcikbbglpdjhaaTotals.lean).
  GIVEN WITH THE SEED: the statements are not yours to turn. If you find one false, say at which input.
  Laid BY PROGRAM, IN A SANDBOX (cutbox-rows.mjs): the forced cells as the released guide's own fill.sh prints them over the translation 99b294c757c425b0… (all of the seat's roots in one cut). By AI agents, Wed Nov 11 2026. No macro, syntax, notation, axiom, sorry.
-/
import Derived.Test.YthcikbbglpdjhaaChecked
import GoSem.Claim
import GoSem.ClaimJoined
import GoSem.ClaimMapViews
import Derived.JoinedTies
import Derived.KernelRfl
namespace Go.Proofs.Ythcikbbglpdjhaa
/- THE CELL 'sum', in the pinned program and in every row, IS THE sha256 OF THE DUMP (.gsa) THAT YthcikbbglpdjhaaProg.lean LOADS. Nothing in Lean hashes anything: it is a label: what it is worth is what the hold of that sum in a sandbox is worth. -/
noncomputable def Try.pinned : Pinned := { name := "ythcikbbglpdjhaa", sum := "99b294c757c425b0d53da6b5ba6e6c8ed9de22a89450dd611318d8eec587c5f9", checked := Try.checked }
namespace Rows
def none {H : Type} : Left H := { results := [], args := [] }

/-- 'heronrylaw18.NoteTold': WHATEVER THE INPUT: true; the input reads as it did. -/
def noteToldSpec : ChangeSpec := { name := "noteTold", fn := fun _ => fun
  | [d1, d2] => { results := [.lit (.bool true)], args := [d1, d2] }
  | _ => none }
def noteToldRow : OpenClaim := { program := "ythcikbbglpdjhaa", sum := "99b294c757c425b0d53da6b5ba6e6c8ed9de22a89450dd611318d8eec587c5f9", func := "heronry/heronrylaw18.NoteTold", spec := "noteTold", unfollowed := true, recurses := true, apart := false }
def NoteToldSaid : Prop := noteToldRow.holds Try.pinned (OpenSpec.ofChange noteToldSpec)

/-- ITS FALSE NEIGHBOUR: 'it returns false'. Refute it at one input. -/
def noteToldWrong : ChangeSpec := { name := "noteTold", fn := fun _ => fun
  | [d1, d2] => { results := [.lit (.bool false)], args := [d1, d2] }
  | _ => none }
def NoteToldWrongFalsely : Prop := noteToldRow.holds Try.pinned (OpenSpec.ofChange noteToldWrong)

/-- 'heronrylaw18.NoteBack': WHATEVER THE INPUT: true; the input reads as it did. -/
def noteBackSpec : ChangeSpec := { name := "noteBack", fn := fun _ => fun
  | [d1, d2] => { results := [.lit (.bool true)], args := [d1, d2] }
  | _ => none }
def noteBackRow : OpenClaim := { program := "ythcikbbglpdjhaa", sum := "99b294c757c425b0d53da6b5ba6e6c8ed9de22a89450dd611318d8eec587c5f9", func := "heronry/heronrylaw18.NoteBack", spec := "noteBack", unfollowed := true, recurses := true, apart := false }
def NoteBackSaid : Prop := noteBackRow.holds Try.pinned (OpenSpec.ofChange noteBackSpec)

/-- ITS FALSE NEIGHBOUR: 'it returns false'. Refute it at one input. -/
def noteBackWrong : ChangeSpec := { name := "noteBack", fn := fun _ => fun
  | [d1, d2] => { results := [.lit (.bool false)], args := [d1, d2] }
  | _ => none }
def NoteBackWrongFalsely : Prop := noteBackRow.holds Try.pinned (OpenSpec.ofChange noteBackWrong)

/-- 'heronrylaw18.NoteMerges': WHATEVER THE INPUT: true; the input reads as it did. -/
def noteMergesSpec : ChangeSpec := { name := "noteMerges", fn := fun _ => fun
  | [d1, d2, d3] => { results := [.lit (.bool true)], args := [d1, d2, d3] }
  | _ => none }
def noteMergesRow : OpenClaim := { program := "ythcikbbglpdjhaa", sum := "99b294c757c425b0d53da6b5ba6e6c8ed9de22a89450dd611318d8eec587c5f9", func := "heronry/heronrylaw18.NoteMerges", spec := "noteMerges", inPlace := ["slices.overlaps[heronry/api.Image]"], unfollowed := true, recurses := true, apart := false }
def NoteMergesSaid : Prop := noteMergesRow.holds Try.pinned (OpenSpec.ofChange noteMergesSpec)

/-- ITS FALSE NEIGHBOUR: 'it returns false'. Refute it at one input. -/
def noteMergesWrong : ChangeSpec := { name := "noteMerges", fn := fun _ => fun
  | [d1, d2, d3] => { results := [.lit (.bool false)], args := [d1, d2, d3] }
  | _ => none }
def NoteMergesWrongFalsely : Prop := noteMergesRow.holds Try.pinned (OpenSpec.ofChange noteMergesWrong)

/-- 'heronrylaw18.NoteOrder': WHATEVER THE INPUT: true; the input reads as it did. -/
def noteOrderSpec : ChangeSpec := { name := "noteOrder", fn := fun _ => fun
  | [d1, d2, d3] => { results := [.lit (.bool true)], args := [d1, d2, d3] }
  | _ => none }
def noteOrderRow : OpenClaim := { program := "ythcikbbglpdjhaa", sum := "99b294c757c425b0d53da6b5ba6e6c8ed9de22a89450dd611318d8eec587c5f9", func := "heronry/heronrylaw18.NoteOrder", spec := "noteOrder", inPlace := ["slices.overlaps[heronry/api.Image]"], unfollowed := true, recurses := true, apart := false }
def NoteOrderSaid : Prop := noteOrderRow.holds Try.pinned (OpenSpec.ofChange noteOrderSpec)

/-- ITS FALSE NEIGHBOUR: 'it returns false'. Refute it at one input. -/
def noteOrderWrong : ChangeSpec := { name := "noteOrder", fn := fun _ => fun
  | [d1, d2, d3] => { results := [.lit (.bool false)], args := [d1, d2, d3] }
  | _ => none }
def NoteOrderWrongFalsely : Prop := noteOrderRow.holds Try.pinned (OpenSpec.ofChange noteOrderWrong)

/-- 'heronrylaw18.NoteIs': WHATEVER THE INPUT: true; the input reads as it did. -/
def noteIsSpec : ChangeSpec := { name := "noteIs", fn := fun _ => fun
  | [d1, d2, d3] => { results := [.lit (.bool true)], args := [d1, d2, d3] }
  | _ => none }
def noteIsRow : OpenClaim := { program := "ythcikbbglpdjhaa", sum := "99b294c757c425b0d53da6b5ba6e6c8ed9de22a89450dd611318d8eec587c5f9", func := "heronry/heronrylaw18.NoteIs", spec := "noteIs", inPlace := ["slices.overlaps[heronry/api.Image]"], unfollowed := true, recurses := true, apart := false }
def NoteIsSaid : Prop := noteIsRow.holds Try.pinned (OpenSpec.ofChange noteIsSpec)

/-- ITS FALSE NEIGHBOUR: 'it returns false'. Refute it at one input. -/
def noteIsWrong : ChangeSpec := { name := "noteIs", fn := fun _ => fun
  | [d1, d2, d3] => { results := [.lit (.bool false)], args := [d1, d2, d3] }
  | _ => none }
def NoteIsWrongFalsely : Prop := noteIsRow.holds Try.pinned (OpenSpec.ofChange noteIsWrong)

/-- 'heronrylaw18.NoteSizes': WHATEVER THE INPUT: true; the input reads as it did. -/
def noteSizesSpec : ChangeSpec := { name := "noteSizes", fn := fun _ => fun
  | [d1, d2] => { results := [.lit (.bool true)], args := [d1, d2] }
  | _ => none }
def noteSizesRow : OpenClaim := { program := "ythcikbbglpdjhaa", sum := "99b294c757c425b0d53da6b5ba6e6c8ed9de22a89450dd611318d8eec587c5f9", func := "heronry/heronrylaw18.NoteSizes", spec := "noteSizes", inPlace := ["slices.overlaps[heronry/api.Image]"], unfollowed := true, recurses := true, apart := false }
def NoteSizesSaid : Prop := noteSizesRow.holds Try.pinned (OpenSpec.ofChange noteSizesSpec)

/-- ITS FALSE NEIGHBOUR: 'it returns false'. Refute it at one input. -/
def noteSizesWrong : ChangeSpec := { name := "noteSizes", fn := fun _ => fun
  | [d1, d2] => { results := [.lit (.bool false)], args := [d1, d2] }
  | _ => none }
def NoteSizesWrongFalsely : Prop := noteSizesRow.holds Try.pinned (OpenSpec.ofChange noteSizesWrong)

/- THE SECOND FORM. 'bulk': how many values and letters a reading holds, each counted each time it is reached (what is shared counts as often as it is met; a slice's spare places count too). A statement '..UptoSaid' is the law's where the arguments, and the package variables that the reading takes, are together of bulk at most 1048576: NARROWER than '..Said'. Prove '..Said' where nothing that the law and all that it calls make is longer than what came in: it says more and counts as full. Else prove '..UptoSaid'. A law counts once. -/
mutual
def uptoBulk {H : Type} : DataW H → Nat
  | .lit (.string bytes) => bytes.length + 1
  | .lit _ => 1
  | .nil => 1
  | .ptr d => uptoBulk d + 1
  | .slice elems spare => uptoBulkAll elems + uptoBulkAll spare + 1
  | .agg parts => uptoBulkAll parts + 1
  | .iface _ d => uptoBulk d + 1
  | .map entries => uptoBulkEntries entries + 1
  | .held _ => 1
def uptoBulkAll {H : Type} : List (DataW H) → Nat
  | [] => 0
  | d :: r => uptoBulk d + uptoBulkAll r
def uptoBulkEntries {H : Type} : List (Lit × DataW H) → Nat
  | [] => 0
  | x :: r => uptoBulkEntry x + uptoBulkEntries r
def uptoBulkEntry {H : Type} : Lit × DataW H → Nat
  | (.string bytes, d) => bytes.length + uptoBulk d + 1
  | (_, d) => uptoBulk d + 1
 end
def uptoSmall : (H : Type) → List (DataW H) → Bool := fun _ ds => decide (uptoBulkAll ds ≤ 1048576)
def OpenSpec.upto (s : _root_.Go.ChangeSpec) : _root_.Go.OpenSpec := { _root_.Go.OpenSpec.ofChange s with cond := some uptoSmall }

/-- 'heronrylaw18.NoteTold', WHERE WHAT IT READS IS OF BULK AT MOST 1048576: true; the input reads as it did. -/
def noteToldUptoRow : OpenClaim := { program := "ythcikbbglpdjhaa", sum := "99b294c757c425b0d53da6b5ba6e6c8ed9de22a89450dd611318d8eec587c5f9", func := "heronry/heronrylaw18.NoteTold", spec := "noteTold", unfollowed := true, recurses := true, apart := false, narrowed := true }
def NoteToldUptoSaid : Prop := noteToldUptoRow.holds Try.pinned (OpenSpec.upto noteToldSpec)

/-- 'heronrylaw18.NoteBack', WHERE WHAT IT READS IS OF BULK AT MOST 1048576: true; the input reads as it did. -/
def noteBackUptoRow : OpenClaim := { program := "ythcikbbglpdjhaa", sum := "99b294c757c425b0d53da6b5ba6e6c8ed9de22a89450dd611318d8eec587c5f9", func := "heronry/heronrylaw18.NoteBack", spec := "noteBack", unfollowed := true, recurses := true, apart := false, narrowed := true }
def NoteBackUptoSaid : Prop := noteBackUptoRow.holds Try.pinned (OpenSpec.upto noteBackSpec)

/-- 'heronrylaw18.NoteMerges', WHERE WHAT IT READS IS OF BULK AT MOST 1048576: true; the input reads as it did. -/
def noteMergesUptoRow : OpenClaim := { program := "ythcikbbglpdjhaa", sum := "99b294c757c425b0d53da6b5ba6e6c8ed9de22a89450dd611318d8eec587c5f9", func := "heronry/heronrylaw18.NoteMerges", spec := "noteMerges", inPlace := ["slices.overlaps[heronry/api.Image]"], unfollowed := true, recurses := true, apart := false, narrowed := true }
def NoteMergesUptoSaid : Prop := noteMergesUptoRow.holds Try.pinned (OpenSpec.upto noteMergesSpec)

/-- 'heronrylaw18.NoteOrder', WHERE WHAT IT READS IS OF BULK AT MOST 1048576: true; the input reads as it did. -/
def noteOrderUptoRow : OpenClaim := { program := "ythcikbbglpdjhaa", sum := "99b294c757c425b0d53da6b5ba6e6c8ed9de22a89450dd611318d8eec587c5f9", func := "heronry/heronrylaw18.NoteOrder", spec := "noteOrder", inPlace := ["slices.overlaps[heronry/api.Image]"], unfollowed := true, recurses := true, apart := false, narrowed := true }
def NoteOrderUptoSaid : Prop := noteOrderUptoRow.holds Try.pinned (OpenSpec.upto noteOrderSpec)

/-- 'heronrylaw18.NoteIs', WHERE WHAT IT READS IS OF BULK AT MOST 1048576: true; the input reads as it did. -/
def noteIsUptoRow : OpenClaim := { program := "ythcikbbglpdjhaa", sum := "99b294c757c425b0d53da6b5ba6e6c8ed9de22a89450dd611318d8eec587c5f9", func := "heronry/heronrylaw18.NoteIs", spec := "noteIs", inPlace := ["slices.overlaps[heronry/api.Image]"], unfollowed := true, recurses := true, apart := false, narrowed := true }
def NoteIsUptoSaid : Prop := noteIsUptoRow.holds Try.pinned (OpenSpec.upto noteIsSpec)

/-- 'heronrylaw18.NoteSizes', WHERE WHAT IT READS IS OF BULK AT MOST 1048576: true; the input reads as it did. -/
def noteSizesUptoRow : OpenClaim := { program := "ythcikbbglpdjhaa", sum := "99b294c757c425b0d53da6b5ba6e6c8ed9de22a89450dd611318d8eec587c5f9", func := "heronry/heronrylaw18.NoteSizes", spec := "noteSizes", inPlace := ["slices.overlaps[heronry/api.Image]"], unfollowed := true, recurses := true, apart := false, narrowed := true }
def NoteSizesUptoSaid : Prop := noteSizesUptoRow.holds Try.pinned (OpenSpec.upto noteSizesSpec)

end Rows
end Go.Proofs.Ythcikbbglpdjhaa
