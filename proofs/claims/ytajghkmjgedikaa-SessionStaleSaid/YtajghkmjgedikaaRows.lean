/-
  No cell of these rows narrows 'for every input' (looked for: loops, veiled, ifaces, maps, wideKeys, modest, calm, conditions, laid).
  DERIVED. THE GIVEN ROWS OF THIS SEAT. 3 by the template 'for every input the law returns true; each argument reads behind the call as it read before'; 0 by the template 'total and deterministic' (their statements: YtajghkmjgedikaaTotals.lean).
  GIVEN WITH THE SEED: the statements are not yours to turn. If you find one false, say at which input.
  Laid BY PROGRAM, IN A SANDBOX (cutbox-rows.mjs): the forced cells as the released guide's own fill.sh prints them over the translation ee72cede30cf7557… (all of the seat's roots in one cut). By AI agents, Wed Nov 11 2026. No macro, syntax, notation, axiom, sorry.
-/
import Derived.Test.YtajghkmjgedikaaChecked
import GoSem.Claim
import GoSem.ClaimJoined
import GoSem.ClaimMapViews
import Derived.JoinedTies
import Derived.KernelRfl
namespace Go.Proofs.Ytajghkmjgedikaa
/- THE CELL 'sum', in the pinned program and in every row, IS THE sha256 OF THE DUMP (.gsa) THAT YtajghkmjgedikaaProg.lean LOADS. Nothing in Lean hashes anything: it is a label: what it is worth is what the hold of that sum in a sandbox is worth. -/
noncomputable def Try.pinned : Pinned := { name := "ytajghkmjgedikaa", sum := "ee72cede30cf755765e747dcdc559ae31eaca642075c2a6ad66a58338676e6d1", checked := Try.checked }
namespace Rows
def none {H : Type} : Left H := { results := [], args := [] }

/-- 'heronrylaw22.SessionFull': WHATEVER THE INPUT: true; the input reads as it did. -/
def sessionFullSpec : ChangeSpec := { name := "sessionFull", fn := fun _ => fun
  | [d1, d2] => { results := [.lit (.bool true)], args := [d1, d2] }
  | _ => none }
def sessionFullRow : OpenClaim := { program := "ytajghkmjgedikaa", sum := "ee72cede30cf755765e747dcdc559ae31eaca642075c2a6ad66a58338676e6d1", func := "heronry/heronrylaw22.SessionFull", spec := "sessionFull", apart := false }
def SessionFullSaid : Prop := sessionFullRow.holds Try.pinned (OpenSpec.ofChange sessionFullSpec)

/-- ITS FALSE NEIGHBOUR: 'it returns false'. Refute it at one input. -/
def sessionFullWrong : ChangeSpec := { name := "sessionFull", fn := fun _ => fun
  | [d1, d2] => { results := [.lit (.bool false)], args := [d1, d2] }
  | _ => none }
def SessionFullWrongFalsely : Prop := sessionFullRow.holds Try.pinned (OpenSpec.ofChange sessionFullWrong)

/-- 'heronrylaw22.SessionStale': WHATEVER THE INPUT: true; the input reads as it did. -/
def sessionStaleSpec : ChangeSpec := { name := "sessionStale", fn := fun _ => fun
  | [d] => { results := [.lit (.bool true)], args := [d] }
  | _ => none }
def sessionStaleRow : OpenClaim := { program := "ytajghkmjgedikaa", sum := "ee72cede30cf755765e747dcdc559ae31eaca642075c2a6ad66a58338676e6d1", func := "heronry/heronrylaw22.SessionStale", spec := "sessionStale", inPlace := ["slices.overlaps[int]"], unfollowed := true, recurses := true, apart := false }
def SessionStaleSaid : Prop := sessionStaleRow.holds Try.pinned (OpenSpec.ofChange sessionStaleSpec)

/-- ITS FALSE NEIGHBOUR: 'it returns false'. Refute it at one input. -/
def sessionStaleWrong : ChangeSpec := { name := "sessionStale", fn := fun _ => fun
  | [d] => { results := [.lit (.bool false)], args := [d] }
  | _ => none }
def SessionStaleWrongFalsely : Prop := sessionStaleRow.holds Try.pinned (OpenSpec.ofChange sessionStaleWrong)

/-- 'heronrylaw22.SessionOwners': WHATEVER THE INPUT: true; the input reads as it did. -/
def sessionOwnersSpec : ChangeSpec := { name := "sessionOwners", fn := fun _ => fun
  | [d] => { results := [.lit (.bool true)], args := [d] }
  | _ => none }
def sessionOwnersRow : OpenClaim := { program := "ytajghkmjgedikaa", sum := "ee72cede30cf755765e747dcdc559ae31eaca642075c2a6ad66a58338676e6d1", func := "heronry/heronrylaw22.SessionOwners", spec := "sessionOwners", inPlace := ["slices.overlaps[int]"], unfollowed := true, recurses := true, apart := false }
def SessionOwnersSaid : Prop := sessionOwnersRow.holds Try.pinned (OpenSpec.ofChange sessionOwnersSpec)

/-- ITS FALSE NEIGHBOUR: 'it returns false'. Refute it at one input. -/
def sessionOwnersWrong : ChangeSpec := { name := "sessionOwners", fn := fun _ => fun
  | [d] => { results := [.lit (.bool false)], args := [d] }
  | _ => none }
def SessionOwnersWrongFalsely : Prop := sessionOwnersRow.holds Try.pinned (OpenSpec.ofChange sessionOwnersWrong)

/- THE SECOND FORM. 'bulk': how many values and letters a reading holds, each counted each time it is reached (what is shared counts as often as it is met; a slice's spare places count too). A statement '..UptoSaid' is the law's where the arguments, and the package variables that the reading takes, are together of bulk at most 1048576: NARROWER than '..Said'. Prove '..Said' where nothing that the law and all that it calls make is longer than what came in: it says more and counts as full. Else prove '..UptoSaid'. A law counts once. -/
mutual
def uptoBulk {H : Type} : DataW H → Nat
  | .lit (.string bytes) => bytes.length + 1
  | .lit _ => 1
  | .nil => 1
  | .ptr d => uptoBulk d + 1
  | .slice elems spare => uptoBulkAll elems + uptoBulkAll spare + 1
  | .agg parts => uptoBulkAll parts + 1
  | .iface _ d => uptoBulk d + 1
  | .map entries => uptoBulkEntries entries + 1
  | .held _ => 1
def uptoBulkAll {H : Type} : List (DataW H) → Nat
  | [] => 0
  | d :: r => uptoBulk d + uptoBulkAll r
def uptoBulkEntries {H : Type} : List (Lit × DataW H) → Nat
  | [] => 0
  | x :: r => uptoBulkEntry x + uptoBulkEntries r
def uptoBulkEntry {H : Type} : Lit × DataW H → Nat
  | (.string bytes, d) => bytes.length + uptoBulk d + 1
  | (_, d) => uptoBulk d + 1
 end
def uptoSmall : (H : Type) → List (DataW H) → Bool := fun _ ds => decide (uptoBulkAll ds ≤ 1048576)
def OpenSpec.upto (s : _root_.Go.ChangeSpec) : _root_.Go.OpenSpec := { _root_.Go.OpenSpec.ofChange s with cond := some uptoSmall }

/-- 'heronrylaw22.SessionFull', WHERE WHAT IT READS IS OF BULK AT MOST 1048576: true; the input reads as it did. -/
def sessionFullUptoRow : OpenClaim := { program := "ytajghkmjgedikaa", sum := "ee72cede30cf755765e747dcdc559ae31eaca642075c2a6ad66a58338676e6d1", func := "heronry/heronrylaw22.SessionFull", spec := "sessionFull", apart := false, narrowed := true }
def SessionFullUptoSaid : Prop := sessionFullUptoRow.holds Try.pinned (OpenSpec.upto sessionFullSpec)

/-- 'heronrylaw22.SessionStale', WHERE WHAT IT READS IS OF BULK AT MOST 1048576: true; the input reads as it did. -/
def sessionStaleUptoRow : OpenClaim := { program := "ytajghkmjgedikaa", sum := "ee72cede30cf755765e747dcdc559ae31eaca642075c2a6ad66a58338676e6d1", func := "heronry/heronrylaw22.SessionStale", spec := "sessionStale", inPlace := ["slices.overlaps[int]"], unfollowed := true, recurses := true, apart := false, narrowed := true }
def SessionStaleUptoSaid : Prop := sessionStaleUptoRow.holds Try.pinned (OpenSpec.upto sessionStaleSpec)

/-- 'heronrylaw22.SessionOwners', WHERE WHAT IT READS IS OF BULK AT MOST 1048576: true; the input reads as it did. -/
def sessionOwnersUptoRow : OpenClaim := { program := "ytajghkmjgedikaa", sum := "ee72cede30cf755765e747dcdc559ae31eaca642075c2a6ad66a58338676e6d1", func := "heronry/heronrylaw22.SessionOwners", spec := "sessionOwners", inPlace := ["slices.overlaps[int]"], unfollowed := true, recurses := true, apart := false, narrowed := true }
def SessionOwnersUptoSaid : Prop := sessionOwnersUptoRow.holds Try.pinned (OpenSpec.upto sessionOwnersSpec)

end Rows
end Go.Proofs.Ytajghkmjgedikaa
