/-
  No cell of these rows narrows 'for every input' (looked for: loops, veiled, ifaces, maps, wideKeys, modest, calm, conditions, laid).
  DERIVED. THE GIVEN ROWS OF THIS SEAT. 8 by the template 'for every input the law returns true; each argument reads behind the call as it read before'; 0 by the template 'total and deterministic' (their statements: YtkcoabnghdlboaaTotals.lean).
  GIVEN WITH THE SEED: the statements are not yours to turn. If you find one false, say at which input.
  Laid BY PROGRAM, IN A SANDBOX (cutbox-rows.mjs): the forced cells as the released guide's own fill.sh prints them over the translation 0bf2326f4cdae325… (all of the seat's roots in one cut). By AI agents, Wed Nov 11 2026. No macro, syntax, notation, axiom, sorry.
-/
import Derived.Test.YtkcoabnghdlboaaChecked
import GoSem.Claim
import GoSem.ClaimJoined
import GoSem.ClaimMapViews
import Derived.JoinedTies
import Derived.KernelRfl
namespace Go.Proofs.Ytkcoabnghdlboaa
/- THE CELL 'sum', in the pinned program and in every row, IS THE sha256 OF THE DUMP (.gsa) THAT YtkcoabnghdlboaaProg.lean LOADS. Nothing in Lean hashes anything: it is a label: what it is worth is what the hold of that sum in a sandbox is worth. -/
noncomputable def Try.pinned : Pinned := { name := "ytkcoabnghdlboaa", sum := "0bf2326f4cdae325fc28135acea2d9bc3519ac0524e094ea17432d90cc728451", checked := Try.checked }
namespace Rows
def none {H : Type} : Left H := { results := [], args := [] }

/-- 'heronrylaw02.FloatOrder': WHATEVER THE INPUT: true; the input reads as it did. -/
def floatOrderSpec : ChangeSpec := { name := "floatOrder", fn := fun _ => fun
  | [d1, d2] => { results := [.lit (.bool true)], args := [d1, d2] }
  | _ => none }
def floatOrderRow : OpenClaim := { program := "ytkcoabnghdlboaa", sum := "0bf2326f4cdae325fc28135acea2d9bc3519ac0524e094ea17432d90cc728451", func := "heronry/heronrylaw02.FloatOrder", spec := "floatOrder", inPlace := ["math.Float64bits", "math.Float64frombits"], apart := false }
def FloatOrderSaid : Prop := floatOrderRow.holds Try.pinned (OpenSpec.ofChange floatOrderSpec)

/-- ITS FALSE NEIGHBOUR: 'it returns false'. Refute it at one input. -/
def floatOrderWrong : ChangeSpec := { name := "floatOrder", fn := fun _ => fun
  | [d1, d2] => { results := [.lit (.bool false)], args := [d1, d2] }
  | _ => none }
def FloatOrderWrongFalsely : Prop := floatOrderRow.holds Try.pinned (OpenSpec.ofChange floatOrderWrong)

/-- 'heronrylaw02.FloatNext': WHATEVER THE INPUT: true; the input reads as it did. -/
def floatNextSpec : ChangeSpec := { name := "floatNext", fn := fun _ => fun
  | [d1, d2] => { results := [.lit (.bool true)], args := [d1, d2] }
  | _ => none }
def floatNextRow : OpenClaim := { program := "ytkcoabnghdlboaa", sum := "0bf2326f4cdae325fc28135acea2d9bc3519ac0524e094ea17432d90cc728451", func := "heronry/heronrylaw02.FloatNext", spec := "floatNext", inPlace := ["math.Float64bits", "math.Float64frombits"], apart := false }
def FloatNextSaid : Prop := floatNextRow.holds Try.pinned (OpenSpec.ofChange floatNextSpec)

/-- ITS FALSE NEIGHBOUR: 'it returns false'. Refute it at one input. -/
def floatNextWrong : ChangeSpec := { name := "floatNext", fn := fun _ => fun
  | [d1, d2] => { results := [.lit (.bool false)], args := [d1, d2] }
  | _ => none }
def FloatNextWrongFalsely : Prop := floatNextRow.holds Try.pinned (OpenSpec.ofChange floatNextWrong)

/-- 'heronrylaw02.FloatTwo': WHATEVER THE INPUT: true; the input reads as it did. -/
def floatTwoSpec : ChangeSpec := { name := "floatTwo", fn := fun _ => fun
  | [d1, d2] => { results := [.lit (.bool true)], args := [d1, d2] }
  | _ => none }
def floatTwoRow : OpenClaim := { program := "ytkcoabnghdlboaa", sum := "0bf2326f4cdae325fc28135acea2d9bc3519ac0524e094ea17432d90cc728451", func := "heronry/heronrylaw02.FloatTwo", spec := "floatTwo", inPlace := ["math.Float64bits", "math.Float64frombits"], apart := false }
def FloatTwoSaid : Prop := floatTwoRow.holds Try.pinned (OpenSpec.ofChange floatTwoSpec)

/-- ITS FALSE NEIGHBOUR: 'it returns false'. Refute it at one input. -/
def floatTwoWrong : ChangeSpec := { name := "floatTwo", fn := fun _ => fun
  | [d1, d2] => { results := [.lit (.bool false)], args := [d1, d2] }
  | _ => none }
def FloatTwoWrongFalsely : Prop := floatTwoRow.holds Try.pinned (OpenSpec.ofChange floatTwoWrong)

/-- 'heronrylaw02.FloatMin': WHATEVER THE INPUT: true; the input reads as it did. -/
def floatMinSpec : ChangeSpec := { name := "floatMin", fn := fun _ => fun
  | [d1, d2] => { results := [.lit (.bool true)], args := [d1, d2] }
  | _ => none }
def floatMinRow : OpenClaim := { program := "ytkcoabnghdlboaa", sum := "0bf2326f4cdae325fc28135acea2d9bc3519ac0524e094ea17432d90cc728451", func := "heronry/heronrylaw02.FloatMin", spec := "floatMin", inPlace := ["math.Float64bits", "math.Float64frombits"], apart := false }
def FloatMinSaid : Prop := floatMinRow.holds Try.pinned (OpenSpec.ofChange floatMinSpec)

/-- ITS FALSE NEIGHBOUR: 'it returns false'. Refute it at one input. -/
def floatMinWrong : ChangeSpec := { name := "floatMin", fn := fun _ => fun
  | [d1, d2] => { results := [.lit (.bool false)], args := [d1, d2] }
  | _ => none }
def FloatMinWrongFalsely : Prop := floatMinRow.holds Try.pinned (OpenSpec.ofChange floatMinWrong)

/-- 'heronrylaw02.FloatWhole': WHATEVER THE INPUT: true; the input reads as it did. -/
def floatWholeSpec : ChangeSpec := { name := "floatWhole", fn := fun _ => fun
  | [d1, d2] => { results := [.lit (.bool true)], args := [d1, d2] }
  | _ => none }
def floatWholeRow : OpenClaim := { program := "ytkcoabnghdlboaa", sum := "0bf2326f4cdae325fc28135acea2d9bc3519ac0524e094ea17432d90cc728451", func := "heronry/heronrylaw02.FloatWhole", spec := "floatWhole", inPlace := ["math.Float64bits", "math.Float64frombits", "math.archTrunc"], apart := false }
def FloatWholeSaid : Prop := floatWholeRow.holds Try.pinned (OpenSpec.ofChange floatWholeSpec)

/-- ITS FALSE NEIGHBOUR: 'it returns false'. Refute it at one input. -/
def floatWholeWrong : ChangeSpec := { name := "floatWhole", fn := fun _ => fun
  | [d1, d2] => { results := [.lit (.bool false)], args := [d1, d2] }
  | _ => none }
def FloatWholeWrongFalsely : Prop := floatWholeRow.holds Try.pinned (OpenSpec.ofChange floatWholeWrong)

/-- 'heronrylaw02.FloatKinds': WHATEVER THE INPUT: true; the input reads as it did. -/
def floatKindsSpec : ChangeSpec := { name := "floatKinds", fn := fun _ => fun
  | [d] => { results := [.lit (.bool true)], args := [d] }
  | _ => none }
def floatKindsRow : OpenClaim := { program := "ytkcoabnghdlboaa", sum := "0bf2326f4cdae325fc28135acea2d9bc3519ac0524e094ea17432d90cc728451", func := "heronry/heronrylaw02.FloatKinds", spec := "floatKinds", inPlace := ["math.Float64bits", "math.Float64frombits", "math.archTrunc"], apart := false }
def FloatKindsSaid : Prop := floatKindsRow.holds Try.pinned (OpenSpec.ofChange floatKindsSpec)

/-- ITS FALSE NEIGHBOUR: 'it returns false'. Refute it at one input. -/
def floatKindsWrong : ChangeSpec := { name := "floatKinds", fn := fun _ => fun
  | [d] => { results := [.lit (.bool false)], args := [d] }
  | _ => none }
def FloatKindsWrongFalsely : Prop := floatKindsRow.holds Try.pinned (OpenSpec.ofChange floatKindsWrong)

/-- 'heronrylaw02.FloatRounds': WHATEVER THE INPUT: true; the input reads as it did. -/
def floatRoundsSpec : ChangeSpec := { name := "floatRounds", fn := fun _ => fun
  | [d] => { results := [.lit (.bool true)], args := [d] }
  | _ => none }
def floatRoundsRow : OpenClaim := { program := "ytkcoabnghdlboaa", sum := "0bf2326f4cdae325fc28135acea2d9bc3519ac0524e094ea17432d90cc728451", func := "heronry/heronrylaw02.FloatRounds", spec := "floatRounds", inPlace := ["math.Float64bits", "math.Float64frombits", "math.archTrunc"], apart := false }
def FloatRoundsSaid : Prop := floatRoundsRow.holds Try.pinned (OpenSpec.ofChange floatRoundsSpec)

/-- ITS FALSE NEIGHBOUR: 'it returns false'. Refute it at one input. -/
def floatRoundsWrong : ChangeSpec := { name := "floatRounds", fn := fun _ => fun
  | [d] => { results := [.lit (.bool false)], args := [d] }
  | _ => none }
def FloatRoundsWrongFalsely : Prop := floatRoundsRow.holds Try.pinned (OpenSpec.ofChange floatRoundsWrong)

/-- 'heronrylaw02.FloatIs': WHATEVER THE INPUT: true; the input reads as it did. -/
def floatIsSpec : ChangeSpec := { name := "floatIs", fn := fun _ => fun
  | [d1, d2] => { results := [.lit (.bool true)], args := [d1, d2] }
  | _ => none }
def floatIsRow : OpenClaim := { program := "ytkcoabnghdlboaa", sum := "0bf2326f4cdae325fc28135acea2d9bc3519ac0524e094ea17432d90cc728451", func := "heronry/heronrylaw02.FloatIs", spec := "floatIs", inPlace := ["math.Float64bits", "math.Float64frombits", "math.archTrunc"], apart := false }
def FloatIsSaid : Prop := floatIsRow.holds Try.pinned (OpenSpec.ofChange floatIsSpec)

/-- ITS FALSE NEIGHBOUR: 'it returns false'. Refute it at one input. -/
def floatIsWrong : ChangeSpec := { name := "floatIs", fn := fun _ => fun
  | [d1, d2] => { results := [.lit (.bool false)], args := [d1, d2] }
  | _ => none }
def FloatIsWrongFalsely : Prop := floatIsRow.holds Try.pinned (OpenSpec.ofChange floatIsWrong)

/- THE SECOND FORM. 'bulk': how many values and letters a reading holds, each counted each time it is reached (what is shared counts as often as it is met; a slice's spare places count too). A statement '..UptoSaid' is the law's where the arguments, and the package variables that the reading takes, are together of bulk at most 1048576: NARROWER than '..Said'. Prove '..Said' where nothing that the law and all that it calls make is longer than what came in: it says more and counts as full. Else prove '..UptoSaid'. A law counts once. -/
mutual
def uptoBulk {H : Type} : DataW H → Nat
  | .lit (.string bytes) => bytes.length + 1
  | .lit _ => 1
  | .nil => 1
  | .ptr d => uptoBulk d + 1
  | .slice elems spare => uptoBulkAll elems + uptoBulkAll spare + 1
  | .agg parts => uptoBulkAll parts + 1
  | .iface _ d => uptoBulk d + 1
  | .map entries => uptoBulkEntries entries + 1
  | .held _ => 1
def uptoBulkAll {H : Type} : List (DataW H) → Nat
  | [] => 0
  | d :: r => uptoBulk d + uptoBulkAll r
def uptoBulkEntries {H : Type} : List (Lit × DataW H) → Nat
  | [] => 0
  | x :: r => uptoBulkEntry x + uptoBulkEntries r
def uptoBulkEntry {H : Type} : Lit × DataW H → Nat
  | (.string bytes, d) => bytes.length + uptoBulk d + 1
  | (_, d) => uptoBulk d + 1
 end
def uptoSmall : (H : Type) → List (DataW H) → Bool := fun _ ds => decide (uptoBulkAll ds ≤ 1048576)
def OpenSpec.upto (s : _root_.Go.ChangeSpec) : _root_.Go.OpenSpec := { _root_.Go.OpenSpec.ofChange s with cond := some uptoSmall }

/-- 'heronrylaw02.FloatOrder', WHERE WHAT IT READS IS OF BULK AT MOST 1048576: true; the input reads as it did. -/
def floatOrderUptoRow : OpenClaim := { program := "ytkcoabnghdlboaa", sum := "0bf2326f4cdae325fc28135acea2d9bc3519ac0524e094ea17432d90cc728451", func := "heronry/heronrylaw02.FloatOrder", spec := "floatOrder", inPlace := ["math.Float64bits", "math.Float64frombits"], apart := false, narrowed := true }
def FloatOrderUptoSaid : Prop := floatOrderUptoRow.holds Try.pinned (OpenSpec.upto floatOrderSpec)

/-- 'heronrylaw02.FloatNext', WHERE WHAT IT READS IS OF BULK AT MOST 1048576: true; the input reads as it did. -/
def floatNextUptoRow : OpenClaim := { program := "ytkcoabnghdlboaa", sum := "0bf2326f4cdae325fc28135acea2d9bc3519ac0524e094ea17432d90cc728451", func := "heronry/heronrylaw02.FloatNext", spec := "floatNext", inPlace := ["math.Float64bits", "math.Float64frombits"], apart := false, narrowed := true }
def FloatNextUptoSaid : Prop := floatNextUptoRow.holds Try.pinned (OpenSpec.upto floatNextSpec)

/-- 'heronrylaw02.FloatTwo', WHERE WHAT IT READS IS OF BULK AT MOST 1048576: true; the input reads as it did. -/
def floatTwoUptoRow : OpenClaim := { program := "ytkcoabnghdlboaa", sum := "0bf2326f4cdae325fc28135acea2d9bc3519ac0524e094ea17432d90cc728451", func := "heronry/heronrylaw02.FloatTwo", spec := "floatTwo", inPlace := ["math.Float64bits", "math.Float64frombits"], apart := false, narrowed := true }
def FloatTwoUptoSaid : Prop := floatTwoUptoRow.holds Try.pinned (OpenSpec.upto floatTwoSpec)

/-- 'heronrylaw02.FloatMin', WHERE WHAT IT READS IS OF BULK AT MOST 1048576: true; the input reads as it did. -/
def floatMinUptoRow : OpenClaim := { program := "ytkcoabnghdlboaa", sum := "0bf2326f4cdae325fc28135acea2d9bc3519ac0524e094ea17432d90cc728451", func := "heronry/heronrylaw02.FloatMin", spec := "floatMin", inPlace := ["math.Float64bits", "math.Float64frombits"], apart := false, narrowed := true }
def FloatMinUptoSaid : Prop := floatMinUptoRow.holds Try.pinned (OpenSpec.upto floatMinSpec)

/-- 'heronrylaw02.FloatWhole', WHERE WHAT IT READS IS OF BULK AT MOST 1048576: true; the input reads as it did. -/
def floatWholeUptoRow : OpenClaim := { program := "ytkcoabnghdlboaa", sum := "0bf2326f4cdae325fc28135acea2d9bc3519ac0524e094ea17432d90cc728451", func := "heronry/heronrylaw02.FloatWhole", spec := "floatWhole", inPlace := ["math.Float64bits", "math.Float64frombits", "math.archTrunc"], apart := false, narrowed := true }
def FloatWholeUptoSaid : Prop := floatWholeUptoRow.holds Try.pinned (OpenSpec.upto floatWholeSpec)

/-- 'heronrylaw02.FloatKinds', WHERE WHAT IT READS IS OF BULK AT MOST 1048576: true; the input reads as it did. -/
def floatKindsUptoRow : OpenClaim := { program := "ytkcoabnghdlboaa", sum := "0bf2326f4cdae325fc28135acea2d9bc3519ac0524e094ea17432d90cc728451", func := "heronry/heronrylaw02.FloatKinds", spec := "floatKinds", inPlace := ["math.Float64bits", "math.Float64frombits", "math.archTrunc"], apart := false, narrowed := true }
def FloatKindsUptoSaid : Prop := floatKindsUptoRow.holds Try.pinned (OpenSpec.upto floatKindsSpec)

/-- 'heronrylaw02.FloatRounds', WHERE WHAT IT READS IS OF BULK AT MOST 1048576: true; the input reads as it did. -/
def floatRoundsUptoRow : OpenClaim := { program := "ytkcoabnghdlboaa", sum := "0bf2326f4cdae325fc28135acea2d9bc3519ac0524e094ea17432d90cc728451", func := "heronry/heronrylaw02.FloatRounds", spec := "floatRounds", inPlace := ["math.Float64bits", "math.Float64frombits", "math.archTrunc"], apart := false, narrowed := true }
def FloatRoundsUptoSaid : Prop := floatRoundsUptoRow.holds Try.pinned (OpenSpec.upto floatRoundsSpec)

/-- 'heronrylaw02.FloatIs', WHERE WHAT IT READS IS OF BULK AT MOST 1048576: true; the input reads as it did. -/
def floatIsUptoRow : OpenClaim := { program := "ytkcoabnghdlboaa", sum := "0bf2326f4cdae325fc28135acea2d9bc3519ac0524e094ea17432d90cc728451", func := "heronry/heronrylaw02.FloatIs", spec := "floatIs", inPlace := ["math.Float64bits", "math.Float64frombits", "math.archTrunc"], apart := false, narrowed := true }
def FloatIsUptoSaid : Prop := floatIsUptoRow.holds Try.pinned (OpenSpec.upto floatIsSpec)

end Rows
end Go.Proofs.Ytkcoabnghdlboaa
