/-
  No cell of these rows narrows 'for every input' (looked for: loops, veiled, ifaces, maps, wideKeys, modest, calm, conditions, laid).
  DERIVED. THE GIVEN ROWS OF THIS SEAT. 5 by the template 'for every input the law returns true; each argument reads behind the call as it read before'; 0 by the template 'total and deterministic' (their statements: YtjpoepiidmoegaaTotals.lean).
  GIVEN WITH THE SEED: the statements are not yours to turn. If you find one false, say at which input.
  Laid BY PROGRAM, IN A SANDBOX (cutbox-rows.mjs): the forced cells as the released guide's own fill.sh prints them over the translation 6e1b84c3e01d1c54… (all of the seat's roots in one cut). By AI agents, Wed Nov 11 2026. No macro, syntax, notation, axiom, sorry.
-/
import Derived.Test.YtjpoepiidmoegaaChecked
import GoSem.Claim
import GoSem.ClaimJoined
import GoSem.ClaimMapViews
import Derived.JoinedTies
import Derived.KernelRfl
namespace Go.Proofs.Ytjpoepiidmoegaa
/- THE CELL 'sum', in the pinned program and in every row, IS THE sha256 OF THE DUMP (.gsa) THAT YtjpoepiidmoegaaProg.lean LOADS. Nothing in Lean hashes anything: it is a label: what it is worth is what the hold of that sum in a sandbox is worth. -/
noncomputable def Try.pinned : Pinned := { name := "ytjpoepiidmoegaa", sum := "6e1b84c3e01d1c549eb0abbad49bbecefc06998ce1d37183ac14fa6ea5a4a295", checked := Try.checked }
namespace Rows
def none {H : Type} : Left H := { results := [], args := [] }

/-- 'heronrylaw15.OplistOpens': WHATEVER THE INPUT: true; the input reads as it did. -/
def oplistOpensSpec : ChangeSpec := { name := "oplistOpens", fn := fun _ => fun
  | [d1, d2, d3, d4] => { results := [.lit (.bool true)], args := [d1, d2, d3, d4] }
  | _ => none }
def oplistOpensRow : OpenClaim := { program := "ytjpoepiidmoegaa", sum := "6e1b84c3e01d1c549eb0abbad49bbecefc06998ce1d37183ac14fa6ea5a4a295", func := "heronry/heronrylaw15.OplistOpens", spec := "oplistOpens", unfollowed := true, recurses := true, plainKeys := false, apart := false }
def OplistOpensSaid : Prop := oplistOpensRow.holds Try.pinned (OpenSpec.ofChange oplistOpensSpec)

/-- ITS FALSE NEIGHBOUR: 'it returns false'. Refute it at one input. -/
def oplistOpensWrong : ChangeSpec := { name := "oplistOpens", fn := fun _ => fun
  | [d1, d2, d3, d4] => { results := [.lit (.bool false)], args := [d1, d2, d3, d4] }
  | _ => none }
def OplistOpensWrongFalsely : Prop := oplistOpensRow.holds Try.pinned (OpenSpec.ofChange oplistOpensWrong)

/-- 'heronrylaw15.OplistTwice': WHATEVER THE INPUT: true; the input reads as it did. -/
def oplistTwiceSpec : ChangeSpec := { name := "oplistTwice", fn := fun _ => fun
  | [d1, d2, d3] => { results := [.lit (.bool true)], args := [d1, d2, d3] }
  | _ => none }
def oplistTwiceRow : OpenClaim := { program := "ytjpoepiidmoegaa", sum := "6e1b84c3e01d1c549eb0abbad49bbecefc06998ce1d37183ac14fa6ea5a4a295", func := "heronry/heronrylaw15.OplistTwice", spec := "oplistTwice", unfollowed := true, recurses := true, plainKeys := false, apart := false }
def OplistTwiceSaid : Prop := oplistTwiceRow.holds Try.pinned (OpenSpec.ofChange oplistTwiceSpec)

/-- ITS FALSE NEIGHBOUR: 'it returns false'. Refute it at one input. -/
def oplistTwiceWrong : ChangeSpec := { name := "oplistTwice", fn := fun _ => fun
  | [d1, d2, d3] => { results := [.lit (.bool false)], args := [d1, d2, d3] }
  | _ => none }
def OplistTwiceWrongFalsely : Prop := oplistTwiceRow.holds Try.pinned (OpenSpec.ofChange oplistTwiceWrong)

/-- 'heronrylaw15.OplistUndoes': WHATEVER THE INPUT: true; the input reads as it did. -/
def oplistUndoesSpec : ChangeSpec := { name := "oplistUndoes", fn := fun _ => fun
  | [d1, d2] => { results := [.lit (.bool true)], args := [d1, d2] }
  | _ => none }
def oplistUndoesRow : OpenClaim := { program := "ytjpoepiidmoegaa", sum := "6e1b84c3e01d1c549eb0abbad49bbecefc06998ce1d37183ac14fa6ea5a4a295", func := "heronry/heronrylaw15.OplistUndoes", spec := "oplistUndoes", inPlace := ["math/bits.Add64"], unfollowed := true, recurses := true, plainKeys := false, apart := false }
def OplistUndoesSaid : Prop := oplistUndoesRow.holds Try.pinned (OpenSpec.ofChange oplistUndoesSpec)

/-- ITS FALSE NEIGHBOUR: 'it returns false'. Refute it at one input. -/
def oplistUndoesWrong : ChangeSpec := { name := "oplistUndoes", fn := fun _ => fun
  | [d1, d2] => { results := [.lit (.bool false)], args := [d1, d2] }
  | _ => none }
def OplistUndoesWrongFalsely : Prop := oplistUndoesRow.holds Try.pinned (OpenSpec.ofChange oplistUndoesWrong)

/-- 'heronrylaw15.OplistOps': WHATEVER THE INPUT: true; the input reads as it did. -/
def oplistOpsSpec : ChangeSpec := { name := "oplistOps", fn := fun _ => fun
  | [d1, d2] => { results := [.lit (.bool true)], args := [d1, d2] }
  | _ => none }
def oplistOpsRow : OpenClaim := { program := "ytjpoepiidmoegaa", sum := "6e1b84c3e01d1c549eb0abbad49bbecefc06998ce1d37183ac14fa6ea5a4a295", func := "heronry/heronrylaw15.OplistOps", spec := "oplistOps", unfollowed := true, recurses := true, plainKeys := false, apart := false }
def OplistOpsSaid : Prop := oplistOpsRow.holds Try.pinned (OpenSpec.ofChange oplistOpsSpec)

/-- ITS FALSE NEIGHBOUR: 'it returns false'. Refute it at one input. -/
def oplistOpsWrong : ChangeSpec := { name := "oplistOps", fn := fun _ => fun
  | [d1, d2] => { results := [.lit (.bool false)], args := [d1, d2] }
  | _ => none }
def OplistOpsWrongFalsely : Prop := oplistOpsRow.holds Try.pinned (OpenSpec.ofChange oplistOpsWrong)

/-- 'heronrylaw15.OplistIs': WHATEVER THE INPUT: true; the input reads as it did. -/
def oplistIsSpec : ChangeSpec := { name := "oplistIs", fn := fun _ => fun
  | [d1, d2, d3, d4, d5, d6] => { results := [.lit (.bool true)], args := [d1, d2, d3, d4, d5, d6] }
  | _ => none }
def oplistIsRow : OpenClaim := { program := "ytjpoepiidmoegaa", sum := "6e1b84c3e01d1c549eb0abbad49bbecefc06998ce1d37183ac14fa6ea5a4a295", func := "heronry/heronrylaw15.OplistIs", spec := "oplistIs", inPlace := ["math/bits.Add64"], unfollowed := true, recurses := true, plainKeys := false, apart := false }
def OplistIsSaid : Prop := oplistIsRow.holds Try.pinned (OpenSpec.ofChange oplistIsSpec)

/-- ITS FALSE NEIGHBOUR: 'it returns false'. Refute it at one input. -/
def oplistIsWrong : ChangeSpec := { name := "oplistIs", fn := fun _ => fun
  | [d1, d2, d3, d4, d5, d6] => { results := [.lit (.bool false)], args := [d1, d2, d3, d4, d5, d6] }
  | _ => none }
def OplistIsWrongFalsely : Prop := oplistIsRow.holds Try.pinned (OpenSpec.ofChange oplistIsWrong)

/- THE SECOND FORM. 'bulk': how many values and letters a reading holds, each counted each time it is reached (what is shared counts as often as it is met; a slice's spare places count too). A statement '..UptoSaid' is the law's where the arguments, and the package variables that the reading takes, are together of bulk at most 1048576: NARROWER than '..Said'. Prove '..Said' where nothing that the law and all that it calls make is longer than what came in: it says more and counts as full. Else prove '..UptoSaid'. A law counts once. -/
mutual
def uptoBulk {H : Type} : DataW H → Nat
  | .lit (.string bytes) => bytes.length + 1
  | .lit _ => 1
  | .nil => 1
  | .ptr d => uptoBulk d + 1
  | .slice elems spare => uptoBulkAll elems + uptoBulkAll spare + 1
  | .agg parts => uptoBulkAll parts + 1
  | .iface _ d => uptoBulk d + 1
  | .map entries => uptoBulkEntries entries + 1
  | .held _ => 1
def uptoBulkAll {H : Type} : List (DataW H) → Nat
  | [] => 0
  | d :: r => uptoBulk d + uptoBulkAll r
def uptoBulkEntries {H : Type} : List (Lit × DataW H) → Nat
  | [] => 0
  | x :: r => uptoBulkEntry x + uptoBulkEntries r
def uptoBulkEntry {H : Type} : Lit × DataW H → Nat
  | (.string bytes, d) => bytes.length + uptoBulk d + 1
  | (_, d) => uptoBulk d + 1
 end
def uptoSmall : (H : Type) → List (DataW H) → Bool := fun _ ds => decide (uptoBulkAll ds ≤ 1048576)
def OpenSpec.upto (s : _root_.Go.ChangeSpec) : _root_.Go.OpenSpec := { _root_.Go.OpenSpec.ofChange s with cond := some uptoSmall }

/-- 'heronrylaw15.OplistOpens', WHERE WHAT IT READS IS OF BULK AT MOST 1048576: true; the input reads as it did. -/
def oplistOpensUptoRow : OpenClaim := { program := "ytjpoepiidmoegaa", sum := "6e1b84c3e01d1c549eb0abbad49bbecefc06998ce1d37183ac14fa6ea5a4a295", func := "heronry/heronrylaw15.OplistOpens", spec := "oplistOpens", unfollowed := true, recurses := true, plainKeys := false, apart := false, narrowed := true }
def OplistOpensUptoSaid : Prop := oplistOpensUptoRow.holds Try.pinned (OpenSpec.upto oplistOpensSpec)

/-- 'heronrylaw15.OplistTwice', WHERE WHAT IT READS IS OF BULK AT MOST 1048576: true; the input reads as it did. -/
def oplistTwiceUptoRow : OpenClaim := { program := "ytjpoepiidmoegaa", sum := "6e1b84c3e01d1c549eb0abbad49bbecefc06998ce1d37183ac14fa6ea5a4a295", func := "heronry/heronrylaw15.OplistTwice", spec := "oplistTwice", unfollowed := true, recurses := true, plainKeys := false, apart := false, narrowed := true }
def OplistTwiceUptoSaid : Prop := oplistTwiceUptoRow.holds Try.pinned (OpenSpec.upto oplistTwiceSpec)

/-- 'heronrylaw15.OplistUndoes', WHERE WHAT IT READS IS OF BULK AT MOST 1048576: true; the input reads as it did. -/
def oplistUndoesUptoRow : OpenClaim := { program := "ytjpoepiidmoegaa", sum := "6e1b84c3e01d1c549eb0abbad49bbecefc06998ce1d37183ac14fa6ea5a4a295", func := "heronry/heronrylaw15.OplistUndoes", spec := "oplistUndoes", inPlace := ["math/bits.Add64"], unfollowed := true, recurses := true, plainKeys := false, apart := false, narrowed := true }
def OplistUndoesUptoSaid : Prop := oplistUndoesUptoRow.holds Try.pinned (OpenSpec.upto oplistUndoesSpec)

/-- 'heronrylaw15.OplistOps', WHERE WHAT IT READS IS OF BULK AT MOST 1048576: true; the input reads as it did. -/
def oplistOpsUptoRow : OpenClaim := { program := "ytjpoepiidmoegaa", sum := "6e1b84c3e01d1c549eb0abbad49bbecefc06998ce1d37183ac14fa6ea5a4a295", func := "heronry/heronrylaw15.OplistOps", spec := "oplistOps", unfollowed := true, recurses := true, plainKeys := false, apart := false, narrowed := true }
def OplistOpsUptoSaid : Prop := oplistOpsUptoRow.holds Try.pinned (OpenSpec.upto oplistOpsSpec)

/-- 'heronrylaw15.OplistIs', WHERE WHAT IT READS IS OF BULK AT MOST 1048576: true; the input reads as it did. -/
def oplistIsUptoRow : OpenClaim := { program := "ytjpoepiidmoegaa", sum := "6e1b84c3e01d1c549eb0abbad49bbecefc06998ce1d37183ac14fa6ea5a4a295", func := "heronry/heronrylaw15.OplistIs", spec := "oplistIs", inPlace := ["math/bits.Add64"], unfollowed := true, recurses := true, plainKeys := false, apart := false, narrowed := true }
def OplistIsUptoSaid : Prop := oplistIsUptoRow.holds Try.pinned (OpenSpec.upto oplistIsSpec)

end Rows
end Go.Proofs.Ytjpoepiidmoegaa
