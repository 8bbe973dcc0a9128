/-
  No cell of these rows narrows 'for every input' (looked for: loops, veiled, ifaces, maps, wideKeys, modest, calm, conditions, laid).
  DERIVED. THE GIVEN ROWS OF THIS SEAT. 7 by the template 'for every input the law returns true; each argument reads behind the call as it read before'; 0 by the template 'total and deterministic' (their statements: YthhhfoogfnnooaaTotals.lean).
  GIVEN WITH THE SEED: the statements are not yours to turn. If you find one false, say at which input.
  Laid BY PROGRAM, IN A SANDBOX (cutbox-rows.mjs): the forced cells as the released guide's own fill.sh prints them over the translation 96200ab89b918c3d… (all of the seat's roots in one cut). By AI agents, Wed Nov 11 2026. No macro, syntax, notation, axiom, sorry.
-/
import Derived.Test.YthhhfoogfnnooaaChecked
import GoSem.Claim
import GoSem.ClaimJoined
import GoSem.ClaimMapViews
import Derived.JoinedTies
import Derived.KernelRfl
namespace Go.Proofs.Ythhhfoogfnnooaa
/- THE CELL 'sum', in the pinned program and in every row, IS THE sha256 OF THE DUMP (.gsa) THAT YthhhfoogfnnooaaProg.lean LOADS. Nothing in Lean hashes anything: it is a label: what it is worth is what the hold of that sum in a sandbox is worth. -/
noncomputable def Try.pinned : Pinned := { name := "ythhhfoogfnnooaa", sum := "96200ab89b918c3d90259e0c07b11eadb14e96d1f32e1d23b231c1d3dd18bdd0", checked := Try.checked }
namespace Rows
def none {H : Type} : Left H := { results := [], args := [] }

/-- 'heronrylaw12.SpanStays': WHATEVER THE INPUT: true; the input reads as it did. -/
def spanStaysSpec : ChangeSpec := { name := "spanStays", fn := fun _ => fun
  | [d1, d2, d3, d4, d5] => { results := [.lit (.bool true)], args := [d1, d2, d3, d4, d5] }
  | _ => none }
def spanStaysRow : OpenClaim := { program := "ythhhfoogfnnooaa", sum := "96200ab89b918c3d90259e0c07b11eadb14e96d1f32e1d23b231c1d3dd18bdd0", func := "heronry/heronrylaw12.SpanStays", spec := "spanStays", inPlace := ["math/bits.Add64"], unfollowed := true, recurses := true, apart := false }
def SpanStaysSaid : Prop := spanStaysRow.holds Try.pinned (OpenSpec.ofChange spanStaysSpec)

/-- ITS FALSE NEIGHBOUR: 'it returns false'. Refute it at one input. -/
def spanStaysWrong : ChangeSpec := { name := "spanStays", fn := fun _ => fun
  | [d1, d2, d3, d4, d5] => { results := [.lit (.bool false)], args := [d1, d2, d3, d4, d5] }
  | _ => none }
def SpanStaysWrongFalsely : Prop := spanStaysRow.holds Try.pinned (OpenSpec.ofChange spanStaysWrong)

/-- 'heronrylaw12.SpanMoves': WHATEVER THE INPUT: true; the input reads as it did. -/
def spanMovesSpec : ChangeSpec := { name := "spanMoves", fn := fun _ => fun
  | [d1, d2, d3] => { results := [.lit (.bool true)], args := [d1, d2, d3] }
  | _ => none }
def spanMovesRow : OpenClaim := { program := "ythhhfoogfnnooaa", sum := "96200ab89b918c3d90259e0c07b11eadb14e96d1f32e1d23b231c1d3dd18bdd0", func := "heronry/heronrylaw12.SpanMoves", spec := "spanMoves", inPlace := ["math/bits.Add64"], unfollowed := true, recurses := true, apart := false }
def SpanMovesSaid : Prop := spanMovesRow.holds Try.pinned (OpenSpec.ofChange spanMovesSpec)

/-- ITS FALSE NEIGHBOUR: 'it returns false'. Refute it at one input. -/
def spanMovesWrong : ChangeSpec := { name := "spanMoves", fn := fun _ => fun
  | [d1, d2, d3] => { results := [.lit (.bool false)], args := [d1, d2, d3] }
  | _ => none }
def SpanMovesWrongFalsely : Prop := spanMovesRow.holds Try.pinned (OpenSpec.ofChange spanMovesWrong)

/-- 'heronrylaw12.SpanSums': WHATEVER THE INPUT: true; the input reads as it did. -/
def spanSumsSpec : ChangeSpec := { name := "spanSums", fn := fun _ => fun
  | [d1, d2] => { results := [.lit (.bool true)], args := [d1, d2] }
  | _ => none }
def spanSumsRow : OpenClaim := { program := "ythhhfoogfnnooaa", sum := "96200ab89b918c3d90259e0c07b11eadb14e96d1f32e1d23b231c1d3dd18bdd0", func := "heronry/heronrylaw12.SpanSums", spec := "spanSums", inPlace := ["math/bits.Add64"], unfollowed := true, recurses := true, apart := false }
def SpanSumsSaid : Prop := spanSumsRow.holds Try.pinned (OpenSpec.ofChange spanSumsSpec)

/-- ITS FALSE NEIGHBOUR: 'it returns false'. Refute it at one input. -/
def spanSumsWrong : ChangeSpec := { name := "spanSums", fn := fun _ => fun
  | [d1, d2] => { results := [.lit (.bool false)], args := [d1, d2] }
  | _ => none }
def SpanSumsWrongFalsely : Prop := spanSumsRow.holds Try.pinned (OpenSpec.ofChange spanSumsWrong)

/-- 'heronrylaw12.SpanMeets': WHATEVER THE INPUT: true; the input reads as it did. -/
def spanMeetsSpec : ChangeSpec := { name := "spanMeets", fn := fun _ => fun
  | [d1, d2, d3, d4, d5] => { results := [.lit (.bool true)], args := [d1, d2, d3, d4, d5] }
  | _ => none }
def spanMeetsRow : OpenClaim := { program := "ythhhfoogfnnooaa", sum := "96200ab89b918c3d90259e0c07b11eadb14e96d1f32e1d23b231c1d3dd18bdd0", func := "heronry/heronrylaw12.SpanMeets", spec := "spanMeets", inPlace := ["math/bits.Add64"], unfollowed := true, recurses := true, apart := false }
def SpanMeetsSaid : Prop := spanMeetsRow.holds Try.pinned (OpenSpec.ofChange spanMeetsSpec)

/-- ITS FALSE NEIGHBOUR: 'it returns false'. Refute it at one input. -/
def spanMeetsWrong : ChangeSpec := { name := "spanMeets", fn := fun _ => fun
  | [d1, d2, d3, d4, d5] => { results := [.lit (.bool false)], args := [d1, d2, d3, d4, d5] }
  | _ => none }
def SpanMeetsWrongFalsely : Prop := spanMeetsRow.holds Try.pinned (OpenSpec.ofChange spanMeetsWrong)

/-- 'heronrylaw12.SpanTight': WHATEVER THE INPUT: true; the input reads as it did. -/
def spanTightSpec : ChangeSpec := { name := "spanTight", fn := fun _ => fun
  | [d1, d2, d3] => { results := [.lit (.bool true)], args := [d1, d2, d3] }
  | _ => none }
def spanTightRow : OpenClaim := { program := "ythhhfoogfnnooaa", sum := "96200ab89b918c3d90259e0c07b11eadb14e96d1f32e1d23b231c1d3dd18bdd0", func := "heronry/heronrylaw12.SpanTight", spec := "spanTight", inPlace := ["math/bits.Add64"], unfollowed := true, recurses := true, apart := false }
def SpanTightSaid : Prop := spanTightRow.holds Try.pinned (OpenSpec.ofChange spanTightSpec)

/-- ITS FALSE NEIGHBOUR: 'it returns false'. Refute it at one input. -/
def spanTightWrong : ChangeSpec := { name := "spanTight", fn := fun _ => fun
  | [d1, d2, d3] => { results := [.lit (.bool false)], args := [d1, d2, d3] }
  | _ => none }
def SpanTightWrongFalsely : Prop := spanTightRow.holds Try.pinned (OpenSpec.ofChange spanTightWrong)

/-- 'heronrylaw12.SpanRoom': WHATEVER THE INPUT: true; the input reads as it did. -/
def spanRoomSpec : ChangeSpec := { name := "spanRoom", fn := fun _ => fun
  | [d1, d2, d3] => { results := [.lit (.bool true)], args := [d1, d2, d3] }
  | _ => none }
def spanRoomRow : OpenClaim := { program := "ythhhfoogfnnooaa", sum := "96200ab89b918c3d90259e0c07b11eadb14e96d1f32e1d23b231c1d3dd18bdd0", func := "heronry/heronrylaw12.SpanRoom", spec := "spanRoom", inPlace := ["math/bits.Add64"], unfollowed := true, recurses := true, apart := false }
def SpanRoomSaid : Prop := spanRoomRow.holds Try.pinned (OpenSpec.ofChange spanRoomSpec)

/-- ITS FALSE NEIGHBOUR: 'it returns false'. Refute it at one input. -/
def spanRoomWrong : ChangeSpec := { name := "spanRoom", fn := fun _ => fun
  | [d1, d2, d3] => { results := [.lit (.bool false)], args := [d1, d2, d3] }
  | _ => none }
def SpanRoomWrongFalsely : Prop := spanRoomRow.holds Try.pinned (OpenSpec.ofChange spanRoomWrong)

/-- 'heronrylaw12.SpanIs': WHATEVER THE INPUT: true; the input reads as it did. -/
def spanIsSpec : ChangeSpec := { name := "spanIs", fn := fun _ => fun
  | [d1, d2, d3, d4] => { results := [.lit (.bool true)], args := [d1, d2, d3, d4] }
  | _ => none }
def spanIsRow : OpenClaim := { program := "ythhhfoogfnnooaa", sum := "96200ab89b918c3d90259e0c07b11eadb14e96d1f32e1d23b231c1d3dd18bdd0", func := "heronry/heronrylaw12.SpanIs", spec := "spanIs", inPlace := ["math/bits.Add64"], unfollowed := true, recurses := true, apart := false }
def SpanIsSaid : Prop := spanIsRow.holds Try.pinned (OpenSpec.ofChange spanIsSpec)

/-- ITS FALSE NEIGHBOUR: 'it returns false'. Refute it at one input. -/
def spanIsWrong : ChangeSpec := { name := "spanIs", fn := fun _ => fun
  | [d1, d2, d3, d4] => { results := [.lit (.bool false)], args := [d1, d2, d3, d4] }
  | _ => none }
def SpanIsWrongFalsely : Prop := spanIsRow.holds Try.pinned (OpenSpec.ofChange spanIsWrong)

/- THE SECOND FORM. 'bulk': how many values and letters a reading holds, each counted each time it is reached (what is shared counts as often as it is met; a slice's spare places count too). A statement '..UptoSaid' is the law's where the arguments, and the package variables that the reading takes, are together of bulk at most 1048576: NARROWER than '..Said'. Prove '..Said' where nothing that the law and all that it calls make is longer than what came in: it says more and counts as full. Else prove '..UptoSaid'. A law counts once. -/
mutual
def uptoBulk {H : Type} : DataW H → Nat
  | .lit (.string bytes) => bytes.length + 1
  | .lit _ => 1
  | .nil => 1
  | .ptr d => uptoBulk d + 1
  | .slice elems spare => uptoBulkAll elems + uptoBulkAll spare + 1
  | .agg parts => uptoBulkAll parts + 1
  | .iface _ d => uptoBulk d + 1
  | .map entries => uptoBulkEntries entries + 1
  | .held _ => 1
def uptoBulkAll {H : Type} : List (DataW H) → Nat
  | [] => 0
  | d :: r => uptoBulk d + uptoBulkAll r
def uptoBulkEntries {H : Type} : List (Lit × DataW H) → Nat
  | [] => 0
  | x :: r => uptoBulkEntry x + uptoBulkEntries r
def uptoBulkEntry {H : Type} : Lit × DataW H → Nat
  | (.string bytes, d) => bytes.length + uptoBulk d + 1
  | (_, d) => uptoBulk d + 1
 end
def uptoSmall : (H : Type) → List (DataW H) → Bool := fun _ ds => decide (uptoBulkAll ds ≤ 1048576)
def OpenSpec.upto (s : _root_.Go.ChangeSpec) : _root_.Go.OpenSpec := { _root_.Go.OpenSpec.ofChange s with cond := some uptoSmall }

/-- 'heronrylaw12.SpanStays', WHERE WHAT IT READS IS OF BULK AT MOST 1048576: true; the input reads as it did. -/
def spanStaysUptoRow : OpenClaim := { program := "ythhhfoogfnnooaa", sum := "96200ab89b918c3d90259e0c07b11eadb14e96d1f32e1d23b231c1d3dd18bdd0", func := "heronry/heronrylaw12.SpanStays", spec := "spanStays", inPlace := ["math/bits.Add64"], unfollowed := true, recurses := true, apart := false, narrowed := true }
def SpanStaysUptoSaid : Prop := spanStaysUptoRow.holds Try.pinned (OpenSpec.upto spanStaysSpec)

/-- 'heronrylaw12.SpanMoves', WHERE WHAT IT READS IS OF BULK AT MOST 1048576: true; the input reads as it did. -/
def spanMovesUptoRow : OpenClaim := { program := "ythhhfoogfnnooaa", sum := "96200ab89b918c3d90259e0c07b11eadb14e96d1f32e1d23b231c1d3dd18bdd0", func := "heronry/heronrylaw12.SpanMoves", spec := "spanMoves", inPlace := ["math/bits.Add64"], unfollowed := true, recurses := true, apart := false, narrowed := true }
def SpanMovesUptoSaid : Prop := spanMovesUptoRow.holds Try.pinned (OpenSpec.upto spanMovesSpec)

/-- 'heronrylaw12.SpanSums', WHERE WHAT IT READS IS OF BULK AT MOST 1048576: true; the input reads as it did. -/
def spanSumsUptoRow : OpenClaim := { program := "ythhhfoogfnnooaa", sum := "96200ab89b918c3d90259e0c07b11eadb14e96d1f32e1d23b231c1d3dd18bdd0", func := "heronry/heronrylaw12.SpanSums", spec := "spanSums", inPlace := ["math/bits.Add64"], unfollowed := true, recurses := true, apart := false, narrowed := true }
def SpanSumsUptoSaid : Prop := spanSumsUptoRow.holds Try.pinned (OpenSpec.upto spanSumsSpec)

/-- 'heronrylaw12.SpanMeets', WHERE WHAT IT READS IS OF BULK AT MOST 1048576: true; the input reads as it did. -/
def spanMeetsUptoRow : OpenClaim := { program := "ythhhfoogfnnooaa", sum := "96200ab89b918c3d90259e0c07b11eadb14e96d1f32e1d23b231c1d3dd18bdd0", func := "heronry/heronrylaw12.SpanMeets", spec := "spanMeets", inPlace := ["math/bits.Add64"], unfollowed := true, recurses := true, apart := false, narrowed := true }
def SpanMeetsUptoSaid : Prop := spanMeetsUptoRow.holds Try.pinned (OpenSpec.upto spanMeetsSpec)

/-- 'heronrylaw12.SpanTight', WHERE WHAT IT READS IS OF BULK AT MOST 1048576: true; the input reads as it did. -/
def spanTightUptoRow : OpenClaim := { program := "ythhhfoogfnnooaa", sum := "96200ab89b918c3d90259e0c07b11eadb14e96d1f32e1d23b231c1d3dd18bdd0", func := "heronry/heronrylaw12.SpanTight", spec := "spanTight", inPlace := ["math/bits.Add64"], unfollowed := true, recurses := true, apart := false, narrowed := true }
def SpanTightUptoSaid : Prop := spanTightUptoRow.holds Try.pinned (OpenSpec.upto spanTightSpec)

/-- 'heronrylaw12.SpanRoom', WHERE WHAT IT READS IS OF BULK AT MOST 1048576: true; the input reads as it did. -/
def spanRoomUptoRow : OpenClaim := { program := "ythhhfoogfnnooaa", sum := "96200ab89b918c3d90259e0c07b11eadb14e96d1f32e1d23b231c1d3dd18bdd0", func := "heronry/heronrylaw12.SpanRoom", spec := "spanRoom", inPlace := ["math/bits.Add64"], unfollowed := true, recurses := true, apart := false, narrowed := true }
def SpanRoomUptoSaid : Prop := spanRoomUptoRow.holds Try.pinned (OpenSpec.upto spanRoomSpec)

/-- 'heronrylaw12.SpanIs', WHERE WHAT IT READS IS OF BULK AT MOST 1048576: true; the input reads as it did. -/
def spanIsUptoRow : OpenClaim := { program := "ythhhfoogfnnooaa", sum := "96200ab89b918c3d90259e0c07b11eadb14e96d1f32e1d23b231c1d3dd18bdd0", func := "heronry/heronrylaw12.SpanIs", spec := "spanIs", inPlace := ["math/bits.Add64"], unfollowed := true, recurses := true, apart := false, narrowed := true }
def SpanIsUptoSaid : Prop := spanIsUptoRow.holds Try.pinned (OpenSpec.upto spanIsSpec)

end Rows
end Go.Proofs.Ythhhfoogfnnooaa
