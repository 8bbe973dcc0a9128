import Derived.Test.YtnlnglfjehohpaaTC
namespace Go.Proofs.Ytnlnglfjehohpaa.Q
open Go.RowKit Go.Proofs.YtnlnglfjehohpaaW Go.Proofs.YtnlnglfjehohpaaW.PrintWords Go.Proofs.YtnlnglfjehohpaaW.PrintLast Go.Proofs.YtnlnglfjehohpaaW.PrintMore
set_option linter.unusedVariables false
set_option linter.unusedSimpArgs false
def isLive (x : S35) : Bool := x.f1 == 1
def notUndone (x : S35) : Bool := x.f1 != 3
theorem tells_abort : TellsC 22 notUndone := by
  intro x W
  have hu := Try.underlying35
  obtain ⟨b, hb⟩ : ∃ b, (x.f1 != 3) = b := ⟨_, rfl⟩
  have e : notUndone x = b := hb
  rw [e]
  go_enter Try.func22, Try.ntmps22
  go_wp2
  go_ret
  exact ⟨rfl, (Below.refl _ _).alloc (Nat.le_refl _) _⟩
theorem tells_commit : TellsC 24 isLive := by
  intro x W
  have hu := Try.underlying35
  obtain ⟨b, hb⟩ : ∃ b, (x.f1 == 1) = b := ⟨_, rfl⟩
  have e : isLive x = b := hb
  rw [e]
  go_enter Try.func24, Try.ntmps24
  go_wp2
  go_ret
  exact ⟨rfl, (Below.refl _ _).alloc (Nat.le_refl _) _⟩
def tree_Tree_inside.f (l0 : List S35) (a0 : Int) (a1 : Int) (a2 : Int) : Option (List Int) :=
  if l0.length < 1000000000 then (if a2 = 22 then some (insideL notUndone l0 a1 l0.length) else if a2 = 24 then some (insideL isLive l0 a1 l0.length) else none) else none
theorem insideAbort.calls (A0 : Option Addr) (c0 : Nat) (l0 : List S35) (a0 : Int) (a1 : Int) (r : List Int) (w : World) (hr0 : Kd.C k35 w A0 l0.length l0) (hc0 : l0.length ≤ c0) (h : tree_Tree_inside.f l0 a0 a1 22 = some r) :
    Calls Try.prog 21 #[.agg #[.slice A0 l0.length c0, .int .i64 a0], .int .i64 a1, .func (.func 22) #[] #[]] w fun e w' => ∃ v0_ : Value, e = .returned v0_ ∧ Kd.R (Kd.int .i64) 3 w' w.heap.size (fun _ => True) v0_ r ∧ Below w.heap.size w w' := by
  unfold tree_Tree_inside.f at h
  by_cases hl : l0.length < 1000000000
  case neg => rw [if_neg hl] at h; cases h
  rw [if_pos hl, if_pos rfl] at h
  rw [← Option.some.inj h]
  exact inside_any 22 _ (enters_of Try.func22 (by kernel_rfl) rfl) tells_abort A0 c0 l0 a0 a1 w hr0 hc0 hl
theorem insideCommit.calls (A0 : Option Addr) (c0 : Nat) (l0 : List S35) (a0 : Int) (a1 : Int) (r : List Int) (w : World) (hr0 : Kd.C k35 w A0 l0.length l0) (hc0 : l0.length ≤ c0) (h : tree_Tree_inside.f l0 a0 a1 24 = some r) :
    Calls Try.prog 21 #[.agg #[.slice A0 l0.length c0, .int .i64 a0], .int .i64 a1, .func (.func 24) #[] #[]] w fun e w' => ∃ v0_ : Value, e = .returned v0_ ∧ Kd.R (Kd.int .i64) 3 w' w.heap.size (fun _ => True) v0_ r ∧ Below w.heap.size w w' := by
  unfold tree_Tree_inside.f at h
  by_cases hl : l0.length < 1000000000
  case neg => rw [if_neg hl] at h; cases h
  rw [if_pos hl, if_neg (by decide), if_pos rfl] at h
  rw [← Option.some.inj h]
  exact inside_any 24 _ (enters_of Try.func24 (by kernel_rfl) rfl) tells_commit A0 c0 l0 a0 a1 w hr0 hc0 hl
end Go.Proofs.Ytnlnglfjehohpaa.Q
