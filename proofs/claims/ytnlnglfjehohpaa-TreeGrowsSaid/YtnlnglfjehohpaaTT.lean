import Derived.Test.YtnlnglfjehohpaaTV
namespace Go.Proofs.Ytnlnglfjehohpaa.Q
open Go.RowKit Go.Shelf Go.Proofs.YtnlnglfjehohpaaW Go.Proofs.YtnlnglfjehohpaaW.PrintWords Go.Proofs.YtnlnglfjehohpaaW.PrintLast Go.Proofs.YtnlnglfjehohpaaW.PrintMore
open RU
attribute [local go_sem] Oper.semAt_some
set_option linter.unusedVariables false
set_option linter.unusedSimpArgs false

theorem chn_in (l : List S35) : ∀ (n : Nat) (id : Int), ∀ x ∈ chn l n id, 0 ≤ x ∧ x < (l.length : Int)
  | 0, _, x, hx => by simp [chn] at hx
  | n + 1, id, x, hx => by
    rw [chn_succ] at hx
    by_cases h : isB l id = true
    · rw [if_pos h] at hx
      rcases List.mem_cons.1 hx with rfl | hx
      · unfold isB at h; simpa using h
      · exact chn_in l n _ x hx
    · rw [if_neg h] at hx; cases hx
theorem chain_in (l : List S35) (id x : Int) (h : x ∈ chain l id) : 0 ≤ x ∧ x < (l.length : Int) := chn_in l _ _ x h
end Go.Proofs.Ytnlnglfjehohpaa.Q
