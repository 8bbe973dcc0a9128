/- What 'theirs' and 'Same' answer. No condition. -/
import Derived.Test.YtjpoepiidmoegaaQ2
import Derived.Test.YtjpoepiidmoegaaQ6
import Derived.Test.YtjpoepiidmoegaaQ7
namespace Go.Proofs.Ytjpoepiidmoegaa.Q
open Go.RowKit Go.Proofs.YtjpoepiidmoegaaW Go.Proofs.YtjpoepiidmoegaaW.PrintWords Go.Proofs.YtjpoepiidmoegaaW.PrintLast Go.Proofs.YtjpoepiidmoegaaW.PrintMore
set_option linter.unusedVariables false
set_option linter.unusedSimpArgs false
def th (x : S33) : S83 := ⟨x.f0, x.f1, x.f2, x.f3⟩
theorem theirs_loop (l : List S33) (hn : l.length ≤ 1000000) (d : Nat) : ∀ i : Nat, i + d = l.length → Evals (fun k => heronrylaw15_theirs.l0 k l ((l.take i).map th) (i : Int)) (l.map th) := by
  induction d with
  | zero =>
    intro i hi
    refine Evals.succ ?_
    have h0 : ¬ (i : Int) < (l.length : Int) := by omega
    simp only [heronrylaw15_theirs.l0, if_neg h0]
    rw [List.take_of_length_le (by omega)]
    exact Evals.const _
  | succ d ih =>
    intro i hi
    have h0 : (i : Int) < (l.length : Int) := by omega
    have h1 : (0 : Int) ≤ (i : Int) := by omega
    have hl : ((l.take i).map th).length < 4398046511104 := by simp; omega
    have hw : wrap64 ((i : Int) + 1) = ((i + 1 : Nat) : Int) := by rw [w64 (by omega) (by omega)]; omega
    refine Evals.succ ?_
    simp only [heronrylaw15_theirs.l0, if_pos h0, if_pos h1, if_pos hl, rd_at l i (by omega), hw]
    have := ih (i + 1) (by omega)
    rw [List.take_succ_eq_append_getElem (show i < l.length by omega), List.map_append] at this
    exact this
theorem theirs_ev (l : List S33) (hn : l.length ≤ 1000000) : Evals (fun k => heronrylaw15_theirs.f k l) (l.map th) := theirs_loop l hn l.length 0 (by omega)
theorem same_loop (l : List S83) (hn : l.length ≤ 1000000) (d : Nat) : ∀ i : Nat, i + d = l.length → Evals (fun k => heronryref15_Same.l0 k l l (i : Int)) true := by
  induction d with
  | zero =>
    intro i hi
    refine Evals.succ ?_
    have h0 : ¬ (i : Int) < (l.length : Int) := by omega
    simp only [heronryref15_Same.l0, if_neg h0]
    exact Evals.const _
  | succ d ih =>
    intro i hi
    have h0 : (i : Int) < (l.length : Int) := by omega
    have h1 : (0 : Int) ≤ (i : Int) := by omega
    have hw : wrap64 ((i : Int) + 1) = ((i + 1 : Nat) : Int) := by rw [w64 (by omega) (by omega)]; omega
    refine Evals.succ ?_
    simp only [heronryref15_Same.l0, if_pos h0, if_pos h1, beq_self_eq_true, Bool.not_true, Bool.or_false, Bool.false_eq_true, if_false, hw]
    exact ih (i + 1) (by omega)
theorem same_ev (l : List S83) (hn : l.length ≤ 1000000) : Evals (fun k => heronryref15_Same.f k l l) true := by
  unfold heronryref15_Same.f
  simp only [if_pos]
  exact same_loop l hn l.length 0 (by omega)
end Go.Proofs.Ytjpoepiidmoegaa.Q
