/- The document's Same of a note and itself. No condition. -/
import Derived.Test.YthcikbbglpdjhaaQ6
import Derived.Test.YthcikbbglpdjhaaSV
namespace Go.Proofs.Ythcikbbglpdjhaa.Q
open Go.RowKit Go.Proofs.YthcikbbglpdjhaaW Go.Proofs.YthcikbbglpdjhaaW.PrintWords Go.Proofs.YthcikbbglpdjhaaW.PrintLast Go.Proofs.YthcikbbglpdjhaaW.PrintMore
set_option linter.unusedVariables false
set_option linter.unusedSimpArgs false
theorem same_l1 (L : List S46) (hL : L.length < 1000000000) (a b c d : Int) (M M' : List S44) : ∀ (n i : Nat), i + n = L.length → Evals (fun k => heronryref18_Same.l1 k (i : Int) a b M L c d M' L) true
  | 0, i, hi => by
    refine Evals.succ (Evals.of fun k => ?_)
    rw [heronryref18_Same.l1, if_neg (by omega)]
  | n + 1, i, hi => by
    have ih := same_l1 L hL a b c d M M' n (i + 1) (by omega)
    have e1 : wrap64 ((i : Int) + 1) = ((i + 1 : Nat) : Int) := by rw [w64_of (by omega) (by omega)]; omega
    refine Evals.succ (Evals.congr (fun k => ?_) ih)
    rw [heronryref18_Same.l1, if_pos (by omega), if_pos (by omega), if_pos (by omega), e1]
    simp
theorem same_l0 (M : List S44) (hM : M.length < 1000000000) (L : List S46) (hL : L.length < 1000000000) (a b c d : Int) : ∀ (n i : Nat), i + n = M.length → Evals (fun k => heronryref18_Same.l0 k (i : Int) a b M L c d M L) true
  | 0, i, hi => by
    refine Evals.succ (Evals.congr (fun k => ?_) (same_l1 L hL a b c d M M L.length 0 (by omega)))
    rw [heronryref18_Same.l0, if_neg (by omega)]
    rfl
  | n + 1, i, hi => by
    have ih := same_l0 M hM L hL a b c d n (i + 1) (by omega)
    have e1 : wrap64 ((i : Int) + 1) = ((i + 1 : Nat) : Int) := by rw [w64_of (by omega) (by omega)]; omega
    refine Evals.succ (Evals.congr (fun k => ?_) ih)
    rw [heronryref18_Same.l0, if_pos (by omega), if_pos (by omega), if_pos (by omega), if_pos rfl, if_pos rfl, e1]
theorem same_ev (a b : Int) (M : List S44) (L : List S46) (hM : M.length < 1000000000) (hL : L.length < 1000000000) : Evals (fun k => heronryref18_Same.f k a b M L a b M L) true := by
  have h := same_l0 M hM L hL a b a b M.length 0 (by omega)
  have hf : ∀ k, heronryref18_Same.f k a b M L a b M L = heronryref18_Same.j0 k ((L.length : Int) != (L.length : Int)) a b M L a b M L := fun k => by
    unfold heronryref18_Same.f
    rw [if_pos rfl, if_pos rfl, if_pos rfl]
  refine Evals.congr hf ?_
  refine Evals.succ (Evals.congr (fun k => ?_) h)
  rw [heronryref18_Same.j0, if_neg (by simp)]
  rfl
end Go.Proofs.Ythcikbbglpdjhaa.Q
