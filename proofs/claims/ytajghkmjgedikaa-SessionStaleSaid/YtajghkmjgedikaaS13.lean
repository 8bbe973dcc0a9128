import Derived.Test.YtajghkmjgedikaaS12
import Derived.Test.YtajghkmjgedikaaS6
import Derived.Test.YtajghkmjgedikaaB
import Derived.Test.YtajghkmjgedikaaRows
import Derived.Test.YtajghkmjgedikaaF0
import Derived.WalkKit
import Derived.ProofKit
import Derived.OpenShut
import Derived.ShutString
import Derived.ChangeOld
import Derived.Below
import Derived.SizedLaws
namespace Go.Proofs.Ytajghkmjgedikaa.Q
open Go.RowKit Go.Proofs.YtajghkmjgedikaaW Go.Proofs.YtajghkmjgedikaaW.PrintWords Go.Proofs.YtajghkmjgedikaaW.PrintLast Go.Proofs.YtajghkmjgedikaaW.PrintMore
set_option linter.unusedVariables false
set_option linter.unusedSimpArgs false
theorem whoseT_cases (ls : Nat → List Int) (x : Int) : (whoseT ls x = -1 ∧ ∀ j, j < 16 → x ∉ ls j) ∨ ∃ j : Nat, j < 16 ∧ whoseT ls x = (j : Int) ∧ x ∈ ls j := by
  by_cases h : ∃ j, j < 16 ∧ x ∈ ls j
  · right
    have hd : ∀ j, Decidable (j < 16 ∧ x ∈ ls j) := fun j => inferInstance
    obtain ⟨j, ⟨h1, h2⟩, h3⟩ : ∃ j, (j < 16 ∧ x ∈ ls j) ∧ ∀ i, i < j → ¬ (i < 16 ∧ x ∈ ls i) := by
      have key : ∀ n : Nat, (∃ j, j < n ∧ j < 16 ∧ x ∈ ls j) → ∃ j, (j < 16 ∧ x ∈ ls j) ∧ ∀ i, i < j → ¬ (i < 16 ∧ x ∈ ls i) := by
        intro n
        induction n with
        | zero => rintro ⟨j, hj, _⟩; omega
        | succ n ih =>
          rintro ⟨j, hj, hh⟩
          by_cases h2 : ∃ j, j < n ∧ j < 16 ∧ x ∈ ls j
          · exact ih h2
          · exact ⟨j, hh, fun i hi hc => h2 ⟨i, by omega, hc⟩⟩
      obtain ⟨j, hj⟩ := h
      exact key (j + 1) ⟨j, by omega, hj⟩
    exact ⟨j, h1, whoseT_at h1 h2 (fun i hi hx => h3 i hi ⟨by omega, hx⟩), h2⟩
  · left
    have h2 : ∀ j, j < 16 → x ∉ ls j := fun j hj hx => h ⟨j, hj, hx⟩
    exact ⟨whoseT_none h2, h2⟩
theorem two_al (W : World) (x : Int) : Kd.C (Kd.int .i64) (W.alloc (.cells #[.int .i64 x] 3)) (some ⟨W.heap.size, 0, none⟩) [x].length [x] ∧ Below W.heap.size W (W.alloc (.cells #[.int .i64 x] 3)) :=
  ⟨(Kd.R_reads' (mk_row (base := W.heap.size) (c := 1) (l := [x]) (Nat.le_refl _) (blk_new W (.cells #[.int .i64 x] 3)) (Nat.le_refl 1) (by decide) rfl rfl)).2.2, (Below.refl _ _).alloc (Nat.le_refl _) _⟩
end Go.Proofs.Ytajghkmjgedikaa.Q
