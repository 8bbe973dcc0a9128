/- Chapter 21, plain: whom Pick takes; the document's example. No condition. -/
import Derived.Test.YtjbdlgjhnldfbaaY1
import Derived.Test.YtjbdlgjhnldfbaaQ7
namespace Go.Proofs.Ytjbdlgjhnldfbaa.Q
open Go.RowKit Go.Proofs.YtjbdlgjhnldfbaaW Go.Proofs.YtjbdlgjhnldfbaaW.PrintWords Go.Proofs.YtjbdlgjhnldfbaaW.PrintLast Go.Proofs.YtjbdlgjhnldfbaaW.PrintMore
open FL
set_option linter.unusedVariables false

theorem bestBy_snoc (cf : Int → Int → Int) (xs : List Int) (y : Int) : bestBy cf (xs ++ [y]) = if xs.length = 0 then y else maxStep cf (bestBy cf xs) y := by
  unfold bestBy
  rw [if_neg (by simp)]
  match xs with
  | [] => rfl
  | x :: xs =>
    rw [if_neg (by simp), if_neg (by simp)]
    show (xs ++ [y]).foldl (maxStep cf) x = _
    rw [List.foldl_append]
    rfl
theorem maxStep_cmp (key : Int → Int) (m y : Int) : maxStep (fun a b => cmpS (key a) (key b)) m y = if key m < key y then y else m := by
  unfold maxStep cmpS
  show (if 0 < (if key y < key m then (-1 : Int) else if key m < key y then 1 else 0) then y else m) = _
  by_cases h : key m < key y
  · have h2 : ¬ key y < key m := by omega
    simp [h, h2]
  · by_cases h2 : key y < key m <;> simp [h, h2]

theorem best_ixs (p : S44 → Bool) (key : S44 → Int) (l : List S44) (n : Nat) (hn : n ≤ l.length) :
    (bestBy (fun a b => cmpS (key (rd_T44 l a)) (key (rd_T44 l b))) (ixs p l n) = -1 ∧ (ixs p l n).length = 0 ∧ ∀ j (hj : j < n), p (l[j]'(by omega)) = false) ∨
    ∃ m, ∃ hm : m < n, bestBy (fun a b => cmpS (key (rd_T44 l a)) (key (rd_T44 l b))) (ixs p l n) = (m : Int) ∧ (ixs p l n).length ≠ 0 ∧ p (l[m]'(by omega)) = true ∧ (∀ j (hj : j < m), p (l[j]'(by omega)) = true → key (l[j]'(by omega)) < key (l[m]'(by omega))) ∧ ∀ j (hj : j < n), p (l[j]'(by omega)) = true → key (l[j]'(by omega)) ≤ key (l[m]'(by omega)) := by
  induction n with
  | zero => exact .inl ⟨rfl, rfl, fun j hj => by omega⟩
  | succ n ih =>
    have hx := rd_at l n (by omega)
    rw [ixs_snoc, hx]
    by_cases c : p (l[n]'(by omega)) = true
    · rw [if_pos c, bestBy_snoc]
      rcases ih (by omega) with ⟨h1, h2, h3⟩ | ⟨m, hm, h1, h2, h3, h4, h5⟩
      · right
        rw [if_pos h2]
        refine ⟨n, by omega, rfl, by simp, c, fun j hj hp => ?_, fun j hj hp => ?_⟩
        · rw [h3 j hj] at hp; cases hp
        · by_cases he : j = n
          · subst he; exact Int.le_refl _
          · rw [h3 j (by omega)] at hp; cases hp
      · right
        rw [if_neg h2, h1, maxStep_cmp (fun a => key (rd_T44 l a)), hx, rd_at l m (by omega)]
        by_cases hk : key (l[m]'(by omega)) < key (l[n]'(by omega))
        · rw [if_pos hk]
          refine ⟨n, by omega, rfl, by simp, c, fun j hj hp => ?_, fun j hj hp => ?_⟩
          · have := h5 j (by omega) hp; omega
          · by_cases he : j = n
            · subst he; exact Int.le_refl _
            · have := h5 j (by omega) hp; omega
        · rw [if_neg hk]
          refine ⟨m, by omega, rfl, by simp, h3, h4, fun j hj hp => ?_⟩
          by_cases he : j = n
          · subst he; omega
          · exact h5 j (by omega) hp
    · rw [if_neg c, List.append_nil]
      rcases ih (by omega) with ⟨h1, h2, h3⟩ | ⟨m, hm, h1, h2, h3, h4, h5⟩
      · left
        refine ⟨h1, h2, fun j hj => ?_⟩
        by_cases he : j = n
        · subst he; simpa using c
        · exact h3 j (by omega)
      · right
        refine ⟨m, by omega, h1, h2, h3, h4, fun j hj hp => ?_⟩
        by_cases he : j = n
        · subst he; exact absurd hp c
        · exact h5 j (by omega) hp

theorem of1 : ofS 1 = 4607182418800017408 := by decide
theorem of2 : ofS 2 = 4611686018427387904 := by decide
theorem of_ev (n : Int) (h : inI n = true) : float_Of.f n = some (ofS n) := by unfold float_Of.f; rw [if_pos h]
theorem awake_ev : Evals (fun k => heronrylaw21_awake.f k) true := by
  unfold heronrylaw21_awake.f
  simp only [of_ev 1 (by decide), of_ev 2 (by decide), Option.bind_some, of1, of2]
  have a1 : addQ [] 2 3 4607182418800017408 = ([⟨3, 4607182418800017408, 0⟩], 2, 0) := by kernel_rfl
  have a2 : addQ [⟨3, 4607182418800017408, 0⟩] 2 4 4611686018427387904 = ([⟨3, 4607182418800017408, 0⟩, ⟨4, 4611686018427387904, 0⟩], 2, 0) := by kernel_rfl
  have a3 : pickQ [⟨3, 4607182418800017408, 0⟩, ⟨4, 4611686018427387904, 0⟩] 2 [3, 4] = ([⟨3, 4607182418800017408, 1⟩], 2, 4, 0) := by kernel_rfl
  have h1 := add_ev [] 2 3 4607182418800017408 (by simp) (by decide) (by decide)
  have h2 := add_ev [⟨3, 4607182418800017408, 0⟩] 2 4 4611686018427387904 (by intro x hx; rw [List.mem_singleton] at hx; subst hx; decide) (by decide) (by decide)
  have h3 := pick_ev [⟨3, 4607182418800017408, 0⟩, ⟨4, 4611686018427387904, 0⟩] 2 [3, 4] (by intro x hx; simp only [List.mem_cons, List.not_mem_nil, or_false] at hx; rcases hx with rfl | rfl <;> decide) (by decide) (by decide)
  rw [a1] at h1
  rw [a2] at h2
  rw [a3] at h3
  refine Evals.bind h1 ?_
  refine Evals.bind h2 ?_
  refine Evals.bind h3 ?_
  exact Evals.of fun k => by simp [rd_T44]
end Go.Proofs.Ytjbdlgjhnldfbaa.Q
