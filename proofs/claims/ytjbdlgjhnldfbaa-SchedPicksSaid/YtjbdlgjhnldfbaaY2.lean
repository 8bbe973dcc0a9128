/- Chapter 21, plain: whom Pick takes; the document's example. No condition. -/
import Derived.Test.YtjbdlgjhnldfbaaY1
import Derived.Test.YtjbdlgjhnldfbaaQ7
namespace Go.Proofs.Ytjbdlgjhnldfbaa.Q
open Go.RowKit Go.Proofs.YtjbdlgjhnldfbaaW Go.Proofs.YtjbdlgjhnldfbaaW.PrintWords Go.Proofs.YtjbdlgjhnldfbaaW.PrintLast Go.Proofs.YtjbdlgjhnldfbaaW.PrintMore
open FL
set_option linter.unusedVariables false

theorem bestBy_snoc (cf : Int → Int → Int) (xs : List Int) (y : Int) : bestBy cf (xs ++ [y]) = if xs.length = 0 then y else maxStep cf (bestBy cf xs) y := by
  unfold bestBy
  rw [if_neg (by simp)]
  match xs with
  | [] => rfl
  | x :: xs =>
    rw [if_neg (by simp), if_neg (by simp)]
    show (xs ++ [y]).foldl (maxStep cf) x = _
    rw [List.foldl_append]
    rfl
theorem maxStep_cmp (key : Int → Int) (m y : Int) : maxStep (fun a b => cmpS (key a) (key b)) m y = if key m < key y then y else m := by
  unfold maxStep cmpS
  show (if 0 < (if key y < key m then (-1 : Int) else if key m < key y then 1 else 0) then y else m) = _
  by_cases h : key m < key y
  · have h2 : ¬ key y < key m := by omega
    simp [h, h2]
  · by_cases h2 : key y < key m <;> simp [h, h2]

theorem ixs_nil (p : S44 → Bool) (l : List S44) (n : Nat) (hn : n ≤ l.length) (h : (ixs p l n).length = 0) (j : Nat) (hj : j < n) : p (l[j]'(by omega)) = false := by
  cases hp : p (l[j]'(by omega)) with
  | false => rfl
  | true =>
    have : (j : Int) ∈ ixs p l n := by
      unfold ixs
      exact List.mem_map.2 ⟨j, List.mem_filter.2 ⟨List.mem_range.2 hj, by rw [rd_at l j (by omega)]; exact hp⟩, rfl⟩
    rw [List.eq_nil_of_length_eq_zero h] at this
    cases this

theorem best_ixs (p : S44 → Bool) (key : S44 → Int) (l : List S44) (n : Nat) (hn : n ≤ l.length) :
    (bestBy (fun a b => cmpS (key (rd_T44 l a)) (key (rd_T44 l b))) (ixs p l n) = -1 ∧ (ixs p l n).length = 0 ∧ ∀ j (hj : j < n), p (l[j]'(by omega)) = false) ∨
    ∃ m, ∃ hm : m < n, bestBy (fun a b => cmpS (key (rd_T44 l a)) (key (rd_T44 l b))) (ixs p l n) = (m : Int) ∧ (ixs p l n).length ≠ 0 ∧ p (l[m]'(by omega)) = true ∧ (∀ j (hj : j < m), p (l[j]'(by omega)) = true → key (l[j]'(by omega)) < key (l[m]'(by omega))) ∧ ∀ j (hj : j < n), p (l[j]'(by omega)) = true → key (l[j]'(by omega)) ≤ key (l[m]'(by omega)) := by
  induction n with
  | zero => exact .inl ⟨rfl, rfl, fun j hj => by omega⟩
  | succ n ih =>
    have hx := rd_at l n (by omega)
    rw [ixs_snoc, hx]
    by_cases c : p (l[n]'(by omega)) = true
    · rw [if_pos c, bestBy_snoc]
      rcases ih (by omega) with ⟨h1, h2, h3⟩ | ⟨m, hm, h1, h2, h3, h4, h5⟩
      · right
        rw [if_pos h2]
        refine ⟨n, by omega, rfl, by simp, c, fun j hj hp => ?_, fun j hj hp => ?_⟩
        · rw [h3 j hj] at hp; cases hp
        · by_cases he : j = n
          · subst he; exact Int.le_refl _
          · rw [h3 j (by omega)] at hp; cases hp
      · right
        rw [if_neg h2, h1, maxStep_cmp (fun a => key (rd_T44 l a)), hx, rd_at l m (by omega)]
        by_cases hk : key (l[m]'(by omega)) < key (l[n]'(by omega))
        · rw [if_pos hk]
          refine ⟨n, by omega, rfl, by simp, c, fun j hj hp => ?_, fun j hj hp => ?_⟩
          · have := h5 j (by omega) hp; omega
          · by_cases he : j = n
            · subst he; exact Int.le_refl _
            · have := h5 j (by omega) hp; omega
        · rw [if_neg hk]
          refine ⟨m, by omega, rfl, by simp, h3, h4, fun j hj hp => ?_⟩
          by_cases he : j = n
          · subst he; omega
          · exact h5 j (by omega) hp
    · rw [if_neg c, List.append_nil]
      rcases ih (by omega) with ⟨h1, h2, h3⟩ | ⟨m, hm, h1, h2, h3, h4, h5⟩
      · left
        refine ⟨h1, h2, fun j hj => ?_⟩
        by_cases he : j = n
        · subst he; simpa using c
        · exact h3 j (by omega)
      · right
        refine ⟨m, by omega, h1, h2, h3, h4, fun j hj hp => ?_⟩
        by_cases he : j = n
        · subst he; exact absurd hp c
        · exact h5 j (by omega) hp

/-- Whom Pick takes: the old one that waited longest; or else the ready one of the greatest rank; the first of these. -/
theorem pick_cases (l : List S44) (ev : Int) (ready : List Int) (hs : saneQ l ev = true) :
    (pickQ l ev ready = ([], 0, 0, 6) ∧ ∀ x ∈ l, isR ready x = false) ∨
    ∃ m, ∃ hm : m < l.length, pickQ l ev ready = ((bump ready l).eraseIdx m, ev, l[m].f0, 0) ∧ isR ready l[m] = true ∧
      ((isO ready ev l[m] = true ∧ (∀ j (hj : j < m), isO ready ev (l[j]'(by omega)) = true → (l[j]'(by omega)).f2 < l[m].f2) ∧ (∀ j (hj : j < l.length), isO ready ev l[j] = true → l[j].f2 ≤ l[m].f2)) ∨
       ((∀ j (hj : j < l.length), isO ready ev l[j] = false) ∧ (∀ j (hj : j < m), isR ready (l[j]'(by omega)) = true → keyS (l[j]'(by omega)).f1 < keyS l[m].f1) ∧ (∀ j (hj : j < l.length), isR ready l[j] = true → keyS l[j].f1 ≤ keyS l[m].f1))) := by
  unfold pickQ
  rw [if_pos hs]
  have b1 := best_ixs (isO ready ev) (fun x => x.f2) l l.length (Nat.le_refl _)
  have b2 := best_ixs (isR ready) (fun x => keyS x.f1) l l.length (Nat.le_refl _)
  have e1 : (fun a b => cmpS (rd_T44 l a).f2 (rd_T44 l b).f2) = cW l := rfl
  have e2 : (fun a b => cmpS (keyS (rd_T44 l a).f1) (keyS (rd_T44 l b).f1)) = cK l := rfl
  simp only [e1] at b1
  simp only [e2] at b2
  rcases b1 with ⟨h1, _, h3⟩ | ⟨m, hm, h1, _, h3, h4, h5⟩
  · have hA : atQ l ev ready = bestBy (cK l) (ixs (isR ready) l l.length) := by
      unfold atQ
      rw [h1]
      exact if_pos (by decide)
    rw [hA]
    rcases b2 with ⟨g1, _, g3⟩ | ⟨m, hm, g1, _, g3, g4, g5⟩
    · left
      rw [g1]
      refine ⟨if_pos (by decide), fun x hx => ?_⟩
      obtain ⟨j, hj, rfl⟩ := List.mem_iff_getElem.1 hx
      exact g3 j hj
    · right
      refine ⟨m, hm, ?_, g3, .inr ⟨h3, g4, g5⟩⟩
      rw [g1, if_neg (by omega), Int.toNat_natCast, rd_at l m hm]
  · have hA : atQ l ev ready = (m : Int) := by
      unfold atQ
      rw [h1]
      exact if_neg (by omega)
    rw [hA]
    right
    refine ⟨m, hm, ?_, ?_, .inl ⟨h3, h4, h5⟩⟩
    · rw [if_neg (by omega), Int.toNat_natCast, rd_at l m hm]
    · unfold isO at h3
      simp only [Bool.and_eq_true] at h3
      exact h3.1

theorem of1 : ofS 1 = 4607182418800017408 := by decide
theorem of2 : ofS 2 = 4611686018427387904 := by decide
theorem of_ev (n : Int) (h : inI n = true) : float_Of.f n = some (ofS n) := by unfold float_Of.f; rw [if_pos h]
theorem awake_ev : Evals (fun k => heronrylaw21_awake.f k) true := by
  unfold heronrylaw21_awake.f
  simp only [of_ev 1 (by decide), of_ev 2 (by decide), Option.bind_some, of1, of2]
  have a1 : addQ [] 2 3 4607182418800017408 = ([⟨3, 4607182418800017408, 0⟩], 2, 0) := by kernel_rfl
  have a2 : addQ [⟨3, 4607182418800017408, 0⟩] 2 4 4611686018427387904 = ([⟨3, 4607182418800017408, 0⟩, ⟨4, 4611686018427387904, 0⟩], 2, 0) := by kernel_rfl
  have a3 : pickQ [⟨3, 4607182418800017408, 0⟩, ⟨4, 4611686018427387904, 0⟩] 2 [3, 4] = ([⟨3, 4607182418800017408, 1⟩], 2, 4, 0) := by kernel_rfl
  have h1 := add_ev [] 2 3 4607182418800017408 (by simp) (by decide) (by decide)
  have h2 := add_ev [⟨3, 4607182418800017408, 0⟩] 2 4 4611686018427387904 (by intro x hx; rw [List.mem_singleton] at hx; subst hx; decide) (by decide) (by decide)
  have h3 := pick_ev [⟨3, 4607182418800017408, 0⟩, ⟨4, 4611686018427387904, 0⟩] 2 [3, 4] (by intro x hx; simp only [List.mem_cons, List.not_mem_nil, or_false] at hx; rcases hx with rfl | rfl <;> decide) (by decide) (by decide)
  rw [a1] at h1
  rw [a2] at h2
  rw [a3] at h3
  refine Evals.bind h1 ?_
  refine Evals.bind h2 ?_
  refine Evals.bind h3 ?_
  exact Evals.of fun k => by simp [rd_T44]
end Go.Proofs.Ytjbdlgjhnldfbaa.Q
