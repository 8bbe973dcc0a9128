/- Sums of what was added: plain. No condition. -/
import Derived.Test.YtjpoepiidmoegaaYP
import Derived.Test.YtjpoepiidmoegaaSP
namespace Go.Proofs.Ytjpoepiidmoegaa.Q
open Go.RowKit Go.Proofs.YtjpoepiidmoegaaW Go.Proofs.YtjpoepiidmoegaaW.PrintWords
set_option linter.unusedVariables false
set_option linter.unusedSimpArgs false

/-- All that is added to a counter. -/
def addC (c : Int) (l : List S33) : List Int := (l.filter (fun x => decide (x.f1 = c))).map S33.f2
def sumC (c : Int) (l : List S33) : Int := sumBy id (addC c l)
theorem sumBy_app (φ : Int → Int) (l m : List Int) : sumBy φ (l ++ m) = sumBy φ l + sumBy φ m := by simp [sumBy]
theorem addC_app (c : Int) (l m : List S33) : addC c (l ++ m) = addC c l ++ addC c m := by unfold addC; rw [List.filter_append, List.map_append]
theorem sumC_app (c : Int) (l m : List S33) : sumC c (l ++ m) = sumC c l + sumC c m := by unfold sumC; rw [addC_app, sumBy_app]
theorem sumC_cons (c : Int) (x : S33) (l : List S33) : sumC c (x :: l) = (if x.f1 = c then x.f2 else 0) + sumC c l := by
  unfold sumC addC
  by_cases h : x.f1 = c
  · simp [List.filter_cons, h, sumBy]
  · simp [List.filter_cons, h, sumBy]
theorem opp_f2 {e : S33} (h : soundB e = true) (hi : inE e = true) : (opp e).f2 = -e.f2 := by
  unfold soundB at h
  unfold inE inI at hi
  simp only [Bool.and_eq_true, decide_eq_true_eq, bne_iff_ne] at h hi
  have := h.2.2.2.2
  show wrap64 (-e.f2) = _
  unfold wrap64; omega
theorem opE_sum (c : Int) : ∀ (l E R : List S33), (∀ x ∈ l, inE x = true ∧ soundB x = true) → (∀ x ∈ E, inE x = true ∧ soundB x = true) → opE l E = some R → sumC c l + sumC c E = sumC c R
  | [], E, R, _, _, h => by obtain rfl := Option.some.inj h; show (0 : Int) + _ = _; omega
  | y :: l, E, R, h1, h2, h => by
    rw [opE] at h
    rw [sumC_cons]
    by_cases h3 : y.f3 = true
    · rw [if_pos h3] at h
      obtain ⟨E', hE', h⟩ := Option.bind_eq_some_iff.1 h
      by_cases hn : ∀ e ∈ E, opp e ≠ y
      · rw [pop1_none hn] at hE'; cases hE'
      · have hf : E.filter (fun e => decide (opp e = y)) ≠ [] := fun hf => hn fun e he ho => by
          have : e ∈ E.filter (fun e => decide (opp e = y)) := List.mem_filter.2 ⟨he, by simp [ho]⟩
          rw [hf] at this; cases this
        obtain ⟨A, p, B, rfl, hp, hB⟩ := split_last _ _ hf
        have hop : opp p = y := of_decide_eq_true hp
        rw [pop1_some B hop (fun b hb => of_decide_eq_false (hB b hb)) A] at hE'
        obtain rfl := Option.some.inj hE'
        have ih := opE_sum c l _ R (fun x hx => h1 x (List.mem_cons_of_mem _ hx)) (fun x hx => h2 x (by
          rcases List.mem_append.1 hx with hx | hx
          · exact List.mem_append_left _ hx
          · exact List.mem_append_right _ (List.mem_cons_of_mem _ hx))) h
        have hps := h2 p (List.mem_append_right _ (List.mem_cons_self ..))
        have e1 : y.f1 = p.f1 := by rw [← hop]; rfl
        have e2 : y.f2 = -p.f2 := by rw [← hop]; exact opp_f2 hps.2 hps.1
        rw [sumC_app] at ih
        rw [sumC_app, sumC_cons, e1, e2]
        by_cases hc : p.f1 = c
        · rw [if_pos hc, if_pos hc]; omega
        · rw [if_neg hc, if_neg hc]; omega
    · rw [if_neg h3] at h
      have ih := opE_sum c l _ R (fun x hx => h1 x (List.mem_cons_of_mem _ hx)) (fun x hx => by
        rcases List.mem_append.1 hx with hx | hx
        · exact h2 x hx
        · rw [List.mem_singleton.1 hx]; exact h1 y (List.mem_cons_self ..)) h
      rw [sumC_app, sumC_cons] at ih
      have : sumC c [] = 0 := rfl
      omega
theorem Fit.sum {L : List S33} (h : Fit L) (c : Int) : sumC c L = sumC c (opn L) := by
  obtain ⟨E, h1, _⟩ := h.is
  have := opE_sum c L [] E (fun x hx => ⟨h.inn x hx, h.snd x hx⟩) (by simp) h1
  rw [opn_of h1, ← this]
  show _ = _ + (0 : Int)
  omega
/-- Those of the first n transactions. -/
def lowTx (n : Int) (l : List S33) : List S33 := l.filter (fun x => decide (x.f0 < n))
theorem sumC_low (c n : Int) : ∀ l : List S33, sumC c (lowTx (n + 1) l) = sumC c (lowTx n l) + sumC c (l.filter (fun x => decide (x.f0 = n)))
  | [] => rfl
  | x :: l => by
    have ih := sumC_low c n l
    unfold lowTx at *
    rw [List.filter_cons, List.filter_cons, List.filter_cons]
    by_cases h1 : x.f0 < n
    · rw [if_pos (by simp; omega), if_pos (by simp; omega), if_neg (by simp; omega), sumC_cons, sumC_cons, ih]; omega
    · by_cases h2 : x.f0 = n
      · rw [if_pos (by simp; omega), if_neg (by simp; omega), if_pos (by simp; omega), sumC_cons, sumC_cons, ih]; omega
      · rw [if_neg (by simp; omega), if_neg (by simp; omega), if_neg (by simp; omega), ih]
theorem lowTx_all {l : List S33} (n : Int) (h : ∀ x ∈ l, x.f0 < n) : lowTx n l = l := List.filter_eq_self.2 fun x hx => by simpa using h x hx
theorem lowTx_none {l : List S33} (h : ∀ x ∈ l, 0 ≤ x.f0) : lowTx 0 l = [] := by
  unfold lowTx
  rw [List.filter_eq_nil_iff]
  intro x hx
  have := h x hx
  simp; omega
end Go.Proofs.Ytjpoepiidmoegaa.Q
