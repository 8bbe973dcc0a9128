/- Entries that may be, and what is done with them: plain. No condition. -/
import Derived.Test.YtjpoepiidmoegaaYO
namespace Go.Proofs.Ytjpoepiidmoegaa.Q
open Go.RowKit Go.Proofs.YtjpoepiidmoegaaW Go.Proofs.YtjpoepiidmoegaaW.PrintWords
set_option linter.unusedVariables false
set_option linter.unusedSimpArgs false

/-- Entries with one more. -/
def doL (L : List S33) (x : S33) : List S33 × Int := if saneL L = true ∧ soundB x = true then (if saneL (L ++ [x]) = true then (L ++ [x], 0) else ([], 13)) else ([], 1)
structure Fit (L : List S33) : Prop where
  inn : ∀ x ∈ L, inE x = true
  snd : ∀ x ∈ L, soundB x = true
  is : ∃ E, opE L [] = some E ∧ L.length + E.length ≤ 256
theorem Fit.sane {L : List S33} (h : Fit L) : saneL L = true := by
  obtain ⟨E, h1, h2⟩ := h.is
  unfold saneL
  rw [opn_of h1, h1, List.all_eq_true.2 h.snd, decide_eq_true h2]; rfl
theorem Fit.of_sane {L : List S33} (hi : ∀ x ∈ L, inE x = true) (h : saneL L = true) : Fit L := by
  unfold saneL at h
  simp only [Bool.and_eq_true, decide_eq_true_eq] at h
  obtain ⟨h1, h2, h3⟩ := h
  obtain ⟨E, hE⟩ := Option.isSome_iff_exists.1 h2
  rw [opn_of hE] at h3
  exact ⟨hi, List.all_eq_true.1 h1, E, hE, h3⟩
theorem Fit.nil : Fit [] := ⟨by simp, by simp, [], rfl, by decide⟩
theorem Fit.len {L : List S33} (h : Fit L) : L.length ≤ 256 := by obtain ⟨E, _, h2⟩ := h.is; omega
theorem Fit.all {L : List S33} (h : Fit L) : L.all inE = true := List.all_eq_true.2 h.inn
theorem opE_mem {P : S33 → Prop} : ∀ (l E R : List S33), (∀ x ∈ l, P x) → (∀ x ∈ E, P x) → opE l E = some R → ∀ x ∈ R, P x
  | [], E, R, h1, h2, h => by obtain rfl := Option.some.inj h; exact h2
  | y :: l, E, R, h1, h2, h => by
    rw [opE] at h
    by_cases h3 : y.f3 = true
    · rw [if_pos h3] at h
      obtain ⟨E', hE', h⟩ := Option.bind_eq_some_iff.1 h
      refine opE_mem l E' R (fun x hx => h1 x (List.mem_cons_of_mem _ hx)) (fun x hx => h2 x ?_) h
      by_cases hn : ∀ e ∈ E, opp e ≠ y
      · rw [pop1_none hn] at hE'; cases hE'
      · have hf : E.filter (fun e => decide (opp e = y)) ≠ [] := fun hf => hn fun e he ho => by
          have : e ∈ E.filter (fun e => decide (opp e = y)) := List.mem_filter.2 ⟨he, by simp [ho]⟩
          rw [hf] at this; cases this
        obtain ⟨A, p, B, rfl, hp, hB⟩ := split_last _ _ hf
        rw [pop1_some B (of_decide_eq_true hp) (fun b hb => of_decide_eq_false (hB b hb)) A] at hE'
        obtain rfl := Option.some.inj hE'
        rcases List.mem_append.1 hx with hx | hx
        · exact List.mem_append_left _ hx
        · exact List.mem_append_right _ (List.mem_cons_of_mem _ hx)
    · rw [if_neg h3] at h
      refine opE_mem l (E ++ [y]) R (fun x hx => h1 x (List.mem_cons_of_mem _ hx)) (fun x hx => ?_) h
      rcases List.mem_append.1 hx with hx | hx
      · exact h2 x hx
      · rw [List.mem_singleton.1 hx]; exact h1 y (List.mem_cons_self ..)
theorem opn_mem {P : S33 → Prop} {L : List S33} (h : ∀ x ∈ L, P x) : ∀ x ∈ opn L, P x := by
  unfold opn
  cases h1 : opE L [] with
  | none => intro x hx; cases hx
  | some E => exact opE_mem L [] E h (by simp) h1
theorem Fit.undo {L : List S33} (h : Fit L) (q : S33 → Bool) (hq : ∀ a b, q a = true → opp b = opp a → q b = true) : Fit (undL L q) := by
  obtain ⟨E, h1, h2⟩ := h.is
  refine ⟨fun x hx => ?_, fun x hx => ?_, _, opE_undL h1 q hq, ?_⟩
  · rcases List.mem_append.1 hx with hx | hx
    · exact h.inn x hx
    · obtain ⟨y, hy, rfl⟩ := List.mem_map.1 hx
      have := List.mem_filter.1 (List.mem_reverse.1 hy)
      exact inE_opp (opn_mem h.inn y this.1)
  · rcases List.mem_append.1 hx with hx | hx
    · exact h.snd x hx
    · obtain ⟨y, hy, rfl⟩ := List.mem_map.1 hx
      have := List.mem_filter.1 (List.mem_reverse.1 hy)
      exact sound_opp (opn_mem h.snd y this.1) (opn_mem h.inn y this.1)
  · unfold undL
    rw [opn_of h1, List.length_append, List.length_map, List.length_reverse]
    have : (E.filter q).length + (E.filter (fun e => !q e)).length = E.length := by
      clear h1 h2
      induction E with
      | nil => rfl
      | cons a E ih => cases ha : q a <;> simp [List.filter_cons, ha] <;> omega
    omega
/-- What grows: with few transactions, few counters. -/
structure Grown (L : List S33) : Prop where
  fit : Fit L
  few : ∀ x ∈ L, 0 ≤ x.f0 ∧ x.f0 < 8 ∧ 0 ≤ x.f1 ∧ x.f1 < 4
theorem Grown.nil : Grown [] := ⟨Fit.nil, by simp⟩
theorem Grown.undo {L : List S33} (h : Grown L) (q : S33 → Bool) (hq : ∀ a b, q a = true → opp b = opp a → q b = true) : Grown (undL L q) := by
  refine ⟨h.fit.undo q hq, fun x hx => ?_⟩
  rcases List.mem_append.1 hx with hx | hx
  · exact h.few x hx
  · obtain ⟨y, hy, rfl⟩ := List.mem_map.1 hx
    exact opn_mem h.few y (List.mem_filter.1 (List.mem_reverse.1 hy)).1
theorem do_ok {L : List S33} (h : Fit L) {x : S33} (hx : inE x = true) (h3 : x.f3 = false) : (doL L x = (L ++ [x], 0) ∧ Fit (L ++ [x])) ∨ doL L x = ([], 13) ∨ (doL L x = ([], 1) ∧ soundB x = false) := by
  unfold doL
  cases hs : soundB x with
  | false => rw [if_neg (by simp)]; exact .inr (.inr ⟨rfl, rfl⟩)
  | true =>
    rw [if_pos ⟨h.sane, rfl⟩]
    cases h2 : saneL (L ++ [x]) with
    | false => rw [if_neg (by decide)]; exact .inr (.inl rfl)
    | true =>
      rw [if_pos rfl]
      refine .inl ⟨rfl, Fit.of_sane (fun y hy => ?_) h2⟩
      rcases List.mem_append.1 hy with hy | hy
      · exact h.inn y hy
      · rw [List.mem_singleton.1 hy]; exact hx
theorem Grown.snoc {L : List S33} (h : Grown L) {x : S33} (hf : Fit (L ++ [x])) (hx : 0 ≤ x.f0 ∧ x.f0 < 8 ∧ 0 ≤ x.f1 ∧ x.f1 < 4) : Grown (L ++ [x]) :=
  ⟨hf, fun y hy => by
    rcases List.mem_append.1 hy with hy | hy
    · exact h.few y hy
    · rw [List.mem_singleton.1 hy]; exact hx⟩
end Go.Proofs.Ytjpoepiidmoegaa.Q
