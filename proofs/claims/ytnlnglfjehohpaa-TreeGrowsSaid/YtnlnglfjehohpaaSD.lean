import Derived.Test.YtnlnglfjehohpaaSC
namespace Go.Proofs.Ytnlnglfjehohpaa.Q
open Go.RowKit Go.Proofs.YtnlnglfjehohpaaW Go.Proofs.YtnlnglfjehohpaaW.PrintWords Go.Proofs.YtnlnglfjehohpaaW.PrintLast Go.Proofs.YtnlnglfjehohpaaW.PrintMore
set_option linter.unusedVariables false
set_option linter.unusedSimpArgs false
/-- Outer loop: T is sorted, R is left. -/
def Out (key : Int → Int) (P S Q : List Int) (i : Nat) (J : List Int → Prop) : Prop :=
  ∃ T R : List Int, (T ++ R).Perm S ∧ Sorted key T ∧ (P.length + T.length = i ∨ S = [] ∧ T = [] ∧ P.length < i) ∧ J (P ++ (T ++ (R ++ Q)))
/-- Inner loop: x goes down through T1. -/
def Inn (key : Int → Int) (P S Q : List Int) (i j : Nat) (J : List Int → Prop) : Prop :=
  ∃ (T1 T2 R : List Int) (x : Int), ((T1 ++ (x :: T2)) ++ R).Perm S ∧ Sorted key (T1 ++ T2) ∧ (∀ t ∈ T2, key x ≤ key t) ∧ P.length + T1.length = j ∧ P.length + T1.length + T2.length = i ∧ J (P ++ (T1 ++ (x :: (T2 ++ (R ++ Q)))))
theorem Out.mono {key P S Q i} {J J' : List Int → Prop} (h : Out key P S Q i J) (hJ : ∀ l, J l → J' l) : Out key P S Q i J' := by
  obtain ⟨T, R, h1, h2, h3, h4⟩ := h
  exact ⟨T, R, h1, h2, h3, hJ _ h4⟩
theorem Out.start {key P S Q J} (h : J (P ++ (S ++ Q))) : Out key P S Q (P.length + 1) J := by
  cases S with
  | nil => exact ⟨[], [], .refl _, List.Pairwise.nil, .inr ⟨rfl, rfl, by omega⟩, h⟩
  | cons s S => exact ⟨[s], S, .refl _, List.pairwise_singleton _ _, .inl rfl, h⟩
theorem Out.done {key P S Q i J} (h : Out key P S Q i J) (hi : P.length + S.length ≤ i) : ∃ T, T.Perm S ∧ Sorted key T ∧ J (P ++ (T ++ Q)) := by
  obtain ⟨T, R, h1, h2, h3, h4⟩ := h
  have hl := h1.length_eq
  rw [List.length_append] at hl
  have hR : R = [] := by
    rcases h3 with h3 | ⟨h3, h3', h3''⟩
    · exact List.length_eq_zero_iff.1 (by omega)
    · subst h3 h3'; exact List.length_eq_zero_iff.1 (by simpa using hl)
  subst hR
  exact ⟨T, by simpa using h1, h2, h4⟩
theorem Out.inn {key P S Q i J} (h : Out key P S Q i J) (hi : i < P.length + S.length) : Inn key P S Q i i J := by
  obtain ⟨T, R, h1, h2, h3, h4⟩ := h
  have hl := h1.length_eq
  rw [List.length_append] at hl
  have h3 : P.length + T.length = i := by
    rcases h3 with h3 | ⟨h3, h3', h3''⟩
    · exact h3
    · subst h3 h3'; exfalso; simp at hi; omega
  obtain ⟨x, R, rfl⟩ : ∃ x R', R = x :: R' := by
    cases R with
    | nil => simp at hl; omega
    | cons x R => exact ⟨x, R, rfl⟩
  exact ⟨T, [], R, x, by simpa using h1, by simpa using h2, by simp, h3, by simpa using h3, by simpa using h4⟩
theorem Inn.out {key P S Q i j J} (h : Inn key P S Q i j J) (hs : P.length < j → ∀ T1 T2 R u x, J (P ++ ((T1 ++ [u]) ++ (x :: (T2 ++ (R ++ Q))))) → P.length + T1.length + 1 = j → key u ≤ key x) : Out key P S Q (i + 1) J := by
  obtain ⟨T1, T2, R, x, h1, h2, h3, h4, h5, h6⟩ := h
  refine ⟨T1 ++ (x :: T2), R, h1, ?_, .inl (by rw [List.length_append, List.length_cons]; omega), by simpa only [List.append_assoc, List.cons_append] using h6⟩
  have p := List.pairwise_append.1 h2
  refine List.pairwise_append.2 ⟨p.1, List.pairwise_cons.2 ⟨h3, p.2.1⟩, ?_⟩
  intro t ht y hy
  rcases List.mem_cons.1 hy with rfl | hy
  · rcases List.eq_nil_or_concat T1 with he | ⟨U, u, he⟩
    · subst he; cases ht
    · rw [List.concat_eq_append] at he
      subst he
      have hu := hs (by rw [← h4, List.length_append, List.length_singleton]; omega) U T2 R u y h6 (by rw [← h4, List.length_append, List.length_singleton]; omega)
      rcases List.mem_append.1 ht with ht | ht
      · exact Int.le_trans ((List.pairwise_append.1 p.1).2.2 t ht u (List.mem_singleton_self _)) hu
      · rw [List.mem_singleton.1 ht]; exact hu
  · exact p.2.2 t ht y hy
/-- What stands at j and ahead of it. -/
theorem Inn.open {key P S Q i j J} (h : Inn key P S Q i j J) (hj : P.length < j) : ∃ (A0 B0 : List Int) (u x : Int), A0.length + 1 = j ∧ u ∈ S ∧ x ∈ S ∧ J (A0 ++ u :: x :: B0) ∧
    (∀ J' : List Int → Prop, key x < key u → J' (A0 ++ x :: u :: B0) → Inn key P S Q i (j - 1) J') ∧ (∀ J' : List Int → Prop, key u ≤ key x → J' (A0 ++ u :: x :: B0) → Out key P S Q (i + 1) J') := by
  obtain ⟨T1, T2, R, x, h1, h2, h3, h4, h5, h6⟩ := h
  rcases List.eq_nil_or_concat T1 with he | ⟨U, u, he⟩
  · subst he; simp at h4; omega
  rw [List.concat_eq_append] at he
  subst he
  rw [List.length_append, List.length_singleton] at h4 h5
  refine ⟨P ++ U, T2 ++ (R ++ Q), u, x, by rw [List.length_append]; omega, h1.subset (by simp), h1.subset (by simp), by simpa only [List.append_assoc, List.cons_append, List.nil_append] using h6, fun J' hlt hJ => ?_, fun J' hle hJ => ?_⟩
  · refine ⟨U, u :: T2, R, x, ?_, by simpa only [List.append_assoc, List.cons_append, List.nil_append] using h2, ?_, by omega, by rw [List.length_cons]; omega, by simpa only [List.append_assoc, List.cons_append, List.nil_append] using hJ⟩
    · refine List.Perm.trans ?_ h1
      simp only [List.append_assoc, List.cons_append, List.nil_append]
      exact List.Perm.append_left _ (List.Perm.swap _ _ _)
    · intro t ht
      rcases List.mem_cons.1 ht with rfl | ht
      · omega
      · exact h3 t ht
  · have p := List.pairwise_append.1 h2
    refine ⟨(U ++ [u]) ++ (x :: T2), R, h1, ?_, .inl (by simp only [List.length_append, List.length_cons, List.length_nil]; omega), by simpa only [List.append_assoc, List.cons_append, List.nil_append] using hJ⟩
    refine List.pairwise_append.2 ⟨p.1, List.pairwise_cons.2 ⟨h3, p.2.1⟩, ?_⟩
    intro t ht y hy
    rcases List.mem_cons.1 hy with rfl | hy
    · rcases List.mem_append.1 ht with ht | ht
      · exact Int.le_trans ((List.pairwise_append.1 p.1).2.2 t ht u (List.mem_singleton_self _)) hle
      · rw [List.mem_singleton.1 ht]; exact hle
    · exact p.2.2 t ht y hy
theorem Inn.low {key P S Q i j J} (h : Inn key P S Q i j J) (hj : P.length = j) : Out key P S Q (i + 1) J := by
  refine h.out (fun h => by omega)
end Go.Proofs.Ytnlnglfjehohpaa.Q
