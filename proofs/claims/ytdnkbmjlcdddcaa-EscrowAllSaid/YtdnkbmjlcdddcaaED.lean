/- Pends that are in order stay in order. No condition. -/
import Derived.Test.YtdnkbmjlcdddcaaET
import Derived.Test.YtdnkbmjlcdddcaaEX
namespace Go.Proofs.Ytdnkbmjlcdddcaa.Q
open Go.RowKit Go.Proofs.YtdnkbmjlcdddcaaW Go.Proofs.YtdnkbmjlcdddcaaW.PrintWords
set_option linter.unusedVariables false
set_option linter.unusedSimpArgs false
theorem cmpP_keys {a b a' b' : S83} (h0 : a'.f0 = a.f0) (h1 : a'.f1 = a.f1) (h2 : b'.f0 = b.f0) (h3 : b'.f1 = b.f1) : cmpP a' b' = cmpP a b := by unfold cmpP; rw [h0, h1, h2, h3]
theorem cmpP_tri (a b : S83) : cmpP a b < 0 ∨ cmpP a b = 0 ∨ cmpP b a < 0 := by
  rw [cmpP_lt, cmpP_eq, cmpP_lt]; omega
theorem posP_before : ∀ (l : List S83) (t : S83) (m : Nat) (hm : m < posP l t), cmpP (l[m]'(Nat.lt_of_lt_of_le hm (posP_le l t))) t < 0
  | [], t, m, hm => by simp [posP] at hm
  | x :: l, t, m, hm => by
    by_cases hx : cmpP x t < 0
    · have e : posP (x :: l) t = posP l t + 1 := by unfold posP; rw [List.takeWhile_cons, decide_eq_true hx]; rfl
      cases m with
      | zero => simpa using hx
      | succ m =>
        have := posP_before l t m (by omega)
        simpa using this
    · have e : posP (x :: l) t = 0 := by unfold posP; rw [List.takeWhile_cons, decide_eq_false hx]; rfl
      omega
theorem posP_at : ∀ (l : List S83) (t : S83) (h : posP l t < l.length), ¬ cmpP l[posP l t] t < 0
  | x :: l, t, h => by
    by_cases hx : cmpP x t < 0
    · have e : posP (x :: l) t = posP l t + 1 := by unfold posP; rw [List.takeWhile_cons, decide_eq_true hx]; rfl
      have hh : posP l t < l.length := by rw [e] at h; simpa using h
      have := posP_at l t hh
      simp only [e, List.getElem_cons_succ]
      exact this
    · have e : posP (x :: l) t = 0 := by unfold posP; rw [List.takeWhile_cons, decide_eq_false hx]; rfl
      simp only [e, List.getElem_cons_zero]
      exact hx
theorem rd83_get (l : List S83) (k : Nat) (hk : k < l.length) : rd_T83 l (k : Int) = l[k] := rd_at83 l k hk
theorem takeP_srt {l : List S83} (h : Srt l) (p : S83) : Srt (takeP l p) := by
  have hg := List.pairwise_iff_getElem.1 h
  unfold takeP
  by_cases h1 : p.f2 = p.f3
  · rw [if_pos h1]; exact h
  rw [if_neg h1]
  by_cases h2 : hasP l p = true
  · rw [if_pos h2]
    have hk := hasP_lt h2
    generalize hkk : posP l p = k at hk ⊢
    rw [rd83_get l k hk]
    refine List.pairwise_iff_getElem.2 (fun i j hi hj hij => ?_)
    rw [List.length_set] at hi hj
    have key : ∀ m (hm : m < l.length) (u v : Int), ((l.set k ⟨(l[k]).f0, (l[k]).f1, u, v⟩)[m]'(by rw [List.length_set]; exact hm)).f0 = (l[m]).f0 ∧ ((l.set k ⟨(l[k]).f0, (l[k]).f1, u, v⟩)[m]'(by rw [List.length_set]; exact hm)).f1 = (l[m]).f1 := by
      intro m hm u v
      rw [List.getElem_set]
      by_cases e : k = m
      · subst e; rw [if_pos rfl]; exact ⟨rfl, rfl⟩
      · rw [if_neg e]; exact ⟨rfl, rfl⟩
    rw [cmpP_keys (key i hi _ _).1 (key i hi _ _).2 (key j hj _ _).1 (key j hj _ _).2]
    exact hg i j hi hj hij
  · rw [if_neg h2]
    have hb := posP_before l p
    have ha : ∀ b ∈ l.drop (posP l p), cmpP p b < 0 := by
      intro b hb'
      obtain ⟨m, hm, rfl⟩ := List.mem_iff_getElem.1 hb'
      rw [List.length_drop] at hm
      have hlt : posP l p < l.length := by omega
      have h3 := posP_at l p hlt
      have h4 : cmpP l[posP l p] p ≠ 0 := fun e => h2 (by unfold hasP; rw [List.getElem?_eq_getElem hlt]; simp [e])
      have h5 : cmpP p l[posP l p] < 0 := by
        rcases cmpP_tri l[posP l p] p with h | h | h
        · exact absurd h h3
        · exact absurd h h4
        · exact h
      rw [List.getElem_drop]
      by_cases e : m = 0
      · subst e; exact h5
      · exact cmpP_trans h5 (hg (posP l p) (posP l p + m) hlt (by omega) (by omega))
    refine List.pairwise_append.2 ⟨List.Pairwise.sublist (List.take_sublist _ _) h, List.pairwise_cons.2 ⟨ha, List.Pairwise.sublist (List.drop_sublist _ _) h⟩, ?_⟩
    intro a ha' b hb'
    have hap : cmpP a p < 0 := by
      obtain ⟨m, hm, rfl⟩ := List.mem_iff_getElem.1 ha'
      rw [List.length_take] at hm
      rw [List.getElem_take]
      exact hb m (by omega)
    rcases List.mem_cons.1 hb' with rfl | hb'
    · exact hap
    · exact cmpP_trans hap (ha b hb')
theorem takeP_len (l : List S83) (p : S83) : (takeP l p).length ≤ l.length + 1 := by
  unfold takeP
  (repeat' split)
  · omega
  · rw [List.length_set]; omega
  · rw [List.length_append, List.length_take, List.length_cons, List.length_drop]; omega
theorem Srt.filter {l : List S83} (h : Srt l) (p : S83 → Bool) : Srt (l.filter p) := List.Pairwise.filter p h
def passStep (parent : Int) (s : List S28 × List S83) (p : S83) : List S28 × List S83 :=
  if 0 ≤ p.f0 ∧ p.f0 < (s.1.length : Int) then (if parent < 0 then (fixC s.1 p.f0.toNat p.f2 p.f3, s.2) else (s.1, takeP s.2 ⟨p.f0, parent, p.f2, p.f3⟩)) else s
theorem passStep_inv (parent : Int) (s : List S28 × List S83) (p : S83) (h : Srt s.2) : Srt (passStep parent s p).2 ∧ (passStep parent s p).1.length = s.1.length ∧ (passStep parent s p).2.length ≤ s.2.length + 1 := by
  unfold passStep
  (repeat' split)
  · exact ⟨h, by unfold fixC; rw [List.length_set], Nat.le_succ _⟩
  · exact ⟨takeP_srt h _, rfl, takeP_len _ _⟩
  · exact ⟨h, rfl, Nat.le_succ _⟩
theorem passFold_inv (parent : Int) : ∀ (O : List S83) (s : List S28 × List S83), Srt s.2 → Srt (O.foldl (passStep parent) s).2 ∧ (O.foldl (passStep parent) s).1.length = s.1.length ∧ (O.foldl (passStep parent) s).2.length ≤ s.2.length + O.length
  | [], s, h => ⟨h, rfl, by simp⟩
  | p :: O, s, h => by
    obtain ⟨h1, h2, h3⟩ := passStep_inv parent s p h
    obtain ⟨g1, g2, g3⟩ := passFold_inv parent O _ h1
    rw [List.foldl_cons]
    exact ⟨g1, g2.trans h2, by rw [List.length_cons]; omega⟩
end Go.Proofs.Ytdnkbmjlcdddcaa.Q
