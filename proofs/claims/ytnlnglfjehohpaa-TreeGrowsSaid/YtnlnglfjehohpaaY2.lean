/- What Order tells of a grown tree. -/
import Derived.Test.YtnlnglfjehohpaaTO
import Derived.Test.YtnlnglfjehohpaaTM
namespace Go.Proofs.Ytnlnglfjehohpaa.Q
open Go.RowKit
set_option linter.unusedVariables false
set_option linter.unusedSimpArgs false
set_option linter.unusedSectionVars false
theorem fxd_at {l : List S35} {i : Int} (h : fxd l i = true) : isB l i = true ∧ ∀ x ∈ chain l i, (rd_T35 l x).f1 = 2 := by
  unfold fxd anyUp at h
  simp only [Bool.and_eq_true, Bool.not_eq_true', List.any_eq_false] at h
  exact ⟨h.1, fun x hx => by have := h.2 x hx; simpa using this⟩
theorem fxd_of {l : List S35} {i : Int} (h : isB l i = true) (h2 : ∀ x ∈ chain l i, (rd_T35 l x).f1 = 2) : fxd l i = true := by
  unfold fxd anyUp
  simp only [Bool.and_eq_true, Bool.not_eq_true', List.any_eq_false]
  exact ⟨h, fun x hx => by rw [h2 x hx]; decide⟩
theorem fxd_self {l : List S35} (hu : Up l) {i : Int} (h : fxd l i = true) : (rd_T35 l i).f1 = 2 := (fxd_at h).2 i (chain_self hu (fxd_at h).1)
theorem Tr.good {l : List S35} {c : Int} (t : Tr l c) : goodO l = true := by
  unfold goodO
  simp only [Bool.and_eq_true, decide_eq_true_eq, List.all_eq_true]
  refine ⟨⟨by have := t.len; omega, fun k hk => ?_⟩, fun i hi j hj => ?_⟩
  · cases hf : fxd l (k : Int) with
    | false => rfl
    | true =>
      have := t.up.at (fxd_at hf).1
      simp only [Bool.not_true, Bool.false_or, Bool.and_eq_true, decide_eq_true_eq]
      exact this
  · by_cases e : i = j
    · simp [e]
    · cases hi : fxd l (i : Int) with
      | false => simp
      | true =>
        cases hj : fxd l (j : Int) with
        | false => simp
        | true =>
          have h1 := fxd_self t.up hi
          have h2 := fxd_self t.up hj
          have : ¬ byEnd l (i : Int) = byEnd l (j : Int) := fun e2 => by
            have := (t.apart i j (fxd_at hi).1 (fxd_at hj).1 (by omega) (by omega) (by omega) e2).1
            omega
          simp [this]
/-- What is told: all that is fixed, once; the kids of one by their ends; each ahead of what stands in it. -/
def Ahd (l : List S35) (a b : Int) : Prop := (parL l a = parL l b → byEnd l a < byEnd l b) ∧ b ∉ chain l a
section
variable {l : List S35} {n : Nat} (hn : l.length = n) (hu : Up l) (K : Kin (kidsL l) (parL l) n) (hi : ∀ p, ∀ x ∈ kidsL l p, ∀ y ∈ kidsL l p, byEnd l x = byEnd l y → x = y)
include hu K
theorem kid_isB {p k : Int} (h : k ∈ kidsL l p) : isB l k = true := (fxd_at (mem_kids h).2.2.1).1
theorem sd_chain {k : Int} : ∀ (m : Nat) (x y : Int), x.toNat ≤ m → SD (kidsL l) k x → y ∈ chain l x → Upk (kidsL l) k y ∨ y ∈ chain l (parL l k) := by
  intro m
  induction m with
  | zero =>
    intro x y hx hs hy
    have h1 := hs.range K
    have hb := kid_isB hu K (hs.up K).1
    rw [chain_eq hu x hb] at hy
    have h2 := hu.at hb
    rcases List.mem_cons.1 hy with rfl | hy
    · exact .inl (.inr hs)
    · have hlt := hs.lt K
      have := (hs.up K).2
      rcases this with e | e
      · have e' : (rd_T35 l x).f0 = k := e
        rw [e'] at hy
        rw [e'] at h2
        have : k = -1 := by omega
        rw [this, chain_out l _ (isB_neg l _ (by omega))] at hy
        cases hy
      · have e1 := e.range K
        have e2 : (rd_T35 l x).f0 = parL l x := rfl
        omega
  | succ m ih =>
    intro x y hx hs hy
    have h1 := hs.range K
    have hb := kid_isB hu K (hs.up K).1
    rw [chain_eq hu x hb] at hy
    have h2 := hu.at hb
    rcases List.mem_cons.1 hy with rfl | hy
    · exact .inl (.inr hs)
    · rcases (hs.up K).2 with e | e
      · have e' : (rd_T35 l x).f0 = k := e
        rw [e'] at hy
        by_cases hkb : isB l k = true
        · rw [chain_eq hu k hkb] at hy
          rcases List.mem_cons.1 hy with rfl | hy
          · exact .inl (.inl rfl)
          · exact .inr hy
        · rw [chain_out l k (by simpa using hkb)] at hy; cases hy
      · have e1 := e.range K
        have e2 : (rd_T35 l x).f0 = parL l x := rfl
        exact ih (parL l x) y (by omega) e hy
include hi in
theorem tl_ahead {S o : List Int} (h : Tl (kidsL l) (byEnd l) S o) : ∀ p, (∀ k ∈ S, k ∈ kidsL l p) → S.Nodup → Sorted (byEnd l) S → o.Pairwise (Ahd l) ∧ ∀ x ∈ o, ∃ k ∈ S, Upk (kidsL l) k x := by
  induction h with
  | nil => intro p _ _ _; exact ⟨List.Pairwise.nil, by simp⟩
  | cons k K1 S o1 o2 hp hs h1 h2 ih1 ih2 =>
    intro p hS hnd hso
    have hk := hS k List.mem_cons_self
    have hk0 := K.has p k hk
    have nd := List.nodup_cons.1 hnd
    have so := List.pairwise_cons.1 hso
    obtain ⟨a1, a2⟩ := ih1 k (fun x hx => hp.mem_iff.1 hx) (hp.nodup_iff.2 (K.nod k)) hs
    obtain ⟨b1, b2⟩ := ih2 p (fun x hx => hS x (List.mem_cons_of_mem _ hx)) nd.2 so.2
    have m1 : ∀ x ∈ o1, SD (kidsL l) k x := by
      intro x hx
      obtain ⟨k', hk', hu'⟩ := a2 x hx
      rcases hu' with rfl | hu'
      · exact .base k x (hp.mem_iff.1 hk')
      · exact .step k k' x (hp.mem_iff.1 hk') hu'
    have one : ∀ k' ∈ S, ∀ z, Upk (kidsL l) k z → Upk (kidsL l) k' z → False := by
      intro k' hk' z u1 u2
      have := Upk.one K hk (hS k' (List.mem_cons_of_mem _ hk')) _ z (Nat.le_refl _) u1 u2
      exact nd.1 (this ▸ hk')
    -- what lies in k's chain
    have kch : ∀ y, y ∈ chain l k → y = k ∨ y ≤ p := by
      intro y hy
      rw [chain_eq hu k (kid_isB hu K hk)] at hy
      rcases List.mem_cons.1 hy with rfl | hy
      · exact .inl rfl
      · have := chain_le hu _ y hy
        have e : (rd_T35 l k).f0 = p := hk0.2.2.2
        omega
    have parOf : ∀ k' ∈ S, ∀ y, Upk (kidsL l) k' y → p < y ∧ (parL l y = p ∧ y = k' ∨ Upk (kidsL l) k' (parL l y)) := by
      intro k' hk' y hy
      have q := K.has p k' (hS k' (List.mem_cons_of_mem _ hk'))
      rcases hy with rfl | hy
      · exact ⟨q.1, .inl ⟨q.2.2.2, rfl⟩⟩
      · have := hy.lt K
        exact ⟨by omega, .inr (hy.up K).2⟩
    have upLe : ∀ z w, Upk (kidsL l) z w → z ≤ w := by
      intro z w hz
      rcases hz with rfl | hz
      · exact Int.le_refl _
      · have := hz.lt K; omega
    refine ⟨List.pairwise_cons.2 ⟨fun x hx => ?_, List.pairwise_append.2 ⟨a1, b1, fun x hx y hy => ?_⟩⟩, fun x hx => ?_⟩
    · rcases List.mem_append.1 hx with hx | hx
      · have s := m1 x hx
        have lt := s.lt K
        have up := (s.up K).2
        refine ⟨fun e => ?_, fun hc => by have := kch x hc; omega⟩
        exfalso
        have : k ≤ parL l x := by
          rcases up with e' | e'
          · omega
          · have := e'.lt K; omega
        omega
      · obtain ⟨k', hk', hy⟩ := b2 x hx
        have hkk := hS k' (List.mem_cons_of_mem _ hk')
        have po := parOf k' hk' x hy
        refine ⟨fun e => ?_, fun hc => ?_⟩
        · rcases po.2 with ⟨e1, rfl⟩ | e1
          · have h1 := so.1 x hk'
            have h2 : byEnd l k ≠ byEnd l x := fun e2 => nd.1 (hi p k hk x hkk e2 ▸ hk')
            omega
          · exfalso
            have := upLe _ _ e1
            have q := K.has p k' hkk
            omega
        · rcases kch x hc with rfl | h
          · exact one k' hk' x (.inl rfl) hy
          · omega
    · have s := m1 x hx
      obtain ⟨k', hk', hy'⟩ := b2 y hy
      have hkk := hS k' (List.mem_cons_of_mem _ hk')
      have po := parOf k' hk' y hy'
      have upx : Upk (kidsL l) k (parL l x) := (s.up K).2
      refine ⟨fun e => ?_, fun hc => ?_⟩
      · exfalso
        rcases po.2 with ⟨e1, _⟩ | e1
        · have := upLe _ _ upx
          omega
        · rw [e] at upx
          exact one k' hk' _ upx e1
      · rcases sd_chain hu K _ x y (Nat.le_refl _) s hc with h | h
        · exact one k' hk' y h hy'
        · have := chain_le hu _ y h
          rw [hk0.2.2.2] at this
          omega
    · rcases List.mem_cons.1 hx with rfl | hx
      · exact ⟨x, List.mem_cons_self, .inl rfl⟩
      · rcases List.mem_append.1 hx with hx | hx
        · exact ⟨k, List.mem_cons_self, .inr (m1 x hx)⟩
        · obtain ⟨k', hk', h⟩ := b2 x hx
          exact ⟨k', List.mem_cons_of_mem _ hk', h⟩
omit hu K in
theorem sd_first {kids : Int → List Int} {k x : Int} (h : SD kids k x) : ∃ k1 ∈ kids k, Upk kids k1 x := by
  cases h with
  | base _ _ h => exact ⟨x, h, .inl rfl⟩
  | step _ k1 _ h h2 => exact ⟨k1, h, .inr h2⟩
omit hu K in
theorem tl_all {kids : Int → List Int} {key : Int → Int} {S o : List Int} (h : Tl kids key S o) : ∀ k ∈ S, ∀ x, Upk kids k x → x ∈ o := by
  induction h with
  | nil => simp
  | cons k K1 S o1 o2 hp hs h1 h2 ih1 ih2 =>
    intro k' hk' x hx
    rcases List.mem_cons.1 hk' with rfl | hk'
    · rcases hx with rfl | hx
      · exact List.mem_cons_self
      · obtain ⟨k1, hk1, hu1⟩ := sd_first hx
        exact List.mem_cons_of_mem _ (List.mem_append_left _ (ih1 k1 (hp.mem_iff.2 hk1) x hu1))
    · exact List.mem_cons_of_mem _ (List.mem_append_right _ (ih2 k' hk' x hx))
end
theorem fxd_sd {l : List S35} (hu : Up l) : ∀ (m : Nat) (x : Int), x.toNat ≤ m → fxd l x = true → SD (kidsL l) (-1) x := by
  intro m
  induction m with
  | zero =>
    intro x hx hf
    have hb := (fxd_at hf).1
    have h1 := (isB_iff l x).1 hb
    have h2 := hu.at hb
    have e : parL l x = -1 := by show (rd_T35 l x).f0 = -1; omega
    exact .base _ _ (kids_mem h1.1 h1.2 hf e)
  | succ m ih =>
    intro x hx hf
    have hb := (fxd_at hf).1
    have h1 := (isB_iff l x).1 hb
    have h2 := hu.at hb
    by_cases e : (rd_T35 l x).f0 = -1
    · exact .base _ _ (kids_mem h1.1 h1.2 hf e)
    · have hc := chain_eq hu x hb
      have hpb : isB l (rd_T35 l x).f0 = true := (isB_iff l _).2 ⟨by omega, by omega⟩
      have hpf : fxd l (rd_T35 l x).f0 = true := fxd_of hpb (fun y hy => (fxd_at hf).2 y (by rw [hc]; exact List.mem_cons_of_mem _ hy))
      exact (ih _ (by omega) hpf).trans (.base _ _ (kids_mem h1.1 h1.2 hf rfl))
/-- All of it, of a grown tree. -/
theorem order_spec {l : List S35} {c : Int} (t : Tr l c) : ∃ o, tree_Order.f l c = some o ∧ o.Pairwise (Ahd l) ∧ o.Nodup ∧ (∀ x, x ∈ o ↔ fxd l x = true) := by
  have hg := t.good
  obtain ⟨K, _, hi⟩ := good_kin hg
  refine ⟨tellF (byEnd l) (kidsL l) (l.length + 1) (-1), by unfold tree_Order.f; rw [if_pos hg], ?_⟩
  have hT : Tl (kidsL l) (byEnd l) (srt (byEnd l) (kidsL l (-1))) (tellF (byEnd l) (kidsL l) (l.length + 1) (-1)) := Tl.tell K l.length (-1) (by omega)
  generalize tellF (byEnd l) (kidsL l) (l.length + 1) (-1) = o at hT ⊢
  have hmem : ∀ k, k ∈ srt (byEnd l) (kidsL l (-1)) ↔ k ∈ kidsL l (-1) := fun k => (srt_perm _ _).mem_iff
  obtain ⟨a1, a2⟩ := tl_ahead t.up K hi hT (-1) (fun k hk => (hmem k).1 hk) ((srt_perm _ _).nodup_iff.2 (K.nod _)) (srt_sorted _ _)
  have hsd : ∀ x ∈ o, SD (kidsL l) (-1) x := by
    intro x hx
    obtain ⟨k, hk, hu'⟩ := a2 x hx
    rcases hu' with rfl | hu'
    · exact .base _ _ ((hmem x).1 hk)
    · exact .step _ k x ((hmem k).1 hk) hu'
  refine ⟨a1, List.nodup_iff_pairwise_ne.2 (List.Pairwise.imp_of_mem (fun {a b} ha hb h e => ?_) a1), fun x => ⟨fun hx => ?_, fun hf => ?_⟩⟩
  · subst e
    exact h.2 (chain_self t.up (kid_isB t.up K ((hsd a ha).up K).1))
  · exact (mem_kids ((hsd x hx).up K).1).2.2.1
  · obtain ⟨k1, hk1, hu1⟩ := sd_first (fxd_sd t.up _ x (Nat.le_refl _) hf)
    exact tl_all hT k1 ((hmem k1).2 hk1) x hu1
end Go.Proofs.Ytnlnglfjehohpaa.Q
