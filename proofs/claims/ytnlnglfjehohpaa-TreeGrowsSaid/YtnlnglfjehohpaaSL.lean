import Derived.Test.YtnlnglfjehohpaaOS
namespace Go.Proofs.Ytnlnglfjehohpaa.Q
open Go.RowKit
set_option linter.unusedVariables false
set_option linter.unusedSimpArgs false
/-! What Order tells: each one's kids by key, behind each its own. -/
inductive Tl (kids : Int → List Int) (key : Int → Int) : List Int → List Int → Prop
  | nil : Tl kids key [] []
  | cons (k : Int) (K S o1 o2 : List Int) (hp : K.Perm (kids k)) (hs : Sorted key K) (h1 : Tl kids key K o1) (h2 : Tl kids key S o2) : Tl kids key (k :: S) (k :: (o1 ++ o2))
theorem Tl.append {kids key S1 o1} (h : Tl kids key S1 o1) : ∀ {S2 o2}, Tl kids key S2 o2 → Tl kids key (S1 ++ S2) (o1 ++ o2) := by
  induction h with
  | nil => exact fun h => h
  | cons k K S o1 o2 hp hs h1 h2 _ ih =>
    intro S2 o3 h3
    have := Tl.cons k K (S ++ S2) o1 (o2 ++ o3) hp hs h1 (ih h3)
    simpa only [List.cons_append, List.append_assoc] using this
/-- x stands in p, below it. -/
inductive SD (kids : Int → List Int) : Int → Int → Prop
  | base (p x : Int) (h : x ∈ kids p) : SD kids p x
  | step (p k x : Int) (h : k ∈ kids p) (h2 : SD kids k x) : SD kids p x
structure Kin (kids : Int → List Int) (par : Int → Int) (n : Nat) : Prop where
  has : ∀ p k, k ∈ kids p → p < k ∧ 0 ≤ k ∧ k < n ∧ par k = p
  nod : ∀ p, (kids p).Nodup
theorem SD.trans {kids p k x} (h : SD kids p k) (h2 : SD kids k x) : SD kids p x := by
  induction h with
  | base p y h => exact .step p y x h h2
  | step p q y h _ ih => exact .step p q x h (ih h2)
theorem SD.lt {kids par n p x} (K : Kin kids par n) (h : SD kids p x) : p < x := by
  induction h with
  | base p x h => exact (K.has p x h).1
  | step p k x h _ ih => have := (K.has p k h).1; omega
theorem SD.range {kids par n p x} (K : Kin kids par n) (h : SD kids p x) : 0 ≤ x ∧ x < n := by
  induction h with
  | base p x h => exact ⟨(K.has p x h).2.1, (K.has p x h).2.2.1⟩
  | step p k x h _ ih => exact ih
theorem SD.up {kids par n p x} (K : Kin kids par n) (h : SD kids p x) : x ∈ kids (par x) ∧ (par x = p ∨ SD kids p (par x)) := by
  induction h with
  | base p x h => have := (K.has p x h).2.2.2; rw [this]; exact ⟨h, .inl rfl⟩
  | step p k x h _ ih =>
    refine ⟨ih.1, .inr ?_⟩
    rcases ih.2 with e | e
    · rw [e]; exact .base p k h
    · exact .step p k _ h e
def Upk (kids : Int → List Int) (k x : Int) : Prop := x = k ∨ SD kids k x
theorem Upk.one {kids par n p k k'} (K : Kin kids par n) (h1 : k ∈ kids p) (h2 : k' ∈ kids p) : ∀ (m : Nat) (x : Int), x.toNat ≤ m → Upk kids k x → Upk kids k' x → k = k' := by
  have q1 := K.has p k h1
  have q2 := K.has p k' h2
  intro m
  induction m with
  | zero =>
    intro x hx u1 u2
    rcases u1 with rfl | u1
    · rcases u2 with rfl | u2
      · rfl
      · have := u2.lt K; omega
    · have := u1.lt K; omega
  | succ m ih =>
    intro x hx u1 u2
    rcases u1 with rfl | u1
    · rcases u2 with rfl | u2
      · rfl
      · have := (u2.up K).2
        rw [q1.2.2.2] at this
        rcases this with e | e
        · omega
        · have := e.lt K; omega
    · rcases u2 with rfl | u2
      · have := (u1.up K).2
        rw [q2.2.2.2] at this
        rcases this with e | e
        · omega
        · have := e.lt K; omega
      · have a1 := u1.up K
        have a2 := u2.up K
        have a3 := (K.has _ _ a1.1).1
        have a4 := u1.lt K
        have a5 : k ≤ par x := by
          rcases a1.2 with e | e
          · omega
          · have := e.lt K; omega
        exact ih (par x) (by omega) a1.2 a2.2
theorem nodup_len : ∀ (n : Nat) (l : List Int), l.Nodup → (∀ x ∈ l, 0 ≤ x ∧ x < n) → l.length ≤ n
  | 0, l, _, h => by
    match l with
    | [] => simp
    | x :: l => have := h x List.mem_cons_self; omega
  | n + 1, l, hn, h => by
    by_cases hm : (n : Int) ∈ l
    · have h1 := nodup_len n (l.erase n) (hn.erase _) (fun x hx => by
        have := (hn.mem_erase_iff).1 hx
        have := h x this.2
        omega)
      have := List.length_erase_of_mem hm
      omega
    · have := nodup_len n l hn (fun x hx => by
        have := h x hx
        have : x ≠ n := fun e => hm (e ▸ hx)
        omega)
      omega
/-- What was told ahead of the kids of p. -/
structure Ahead (kids : Int → List Int) (n : Nat) (p : Int) (out : List Int) : Prop where
  nod : out.Nodup
  rng : ∀ x ∈ out, 0 ≤ x ∧ x < n
  not : ∀ x ∈ out, ¬ SD kids p x
/-- In the row T of p's kids, T1 is told: o1. -/
structure Half (kids : Int → List Int) (par : Int → Int) (n : Nat) (p : Int) (out T1 o1 : List Int) : Prop where
  nod : (out ++ o1).Nodup
  rng : ∀ x ∈ out ++ o1, 0 ≤ x ∧ x < n
  not : ∀ x ∈ out, ¬ SD kids p x
  sub : ∀ x ∈ o1, ∃ k ∈ T1, Upk kids k x
theorem Half.start {kids par n p out} (h : Ahead kids n p out) : Half kids par n p out [] [] := ⟨by simpa using h.nod, by simpa using h.rng, h.not, by simp⟩
/-- One more kid: its number is told, then what stands in it. -/
theorem Half.ahead {kids par n p out T1 o1 k} (K : Kin kids par n) (h : Half kids par n p out T1 o1) (hT : ∀ x ∈ T1, x ∈ kids p) (hk : k ∈ kids p) (hnew : k ∉ T1) : Ahead kids n k (out ++ o1 ++ [k]) ∧ (out ++ o1).length + 1 ≤ n := by
  have hk0 := K.has p k hk
  have hno : k ∉ out ++ o1 := by
    intro hm
    rcases List.mem_append.1 hm with hm | hm
    · exact h.not k hm (.base p k hk)
    · obtain ⟨k', hk', hu⟩ := h.sub k hm
      have := Upk.one K (hT k' hk') hk _ k (Nat.le_refl _) hu (.inl rfl)
      exact hnew (this ▸ hk')
  have hnod : (out ++ o1 ++ [k]).Nodup := List.nodup_append.2 ⟨h.nod, by simp, fun a ha b hb e => by rw [List.mem_singleton.1 hb] at e; exact hno (e ▸ ha)⟩
  have hrng : ∀ x ∈ out ++ o1 ++ [k], 0 ≤ x ∧ x < n := by
    intro x hx
    rcases List.mem_append.1 hx with hx | hx
    · exact h.rng x hx
    · rw [List.mem_singleton.1 hx]; exact ⟨hk0.2.1, hk0.2.2.1⟩
  refine ⟨⟨hnod, hrng, fun x hx hs => ?_⟩, ?_⟩
  · rcases List.mem_append.1 hx with hx | hx
    · rcases List.mem_append.1 hx with hx | hx
      · exact h.not x hx (.step p k x hk hs)
      · obtain ⟨k', hk', hu⟩ := h.sub x hx
        have := Upk.one K (hT k' hk') hk _ x (Nat.le_refl _) hu (.inr hs)
        exact hnew (this ▸ hk')
    · rw [List.mem_singleton.1 hx] at hs
      have := hs.lt K
      omega
  · have := nodup_len n _ hnod hrng
    rw [List.length_append, List.length_singleton] at this
    omega
theorem Half.more {kids par n p out T1 o1 k o} (K : Kin kids par n) (h : Half kids par n p out T1 o1) (hk : k ∈ kids p) (hn : (out ++ o1 ++ [k] ++ o).Nodup) (ho : ∀ x ∈ o, SD kids k x) : Half kids par n p out (T1 ++ [k]) (o1 ++ (k :: o)) := by
  have hk0 := K.has p k hk
  refine ⟨by simpa only [List.append_assoc, List.cons_append, List.nil_append] using hn, fun x hx => ?_, h.not, fun x hx => ?_⟩
  · rw [← List.append_assoc] at hx
    rcases List.mem_append.1 hx with hx | hx
    · exact h.rng x hx
    · rcases List.mem_cons.1 hx with rfl | hx
      · exact ⟨hk0.2.1, hk0.2.2.1⟩
      · exact (ho x hx).range K
  · rcases List.mem_append.1 hx with hx | hx
    · obtain ⟨k', hk', hu⟩ := h.sub x hx
      exact ⟨k', List.mem_append_left _ hk', hu⟩
    · rcases List.mem_cons.1 hx with rfl | hx
      · exact ⟨x, by simp, .inl rfl⟩
      · exact ⟨k, by simp, .inr (ho x hx)⟩
theorem Half.done {kids par n p out T o} (h : Half kids par n p out T o) (hT : ∀ x ∈ T, x ∈ kids p) : (out ++ o).Nodup ∧ ∀ x ∈ o, SD kids p x := by
  refine ⟨h.nod, fun x hx => ?_⟩
  obtain ⟨k, hk, hu⟩ := h.sub x hx
  rcases hu with rfl | hu
  · exact .base p x (hT x hk)
  · exact .step p k x (hT k hk) hu
end Go.Proofs.Ytnlnglfjehohpaa.Q
