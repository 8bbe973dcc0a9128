/- Transactions in one another, plain: what one stands in. No condition. -/
import Derived.Test.YtnlnglfjehohpaaTT
import Derived.Test.YtnlnglfjehohpaaTN
import Derived.Test.YtnlnglfjehohpaaTI
import Derived.Test.YtnlnglfjehohpaaTE
import Derived.Test.YtnlnglfjehohpaaTP
import Derived.Test.YtnlnglfjehohpaaEV
namespace Go.Proofs.Ytnlnglfjehohpaa.Q
open Go.RowKit Go.Proofs.YtnlnglfjehohpaaW Go.Proofs.YtnlnglfjehohpaaW.PrintWords
set_option linter.unusedVariables false
set_option linter.unusedSimpArgs false

theorem isB_iff (l : List S35) (id : Int) : isB l id = true ↔ 0 ≤ id ∧ id < (l.length : Int) := by unfold isB; simp
theorem isB_neg (l : List S35) (id : Int) (h : id < 0) : isB l id = false := by unfold isB; simp; omega
theorem chn_out (l : List S35) (n : Nat) (id : Int) (h : isB l id = false) : chn l n id = [] := by
  cases n with
  | zero => rfl
  | succ n => rw [chn_succ, if_neg (by rw [h]; decide)]
/-- Each stands in one ahead of it, or in none. -/
def Up (l : List S35) : Prop := ∀ i (hi : i < l.length), -1 ≤ (l[i]).f0 ∧ (l[i]).f0 < i
theorem Up.at {l : List S35} (h : Up l) {id : Int} (hi : isB l id = true) : -1 ≤ (rd_T35 l id).f0 ∧ (rd_T35 l id).f0 < id := by
  obtain ⟨h1, h2⟩ := (isB_iff l id).1 hi
  have := h id.toNat (by omega)
  rw [← rd_tx l id.toNat (by omega), show ((id.toNat : Nat) : Int) = id by omega] at this
  exact this
theorem chn_fuel {l : List S35} (h : Up l) : ∀ (n m : Nat) (id : Int), id < n → id < m → chn l n id = chn l m id
  | 0, m, id, h1, h2 => by rw [chn_out l m id (isB_neg l id (by omega))]; rfl
  | n + 1, 0, id, h1, h2 => by rw [chn_out l _ id (isB_neg l id (by omega))]; rfl
  | n + 1, m + 1, id, h1, h2 => by
    rw [chn_succ, chn_succ]
    by_cases hb : isB l id = true
    · rw [if_pos hb, if_pos hb]
      have := h.at hb
      rw [chn_fuel h n m _ (by omega) (by omega)]
    · rw [if_neg hb, if_neg hb]
theorem chain_out (l : List S35) (id : Int) (h : isB l id = false) : chain l id = [] := chn_out l _ id h
theorem chain_eq {l : List S35} (h : Up l) (id : Int) (hi : isB l id = true) : chain l id = id :: chain l (rd_T35 l id).f0 := by
  obtain ⟨h1, h2⟩ := (isB_iff l id).1 hi
  have h3 := h.at hi
  unfold chain
  obtain ⟨n, hn⟩ : ∃ n, l.length = n + 1 := ⟨l.length - 1, by omega⟩
  rw [hn, chn_succ, if_pos hi, chn_fuel h n (n + 1) _ (by omega) (by omega)]
/-- By what one stands in. -/
theorem chain_ind {l : List S35} (h : Up l) (P : Int → Prop) (h0 : ∀ id, isB l id = false → P id) (hs : ∀ id, isB l id = true → P (rd_T35 l id).f0 → P id) : ∀ id, P id := by
  have : ∀ n : Nat, ∀ id : Int, id < n → P id := by
    intro n
    induction n with
    | zero => intro id hid; exact h0 id (isB_neg l id (by omega))
    | succ n ih =>
      intro id hid
      cases hb : isB l id with
      | false => exact h0 id hb
      | true => exact hs id hb (ih _ (by have := (h.at hb).2; omega))
  intro id
  exact this (id.toNat + 1) id (by omega)
theorem chain_le {l : List S35} (h : Up l) : ∀ id, ∀ x ∈ chain l id, x ≤ id := by
  refine chain_ind h _ (fun id hb => by rw [chain_out l id hb]; simp) (fun id hb ih => ?_)
  rw [chain_eq h id hb]
  intro x hx
  rcases List.mem_cons.1 hx with rfl | hx
  · exact Int.le_refl _
  · have := ih x hx; have := (h.at hb).2; omega
theorem chain_down {l : List S35} (h : Up l) : ∀ id, (chain l id).Pairwise (fun a b => b < a) := by
  refine chain_ind h _ (fun id hb => by rw [chain_out l id hb]; exact List.Pairwise.nil) (fun id hb ih => ?_)
  rw [chain_eq h id hb, List.pairwise_cons]
  exact ⟨fun x hx => by have := chain_le h _ x hx; have := (h.at hb).2; omega, ih⟩
theorem chain_nodup {l : List S35} (h : Up l) (id : Int) : (chain l id).Nodup := by
  rw [List.nodup_iff_pairwise_ne]
  exact (chain_down h id).imp (fun h => by omega)
theorem chain_self {l : List S35} (h : Up l) {id : Int} (hb : isB l id = true) : id ∈ chain l id := by rw [chain_eq h id hb]; exact List.mem_cons_self
theorem chain_trans {l : List S35} (h : Up l) : ∀ id, ∀ x ∈ chain l id, ∀ y ∈ chain l x, y ∈ chain l id := by
  refine chain_ind h _ (fun id hb => by rw [chain_out l id hb]; simp) (fun id hb ih => ?_)
  intro x hx y hy
  rw [chain_eq h id hb] at hx ⊢
  rcases List.mem_cons.1 hx with rfl | hx
  · rw [chain_eq h _ hb] at hy; exact hy
  · exact List.mem_cons_of_mem _ (ih x hx y hy)
theorem chain_isB (l : List S35) (id x : Int) (h : x ∈ chain l id) : isB l x = true := (isB_iff l x).2 (chain_in l id x h)
theorem chain_src {l : List S35} (h : Up l) (id x : Int) (hx : x ∈ chain l id) : isB l id = true := by
  cases hb : isB l id with
  | true => rfl
  | false => rw [chain_out l id hb] at hx; cases hx
/-- What one stands in depends on who stands in whom alone. -/
theorem chn_congr {l m : List S35} (hl : l.length = m.length) (hf : ∀ i (hi : i < l.length), (l[i]).f0 = (m[i]'(by omega)).f0) : ∀ (n : Nat) (id : Int), chn l n id = chn m n id
  | 0, _ => rfl
  | n + 1, id => by
    rw [chn_succ, chn_succ]
    have hb : isB l id = isB m id := by unfold isB; rw [hl]
    rw [hb]
    by_cases h : isB m id = true
    · rw [if_pos h, if_pos h]
      obtain ⟨h1, h2⟩ := (isB_iff m id).1 h
      have := hf id.toNat (by omega)
      rw [← rd_tx l id.toNat (by omega), ← rd_tx m id.toNat (by omega), show ((id.toNat : Nat) : Int) = id by omega] at this
      rw [this, chn_congr hl hf n]
    · rw [if_neg h, if_neg h]
theorem chain_congr {l m : List S35} (hl : l.length = m.length) (hf : ∀ i (hi : i < l.length), (l[i]).f0 = (m[i]'(by omega)).f0) (id : Int) : chain l id = chain m id := by
  unfold chain; rw [hl]; exact chn_congr hl hf _ id
theorem Up.congr {l m : List S35} (h : Up l) (hl : l.length = m.length) (hf : ∀ i (hi : i < l.length), (l[i]).f0 = (m[i]'(by omega)).f0) : Up m := by
  intro i hi
  rw [← hf i (by omega)]
  exact h i (by omega)
theorem Up.snoc {l : List S35} (h : Up l) (x : S35) (hx : -1 ≤ x.f0 ∧ x.f0 < l.length) : Up (l ++ [x]) := by
  intro i hi
  by_cases hlt : i < l.length
  · rw [List.getElem_append_left hlt]; exact h i hlt
  · have : i = l.length := by simp at hi; omega
    subst this
    simpa using hx
theorem rd_snoc (l : List S35) (x : S35) (id : Int) (hb : isB l id = true) : rd_T35 (l ++ [x]) id = rd_T35 l id := by
  obtain ⟨h1, h2⟩ := (isB_iff l id).1 hb
  obtain ⟨k, rfl⟩ : ∃ k : Nat, id = k := ⟨id.toNat, by omega⟩
  rw [rd_tx l k (by omega), rd_tx _ k (by simp; omega), List.getElem_append_left (by omega)]
theorem chain_snoc {l : List S35} (h : Up l) (x : S35) (hx : -1 ≤ x.f0 ∧ x.f0 < l.length) : ∀ id, isB l id = true → chain (l ++ [x]) id = chain l id := by
  have hu := h.snoc x hx
  refine chain_ind h _ (fun id hb hb' => by rw [hb] at hb'; cases hb') (fun id hb ih _ => ?_)
  have hb2 : isB (l ++ [x]) id = true := by rw [isB_iff] at hb ⊢; simp; omega
  rw [chain_eq hu id hb2, chain_eq h id hb, rd_snoc l x id hb]
  congr 1
  cases hp : isB l (rd_T35 l id).f0 with
  | true => exact ih hp
  | false =>
    have := h.at hb
    have h0 : (rd_T35 l id).f0 < 0 := by
      have h3 := (isB_iff l id).1 hb
      by_cases hh : 0 ≤ (rd_T35 l id).f0
      · exact absurd ((isB_iff l _).2 ⟨hh, by omega⟩) (by rw [hp]; decide)
      · omega
    rw [chain_out _ _ (isB_neg _ _ h0), chain_out _ _ (isB_neg _ _ h0)]
theorem chain_new {l : List S35} (h : Up l) (x : S35) (hx : -1 ≤ x.f0 ∧ x.f0 < l.length) : chain (l ++ [x]) (l.length : Int) = (l.length : Int) :: chain l x.f0 := by
  have hu := h.snoc x hx
  have hb2 : isB (l ++ [x]) (l.length : Int) = true := by rw [isB_iff]; simp; omega
  have hr : rd_T35 (l ++ [x]) (l.length : Int) = x := by rw [rd_tx _ l.length (by simp)]; simp
  rw [chain_eq hu _ hb2, hr]
  congr 1
  cases hp : isB l x.f0 with
  | true => exact chain_snoc h x hx _ hp
  | false =>
    have h0 : x.f0 < 0 := by
      by_cases hh : 0 ≤ x.f0
      · exact absurd ((isB_iff l _).2 ⟨hh, by omega⟩) (by rw [hp]; decide)
      · omega
    rw [chain_out _ _ (isB_neg _ _ h0), chain_out _ _ (isB_neg _ _ h0)]

/-! ### the top one -/
end Go.Proofs.Ytnlnglfjehohpaa.Q
