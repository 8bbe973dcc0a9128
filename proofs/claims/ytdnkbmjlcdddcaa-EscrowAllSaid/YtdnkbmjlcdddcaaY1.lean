/- One counter and its pends: what Sane and Add answer, told by two sums. No condition beyond what each theorem names. -/
import Derived.Test.YtdnkbmjlcdddcaaY0
namespace Go.Proofs.Ytdnkbmjlcdddcaa.Q
open Go.RowKit Go.Proofs.YtdnkbmjlcdddcaaW Go.Proofs.YtdnkbmjlcdddcaaW.PrintWords
set_option linter.unusedVariables false
set_option linter.unusedSimpArgs false
def loS : List S83 → Int | [] => 0 | p :: P => p.f3 + loS P
def hiS : List S83 → Int | [] => 0 | p :: P => p.f2 + hiS P
def sound1 (p : S83) : Prop := p.f0 = 0 ∧ 0 ≤ p.f1 ∧ p.f1 < 64 ∧ 0 ≤ p.f2 ∧ p.f3 ≤ 0 ∧ p.f2 ≠ p.f3
structure Ok (P : List S83) : Prop where
  srt : Srt P
  each : ∀ p ∈ P, sound1 p
theorem loS_append : ∀ P Q : List S83, loS (P ++ Q) = loS P + loS Q
  | [], Q => by simp [loS]
  | p :: P, Q => by rw [List.cons_append, loS, loS, loS_append P Q]; omega
theorem hiS_append : ∀ P Q : List S83, hiS (P ++ Q) = hiS P + hiS Q
  | [], Q => by simp [hiS]
  | p :: P, Q => by rw [List.cons_append, hiS, hiS, hiS_append P Q]; omega
theorem loS_neg : ∀ P : List S83, (∀ p ∈ P, sound1 p) → loS P ≤ 0 ∧ 0 ≤ hiS P
  | [], _ => ⟨Int.le_refl _, Int.le_refl _⟩
  | p :: P, h => by
    have h1 := loS_neg P (fun q hq => h q (List.mem_cons_of_mem _ hq))
    have h2 := h p (List.mem_cons_self ..)
    unfold sound1 at h2
    rw [loS, hiS]; omega
theorem loL_cons (x : Int) (l : List Int) : loL (x :: l) = mn x 0 + loL l := by unfold loL sumBy; rw [List.map_cons, List.sum_cons]
theorem hiL_cons (x : Int) (l : List Int) : hiL (x :: l) = mx x 0 + hiL l := by unfold hiL sumBy; rw [List.map_cons, List.sum_cons]
theorem lo_pair (b : Int) : ∀ P : List S83, (∀ p ∈ P, sound1 p) → loL (pairL P ++ [b]) = loS P + min b 0 ∧ hiL (pairL P ++ [b]) = hiS P + max b 0
  | [], _ => by
    show loL [b] = _ ∧ hiL [b] = _
    rw [loL_cons, hiL_cons]
    show mn b 0 + 0 = 0 + _ ∧ mx b 0 + 0 = 0 + _
    unfold mn mx
    constructor <;> split <;> omega
  | p :: P, h => by
    obtain ⟨h1, h2⟩ := lo_pair b P (fun q hq => h q (List.mem_cons_of_mem _ hq))
    have h3 := h p (List.mem_cons_self ..)
    unfold sound1 at h3
    have e : pairL (p :: P) ++ [b] = p.f2 :: p.f3 :: (pairL P ++ [b]) := by unfold pairL; rw [List.flatMap_cons]; rfl
    rw [e, loL_cons, loL_cons, hiL_cons, hiL_cons, h1, h2, loS, hiS]
    unfold mn mx
    constructor
    · rw [show (if 0 < p.f2 then (0 : Int) else p.f2) = 0 by split <;> omega, show (if 0 < p.f3 then (0 : Int) else p.f3) = p.f3 by split <;> omega]; omega
    · rw [show (if p.f2 < 0 then (0 : Int) else p.f2) = p.f2 by split <;> omega, show (if p.f3 < 0 then (0 : Int) else p.f3) = 0 by split <;> omega]; omega
theorem ofC_all {P : List S83} (h : ∀ p ∈ P, sound1 p) : ofC P 0 = P := by
  unfold ofC
  rw [List.filter_eq_self]
  intro p hp
  rw [(h p hp).1]; rfl
theorem inR_small {x : Int} (h1 : -1000000000 ≤ x) (h2 : x ≤ 1000000000) : inR x = true := (inR_iff x).2 (by omega)
theorem fits_one {A B v : Int} {P : List S83} (h : ∀ p ∈ P, sound1 p) (hl : P.length ≤ 100) (hA : -100000 ≤ A) (hB : B ≤ 100000) (hv : A ≤ v ∧ v ≤ B)
    (hlo : -1000000 ≤ loS P) (hhi : hiS P ≤ 1000000) {b : Int} (hb : -1000 ≤ b ∧ b ≤ 1000) :
    fitsB [⟨A, B, v⟩] P 0 b = decide (A ≤ v + loS P + min b 0 ∧ v + hiS P + max b 0 ≤ B) := by
  obtain ⟨e1, e2⟩ := lo_pair b P h
  obtain ⟨n1, n2⟩ := loS_neg P h
  have hlen := pairL_len P
  unfold fitsB
  rw [show ((0 : Nat) : Int) = 0 from rfl, ofC_all h]
  have er : rd_T28 [(⟨A, B, v⟩ : S28)] 0 = ⟨A, B, v⟩ := rfl
  rw [er]
  unfold spanB reachOK holdsB
  rw [e1, e2]
  simp only [inR_small (show -1000000000 ≤ 0 + (loS P + min b 0) by omega) (by omega), inR_small (show -1000000000 ≤ 0 + (hiS P + max b 0) by omega) (by omega), inR_small (show -1000000000 ≤ v + (loS P + min b 0) by omega) (by omega), inR_small (show -1000000000 ≤ v + (hiS P + max b 0) by omega) (by omega)]
  rw [decide_eq_true (show (pairL P ++ [b]).length ≤ 4096 by rw [List.length_append, hlen]; simp; omega)]
  simp only [Bool.and_self, Bool.true_and]
  rw [Bool.eq_iff_iff]
  simp only [Bool.and_eq_true, decide_eq_true_eq]
  constructor
  · intro h; omega
  · intro h; omega
theorem sane_one {A B v : Int} {P : List S83} (h : Ok P) (hl : P.length ≤ 100) (hA : -100000 ≤ A) (hB : B ≤ 100000) (hlo : A ≤ v + loS P) (hhi : v + hiS P ≤ B) :
    saneB [⟨A, B, v⟩] P = true := by
  obtain ⟨n1, n2⟩ := loS_neg P h.each
  unfold saneB
  have hf : fitsB [⟨A, B, v⟩] P 0 0 = true := by
    rw [fits_one h.each hl hA hB (by omega) (by omega) (by omega) (by omega)]
    exact decide_eq_true (by omega)
  rw [Bool.and_eq_true]
  refine ⟨List.all_eq_true.2 (fun i hi => ?_), by
    show ((List.range' 0 1).all (fun c => fitsB [⟨A, B, v⟩] P c 0) && _) = true
    simp [List.range', hf]⟩
  rw [List.mem_range'_1] at hi
  have hi' : i < P.length := by omega
  unfold okAt
  have e : rd_T83 P (i : Int) = P[i] := rd_at83 P i hi'
  rw [e, Bool.and_eq_true]
  obtain ⟨s0, s1, s2, s3, s4, s5⟩ := h.each _ (List.getElem_mem hi')
  constructor
  · unfold soundB
    simp [s0, s1, s2, s3, s4, s5]
  · rw [Bool.or_eq_true]
    by_cases h0 : i = 0
    · left; simp [h0]
    · right
      have e2 : rd_T83 P ((i - 1 : Nat) : Int) = P[i - 1] := rd_at83 P (i - 1) (by omega)
      rw [e2]
      exact decide_eq_true ((List.pairwise_iff_getElem.1 h.srt) (i - 1) i (by omega) hi' (by omega))
def ent (i b : Int) : List S83 := if b = 0 then [] else [⟨0, i, max b 0, min b 0⟩]
theorem ent_sums (i b : Int) : loS (ent i b) = min b 0 ∧ hiS (ent i b) = max b 0 := by
  unfold ent
  split
  · next h => subst h; exact ⟨rfl, rfl⟩
  · simp [loS, hiS]
theorem ent_ok {P : List S83} (h : Ok P) {i b : Int} (h0 : 0 ≤ i) (h1 : i < 64) (hlt : ∀ p ∈ P, p.f1 < i) : Ok (P ++ ent i b) := by
  unfold ent
  split
  · rw [List.append_nil]; exact h
  · next hb =>
    refine ⟨List.pairwise_append.2 ⟨h.srt, List.pairwise_singleton .., fun p hp q hq => ?_⟩, fun p hp => ?_⟩
    · rw [List.mem_singleton] at hq
      subst hq
      exact (cmpP_lt _ _).2 (.inr ⟨(h.each p hp).1, hlt p hp⟩)
    · rcases List.mem_append.1 hp with hp | hp
      · exact h.each p hp
      · rw [List.mem_singleton] at hp
        subst hp
        exact ⟨rfl, h0, h1, by show 0 ≤ max b 0; omega, by show min b 0 ≤ 0; omega, by show max b 0 ≠ min b 0; omega⟩
theorem take_end {P : List S83} (h : Ok P) {i b : Int} (hlt : ∀ p ∈ P, p.f1 < i) : takeP P ⟨0, i, max b 0, min b 0⟩ = P ++ ent i b := by
  have hp : posP P ⟨0, i, max b 0, min b 0⟩ = P.length := by
    refine posP_eq _ _ _ (Nat.le_refl _) (fun m hm => (cmpP_lt _ _).2 (.inr ⟨(h.each _ (List.getElem_mem hm)).1, hlt _ (List.getElem_mem hm)⟩)) (fun hh => absurd hh (Nat.lt_irrefl _))
  unfold takeP ent
  by_cases hb : b = 0
  · subst hb; rw [if_pos rfl, if_pos (by rfl), List.append_nil]
  · rw [if_neg hb, if_neg (by show ¬ max b 0 = min b 0; omega)]
    have hh : ¬ hasP P ⟨0, i, max b 0, min b 0⟩ = true := by
      unfold hasP
      rw [hp, List.getElem?_eq_none (Nat.le_refl _)]
      exact fun h => Bool.noConfusion h
    rw [if_neg hh, hp, List.take_length, List.drop_length]
theorem add_one {A B v : Int} {P : List S83} (h : Ok P) (hl : P.length ≤ 100) (hA : -100000 ≤ A) (hB : B ≤ 100000) (hlo : A ≤ v + loS P) (hhi : v + hiS P ≤ B)
    {X : List S74} {i b : Int} (hi : 0 ≤ i) (hi1 : i < (X.length : Int)) (hi2 : i < 64) (hX : (rd_T74 X i).f1 = 1) (hb : -1000 ≤ b ∧ b ≤ 1000) (hlt : ∀ p ∈ P, p.f1 < i) :
    addT [⟨A, B, v⟩] P X i 0 b = if A ≤ v + loS P + min b 0 ∧ v + hiS P + max b 0 ≤ B then ([⟨A, B, v⟩], P ++ ent i b, 0) else ([], [], 8) := by
  obtain ⟨n1, n2⟩ := loS_neg P h.each
  have hm : mayE [⟨A, B, v⟩] P X i 0 = 0 := by
    unfold mayE
    rw [if_pos ⟨sane_one h hl hA hB hlo hhi, ⟨Int.le_refl _, Int.zero_lt_one⟩, hi, hi1, hi2⟩, if_pos hX]
  unfold addT
  rw [if_pos hm, show (0 : Int).toNat = 0 from rfl, fits_one h.each hl hA hB (by omega) (by omega) (by omega) hb]
  by_cases hq : A ≤ v + loS P + min b 0 ∧ v + hiS P + max b 0 ≤ B
  · rw [if_pos (decide_eq_true hq), if_pos hq, take_end h hlt]
  · rw [if_neg (by rw [decide_eq_false hq]; decide), if_neg hq]
theorem ok_inP {P : List S83} (h : Ok P) (hlo : -1000000 ≤ loS P) (hhi : hiS P ≤ 1000000) : inP P := by
  have key : ∀ (Q : List S83), (∀ p ∈ Q, sound1 p) → ∀ p ∈ Q, loS Q ≤ p.f3 ∧ p.f2 ≤ hiS Q := by
    intro Q
    induction Q with
    | nil => intro _ p hp; cases hp
    | cons q Q ih =>
      intro hh p hp
      have hQ := fun q hq => hh q (List.mem_cons_of_mem _ hq)
      obtain ⟨n1, n2⟩ := loS_neg Q hQ
      obtain ⟨s0, s1, s2, s3, s4, s5⟩ := hh q (List.mem_cons_self ..)
      rw [loS, hiS]
      rcases List.mem_cons.1 hp with rfl | hp
      · omega
      · have := ih hQ p hp; omega
  intro p hp
  have := key P h.each p hp
  obtain ⟨s0, s1, s2, s3, s4, s5⟩ := h.each p hp
  exact ⟨inR_small (by omega) (by omega), inR_small (by omega) (by omega)⟩
theorem ok_nil : Ok [] := ⟨List.Pairwise.nil, fun p hp => by cases hp⟩
end Go.Proofs.Ytdnkbmjlcdddcaa.Q
