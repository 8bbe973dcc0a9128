/- Transactions in one another, plain: begin, commit, abort, and what stays true. No condition. -/
import Derived.Test.YtnlnglfjehohpaaTZ
namespace Go.Proofs.Ytnlnglfjehohpaa.Q
open Go.RowKit Go.Proofs.YtnlnglfjehohpaaW Go.Proofs.YtnlnglfjehohpaaW.PrintWords
set_option linter.unusedVariables false
set_option linter.unusedSimpArgs false

theorem isB_nat {l : List S35} {id : Int} (h : isB l id = true) : ∃ k : Nat, id = k ∧ k < l.length := by
  obtain ⟨h1, h2⟩ := (isB_iff l id).1 h
  exact ⟨id.toNat, by omega, by omega⟩
theorem isB_of (l : List S35) (k : Nat) (h : k < l.length) : isB l (k : Int) = true := (isB_iff l k).2 ⟨by omega, by omega⟩
theorem isB_len {l m : List S35} (h : l.length = m.length) (id : Int) : isB l id = isB m id := by unfold isB; rw [h]
theorem chain_congr' {l m : List S35} (hl : l.length = m.length) (hf : ∀ id, isB l id = true → (rd_T35 l id).f0 = (rd_T35 m id).f0) (id : Int) : chain l id = chain m id :=
  chain_congr hl (fun i hi => by rw [← rd_tx l i hi, ← rd_tx m i (by omega)]; exact hf _ (isB_of l i hi)) id
theorem Up.congr' {l m : List S35} (h : Up l) (hl : l.length = m.length) (hf : ∀ id, isB l id = true → (rd_T35 l id).f0 = (rd_T35 m id).f0) : Up m :=
  h.congr hl (fun i hi => by rw [← rd_tx l i hi, ← rd_tx m i (by omega)]; exact hf _ (isB_of l i hi))
theorem rd_new (l : List S35) (x : S35) : rd_T35 (l ++ [x]) (l.length : Int) = x := by rw [rd_tx _ l.length (by simp)]; simp
/-- One that is in the longer one. -/
theorem isB_snoc (l : List S35) (x : S35) (id : Int) (h : isB (l ++ [x]) id = true) : isB l id = true ∨ id = l.length := by
  rw [isB_iff] at h ⊢; simp at h; omega
/-! ### some are ended -/
def endL (l : List S35) (ks : List Int) (st ck : Int) : List S35 := ks.foldl (endStep st ck) l
theorem endL_len (l : List S35) (ks : List Int) (st ck : Int) : (endL l ks st ck).length = l.length := endFold_len st ck ks l
theorem rd_endStep (st ck : Int) (m : List S35) (x id : Int) (hx : isB m x = true) (hi : isB m id = true) : rd_T35 (endStep st ck m x) id = if id = x then ⟨(rd_T35 m id).f0, st, (rd_T35 m id).f2, ck⟩ else rd_T35 m id := by
  obtain ⟨k, rfl, hk⟩ := isB_nat hx
  obtain ⟨j, rfl, hj⟩ := isB_nat hi
  rw [rd_tx _ j (by rw [endStep_len]; exact hj)]
  unfold endStep
  by_cases e : (j : Int) = k
  · obtain rfl : j = k := by omega
    rw [if_pos rfl]
    simp
  · rw [if_neg e, rd_tx m j hj]
    have : k ≠ j := fun h => e (by rw [h])
    simp [List.getElem_set, this]
theorem rd_endL (st ck : Int) : ∀ (ks : List Int) (m : List S35), (∀ x ∈ ks, isB m x = true) → ∀ id, isB m id = true → rd_T35 (endL m ks st ck) id = if id ∈ ks then ⟨(rd_T35 m id).f0, st, (rd_T35 m id).f2, ck⟩ else rd_T35 m id := by
  intro ks
  induction ks with
  | nil => intro m _ id _; rw [if_neg (by simp)]; rfl
  | cons k ks ih =>
    intro m hks id hid
    have hk := hks k List.mem_cons_self
    have e : endL m (k :: ks) st ck = endL (endStep st ck m k) ks st ck := rfl
    rw [e, ih _ (fun x hx => by rw [isB_len (endStep_len st ck m k)]; exact hks x (List.mem_cons_of_mem _ hx)) id (by rw [isB_len (endStep_len st ck m k)]; exact hid), rd_endStep st ck m k id hk hid]
    by_cases e1 : id = k
    · subst e1
      by_cases e2 : id ∈ ks
      · simp [e2]
      · simp [e2]
    · by_cases e2 : id ∈ ks
      · simp [e1, e2]
      · simp [e1, e2]
theorem mem_insideL (p : S35 → Bool) (l : List S35) (id x : Int) : x ∈ insideL p l id l.length ↔ isB l x = true ∧ p (rd_T35 l x) = true ∧ id ∈ chain l x := by
  unfold insideL
  rw [List.mem_map]
  constructor
  · rintro ⟨k, hk, rfl⟩
    rw [List.mem_filter, List.mem_range] at hk
    simp only [Bool.and_eq_true, decide_eq_true_eq] at hk
    exact ⟨isB_of l k hk.1, hk.2.1, hk.2.2⟩
  · rintro ⟨h1, h2, h3⟩
    obtain ⟨k, rfl, hk⟩ := isB_nat h1
    refine ⟨k, ?_, rfl⟩
    rw [List.mem_filter, List.mem_range]
    simp only [Bool.and_eq_true, decide_eq_true_eq]
    exact ⟨hk, h2, h3⟩

/-! ### the three that change a tree -/
def beginT (l : List S35) (c id : Int) : List S35 × Int × Int × Int :=
  if id ≠ -1 ∧ isB l id = false then ([], 0, 0, 6)
  else if id ≠ -1 ∧ (rd_T35 l id).f1 ≠ 1 then ([], 0, 0, 7)
  else if l.length ≥ 64 then ([], 0, 0, 13)
  else if id ≠ -1 ∧ (chain l id).length ≥ 8 then ([], 0, 0, 13)
  else (l ++ [⟨id, 1, c + 1, 0⟩], c + 1, l.length, 0)
def commitT (l : List S35) (c id : Int) : List S35 × Int × Int :=
  if isB l id = false then ([], 0, 6)
  else if insideL isLive l id l.length ≠ [id] then ([], 0, 7)
  else (endL l [id] 2 (c + 1), c + 1, 0)
def abortT (l : List S35) (c id : Int) : List S35 × Int × List Int × Int :=
  if isB l id = false then ([], 0, [], 6)
  else if (rd_T35 l id).f1 ≠ 1 then ([], 0, [], 7)
  else (endL l (insideL notUndone l id l.length) 3 (c + 1), c + 1, insideL notUndone l id l.length, 0)

structure Tr (l : List S35) (c : Int) : Prop where
  up : Up l
  len : l.length ≤ 64
  clk : 0 ≤ c
  beg : ∀ id, isB l id = true → 1 ≤ (rd_T35 l id).f2 ∧ (rd_T35 l id).f2 ≤ c
  asc : ∀ i j, isB l i = true → isB l j = true → i < j → (rd_T35 l i).f2 < (rd_T35 l j).f2
  st : ∀ id, isB l id = true → ((rd_T35 l id).f1 = 1 ∧ (rd_T35 l id).f3 = 0) ∨ (((rd_T35 l id).f1 = 2 ∨ (rd_T35 l id).f1 = 3) ∧ (rd_T35 l id).f2 < (rd_T35 l id).f3 ∧ (rd_T35 l id).f3 ≤ c)
  nest : ∀ id, ∀ x ∈ chain l id, badS (rd_T35 l id).f1 (rd_T35 l x).f1 = false
  deep : ∀ id, (chain l id).length ≤ 8
  apart : ∀ i j, isB l i = true → isB l j = true → i ≠ j → (rd_T35 l i).f1 ≠ 1 → (rd_T35 l j).f1 ≠ 1 → (rd_T35 l i).f3 = (rd_T35 l j).f3 → (rd_T35 l i).f1 = 3 ∧ (rd_T35 l j).f1 = 3

theorem badS_iff (s o : Int) : badS s o = false ↔ (s = 1 → o = 1) ∧ (s = 2 → o ≠ 3) := by
  unfold badS
  rw [Bool.or_eq_false_iff, Bool.and_eq_false_iff, Bool.and_eq_false_iff]
  simp only [beq_eq_false_iff_ne, bne_eq_false_iff_eq, ne_eq]
  constructor
  · rintro ⟨h1, h2⟩
    exact ⟨fun e => h1.resolve_left (fun h => h e), fun e => h2.resolve_left (fun h => h e)⟩
  · rintro ⟨h1, h2⟩
    refine ⟨?_, ?_⟩
    · by_cases e : s = 1
      · exact .inr (h1 e)
      · exact .inl e
    · by_cases e : s = 2
      · exact .inr (h2 e)
      · exact .inl e
theorem Tr.nil : Tr [] 0 where
  up := fun i hi => absurd hi (by simp)
  len := by simp
  clk := by omega
  beg := fun id h => absurd h (by unfold isB; simp)
  asc := fun i j h => absurd h (by unfold isB; simp)
  st := fun id h => absurd h (by unfold isB; simp)
  nest := fun id x h => by (unfold chain at h; simp [chn] at h)
  deep := fun id => by simp [chain, chn]
  apart := fun i j h => absurd h (by unfold isB; simp)

theorem Tr.begin {l : List S35} {c : Int} (h : Tr l c) {p : Int} (hp : p = -1 ∨ (isB l p = true ∧ (rd_T35 l p).f1 = 1 ∧ (chain l p).length < 8)) (hl : l.length < 64) : Tr (l ++ [⟨p, 1, c + 1, 0⟩]) (c + 1) := by
  have hpu : -1 ≤ (⟨p, 1, c + 1, 0⟩ : S35).f0 ∧ (⟨p, 1, c + 1, 0⟩ : S35).f0 < l.length := by
    rcases hp with rfl | ⟨hb, _⟩
    · exact ⟨by simp, by simp; omega⟩
    · obtain ⟨h1, h2⟩ := (isB_iff l p).1 hb; exact ⟨by simp; omega, by simp; omega⟩
  have hrd := rd_snoc l ⟨p, 1, c + 1, 0⟩
  have hnw := rd_new l ⟨p, 1, c + 1, 0⟩
  have hch := chain_snoc h.up ⟨p, 1, c + 1, 0⟩ hpu
  have hcn := chain_new h.up ⟨p, 1, c + 1, 0⟩ hpu
  have hcp : ∀ x ∈ chain l p, (rd_T35 l x).f1 = 1 := by
    intro x hx
    rcases hp with rfl | ⟨hb, h1, _⟩
    · rw [chain_out l _ (isB_neg l _ (by omega))] at hx; cases hx
    · exact ((badS_iff _ _).1 (h.nest p x hx)).1 h1
  refine ⟨h.up.snoc _ hpu, by simp; omega, by have := h.clk; omega, ?_, ?_, ?_, ?_, ?_, ?_⟩
  · intro id hid
    rcases isB_snoc l _ id hid with hb | rfl
    · rw [hrd id hb]; have := h.beg id hb; omega
    · rw [hnw]; have := h.clk; simp; omega
  · intro i j hi hj hij
    rcases isB_snoc l _ j hj with hb | rfl
    · have hi' : isB l i = true := by rw [isB_iff] at hi hb ⊢; omega
      rw [hrd i hi', hrd j hb]; exact h.asc i j hi' hb hij
    · have hi' : isB l i = true := by rw [isB_iff] at hi ⊢; omega
      rw [hrd i hi', hnw]; have := h.beg i hi'; simp; omega
  · intro id hid
    rcases isB_snoc l _ id hid with hb | rfl
    · rw [hrd id hb]; have := h.st id hb; omega
    · rw [hnw]; simp
  · intro id x hx
    rcases isB_snoc l _ id (chain_src (h.up.snoc _ hpu) id x hx) with hb | rfl
    · rw [hch id hb] at hx
      rw [hrd id hb, hrd x (chain_isB l id x hx)]
      exact h.nest id x hx
    · rw [hcn] at hx
      rw [hnw, badS_iff]
      refine ⟨fun _ => ?_, fun e => absurd e (by simp)⟩
      rcases List.mem_cons.1 hx with rfl | hx
      · rw [hnw]
      · have hx' : x ∈ chain l p := hx
        rw [hrd x (chain_isB l p x hx')]
        exact hcp x hx'
  · intro id
    cases hb0 : isB (l ++ [(⟨p, 1, c + 1, 0⟩ : S35)]) id with
    | false => rw [chain_out _ _ hb0]; simp
    | true =>
      rcases isB_snoc l _ id hb0 with hb | rfl
      · rw [hch id hb]; exact h.deep id
      · rw [hcn]
        have : (chain l p).length < 8 := by
          rcases hp with rfl | ⟨_, _, h3⟩
          · rw [chain_out l _ (isB_neg l _ (by omega))]; simp
          · exact h3
        simp only [List.length_cons]
        exact this
  · intro i j hi hj hij h1 h2 h3
    have hi' : isB l i = true := by
      rcases isB_snoc l _ i hi with hb | rfl
      · exact hb
      · rw [hnw] at h1; exact absurd rfl h1
    have hj' : isB l j = true := by
      rcases isB_snoc l _ j hj with hb | rfl
      · exact hb
      · rw [hnw] at h2; exact absurd rfl h2
    rw [hrd i hi'] at h1 h3 ⊢
    rw [hrd j hj'] at h2 h3 ⊢
    exact h.apart i j hi' hj' hij h1 h2 h3

/-- Some are ended: those in ks, to one state, where what is told still fits. -/
theorem Tr.endAll {l : List S35} {c : Int} (h : Tr l c) {ks : List Int} (hks : ∀ x ∈ ks, isB l x = true) {st : Int} (hst : st = 2 ∨ st = 3)
    (hn : ∀ id, ∀ x ∈ chain l id, badS (if id ∈ ks then st else (rd_T35 l id).f1) (if x ∈ ks then st else (rd_T35 l x).f1) = false)
    (hu : st = 3 ∨ ∀ x ∈ ks, ∀ y ∈ ks, x = y) : Tr (endL l ks st (c + 1)) (c + 1) := by
  have hrd := rd_endL st (c + 1) ks l hks
  have hB : ∀ id, isB (endL l ks st (c + 1)) id = isB l id := fun id => isB_len (endL_len l ks st (c + 1)) id
  have hf : ∀ id, isB l id = true → (rd_T35 l id).f0 = (rd_T35 (endL l ks st (c + 1)) id).f0 := by
    intro id hid; rw [hrd id hid]; by_cases e : id ∈ ks
    · rw [if_pos e]
    · rw [if_neg e]
  have hf2 : ∀ id, isB l id = true → (rd_T35 (endL l ks st (c + 1)) id).f2 = (rd_T35 l id).f2 := by
    intro id hid; rw [hrd id hid]; by_cases e : id ∈ ks
    · rw [if_pos e]
    · rw [if_neg e]
  have hf1 : ∀ id, isB l id = true → (rd_T35 (endL l ks st (c + 1)) id).f1 = if id ∈ ks then st else (rd_T35 l id).f1 := by
    intro id hid; rw [hrd id hid]; by_cases e : id ∈ ks
    · rw [if_pos e, if_pos e]
    · rw [if_neg e, if_neg e]
  have hf3 : ∀ id, isB l id = true → (rd_T35 (endL l ks st (c + 1)) id).f3 = if id ∈ ks then c + 1 else (rd_T35 l id).f3 := by
    intro id hid; rw [hrd id hid]; by_cases e : id ∈ ks
    · rw [if_pos e, if_pos e]
    · rw [if_neg e, if_neg e]
  have hch : ∀ id, chain (endL l ks st (c + 1)) id = chain l id := fun id => (chain_congr' (endL_len l ks st (c + 1)).symm hf id).symm
  refine ⟨h.up.congr' (endL_len l ks st (c + 1)).symm hf, by rw [endL_len]; exact h.len, by have := h.clk; omega, ?_, ?_, ?_, ?_, ?_, ?_⟩
  · intro id hid
    rw [hB] at hid
    rw [hf2 id hid]; have := h.beg id hid; omega
  · intro i j hi hj hij
    rw [hB] at hi hj
    rw [hf2 i hi, hf2 j hj]; exact h.asc i j hi hj hij
  · intro id hid
    rw [hB] at hid
    have h1 := h.st id hid
    have h2 := h.beg id hid
    rw [hf1 id hid, hf2 id hid, hf3 id hid]
    by_cases e : id ∈ ks
    · rw [if_pos e, if_pos e]; right; exact ⟨hst, by omega, by omega⟩
    · rw [if_neg e, if_neg e]; omega
  · intro id x hx
    rw [hch] at hx
    have hid := chain_src h.up id x hx
    have hxb := chain_isB l id x hx
    rw [hf1 id hid, hf1 x hxb]
    exact hn id x hx
  · intro id; rw [hch]; exact h.deep id
  · intro i j hi hj hij h1 h2 h3
    rw [hB] at hi hj
    rw [hf1 i hi] at h1 ⊢
    rw [hf1 j hj] at h2 ⊢
    rw [hf3 i hi, hf3 j hj] at h3
    have ti := h.st i hi
    have tj := h.st j hj
    have hap := h.apart i j hi hj hij
    by_cases ei : i ∈ ks
    · by_cases ej : j ∈ ks
      · rw [if_pos ei, if_pos ej]
        rcases hu with rfl | hu
        · exact ⟨rfl, rfl⟩
        · exact absurd (hu i ei j ej) hij
      · rw [if_pos ei, if_neg ej] at h3
        rw [if_neg ej] at h2
        omega
    · by_cases ej : j ∈ ks
      · rw [if_neg ei, if_pos ej] at h3
        rw [if_neg ei] at h1
        omega
      · rw [if_neg ei] at h1 h3 ⊢
        rw [if_neg ej] at h2 h3 ⊢
        exact hap h1 h2 h3
theorem commit_live {l : List S35} {id : Int} (hk : insideL isLive l id l.length = [id]) : isB l id = true ∧ (rd_T35 l id).f1 = 1 ∧ ∀ k, (rd_T35 l k).f1 = 1 → id ∈ chain l k → isB l k = true → k = id := by
  have h1 : id ∈ insideL isLive l id l.length := by rw [hk]; exact List.mem_singleton.2 rfl
  rw [mem_insideL] at h1
  refine ⟨h1.1, by have := h1.2.1; unfold isLive at this; simpa using this, fun k h2 h3 h4 => ?_⟩
  have : k ∈ insideL isLive l id l.length := (mem_insideL _ _ _ _).2 ⟨h4, by unfold isLive; simpa using h2, h3⟩
  rw [hk] at this
  exact List.mem_singleton.1 this
theorem Tr.commit {l : List S35} {c : Int} (h : Tr l c) {id : Int} (hk : insideL isLive l id l.length = [id]) : Tr (endL l [id] 2 (c + 1)) (c + 1) := by
  obtain ⟨hb, hl, ho⟩ := commit_live hk
  refine h.endAll (fun x hx => by rw [List.mem_singleton.1 hx]; exact hb) (.inl rfl) ?_ (.inr (fun x hx y hy => by rw [List.mem_singleton.1 hx, List.mem_singleton.1 hy]))
  intro k x hx
  have hkb := chain_src h.up k x hx
  have hn := (badS_iff _ _).1 (h.nest k x hx)
  simp only [List.mem_singleton]
  rw [badS_iff]
  by_cases e1 : k = id
  · rw [if_pos e1]
    refine ⟨fun e => absurd e (by decide), fun _ => ?_⟩
    by_cases e2 : x = id
    · rw [if_pos e2]; decide
    · rw [if_neg e2]
      rw [e1] at hn
      rw [hn.1 hl]; decide
  · rw [if_neg e1]
    by_cases e2 : x = id
    · rw [if_pos e2]
      exact ⟨fun e => absurd (ho k e (e2 ▸ hx) hkb) e1, fun _ => by decide⟩
    · rw [if_neg e2]; exact hn
theorem Tr.abort {l : List S35} {c : Int} (h : Tr l c) (id : Int) : Tr (endL l (insideL notUndone l id l.length) 3 (c + 1)) (c + 1) := by
  refine h.endAll (fun x hx => ((mem_insideL _ _ _ _).1 hx).1) (.inr rfl) ?_ (.inl rfl)
  intro k x hx
  have hkb := chain_src h.up k x hx
  rw [badS_iff]
  by_cases e1 : k ∈ insideL notUndone l id l.length
  · rw [if_pos e1]
    exact ⟨fun e => absurd e (by decide), fun e => absurd e (by decide)⟩
  · rw [if_neg e1]
    by_cases e2 : x ∈ insideL notUndone l id l.length
    · have h2 := (mem_insideL _ _ _ _).1 e2
      have h3 : (rd_T35 l k).f1 = 3 := by
        by_cases e : (rd_T35 l k).f1 = 3
        · exact e
        · exact absurd ((mem_insideL _ _ _ _).2 ⟨hkb, by unfold notUndone; simpa using e, chain_trans h.up k x hx id h2.2.2⟩) e1
      rw [h3]
      exact ⟨fun e => absurd e (by decide), fun e => absurd e (by decide)⟩
    · rw [if_neg e2]
      exact (badS_iff _ _).1 (h.nest k x hx)
end Go.Proofs.Ytnlnglfjehohpaa.Q
