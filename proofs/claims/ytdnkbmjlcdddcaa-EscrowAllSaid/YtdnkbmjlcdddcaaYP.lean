/- What sums, fits, Sane, may and Add answer. No condition beyond the rows' lengths and the numbers' ranges. -/
import Derived.Test.YtdnkbmjlcdddcaaEA
import Derived.Test.YtdnkbmjlcdddcaaQ3
namespace Go.Proofs.Ytdnkbmjlcdddcaa.Q
open Go.RowKit Go.Proofs.YtdnkbmjlcdddcaaW Go.Proofs.YtdnkbmjlcdddcaaW.PrintWords
set_option linter.unusedVariables false
set_option linter.unusedSimpArgs false
def pairL (P : List S83) : List Int := P.flatMap (fun p => [p.f2, p.f3])
theorem pairL_len (P : List S83) : (pairL P).length = P.length * 2 := by
  unfold pairL
  induction P with
  | nil => rfl
  | cons p P ih => rw [List.flatMap_cons, List.length_append, ih, List.length_cons]; simp; omega
def ofC (P : List S83) (c : Int) : List S83 := P.filter (fun x => x.f0 == c)
theorem sums_go (F : List S83) (hF : F.length < 1000000) : ∀ (d i : Nat) (acc : List Int), i + d = F.length → acc.length = 2 * i → Evals (fun k => escrow_Table_sums.l0 k acc F (F.length : Int) (i : Int)) (acc ++ pairL (F.drop i))
  | 0, i, acc, hi, ha => by
    refine Evals.succ (Evals.of fun k => ?_)
    simp only [escrow_Table_sums.l0, if_neg (show ¬ (i : Int) < (F.length : Int) by omega)]
    rw [List.drop_eq_nil_of_le (by omega)]
    simp [pairL]
  | d + 1, i, acc, hi, ha => by
    have hw : wrap64 ((i : Int) + 1) = ((i + 1 : Nat) : Int) := by unfold wrap64; omega
    have hx := rd83_get' F i (by omega)
    have ih := sums_go F hF d (i + 1) (acc ++ [(F[i]'(by omega)).f2, (F[i]'(by omega)).f3]) (by omega) (by rw [List.length_append, ha]; simp; omega)
    refine Evals.succ ?_
    simp only [escrow_Table_sums.l0, if_pos (show (i : Int) < (F.length : Int) by omega), if_pos (show 0 ≤ (i : Int) by omega), hw, hx, Option.bind_some]
    refine Evals.congr (fun k => if_pos (by simp; omega)) ?_
    have hd : F.drop i = (F[i]'(by omega)) :: F.drop (i + 1) := List.drop_eq_getElem_cons (by omega)
    have e : acc ++ pairL ((F[i]'(by omega)) :: F.drop (i + 1)) = (acc ++ [(F[i]'(by omega)).f2, (F[i]'(by omega)).f3]) ++ pairL (F.drop (i + 1)) := by
      unfold pairL; rw [List.flatMap_cons, List.append_assoc]
    rw [hd, e]
    exact ih
where
  rd83_get' (l : List S83) (k : Nat) (hk : k < l.length) : rd_T83 l (k : Int) = l[k] := rd_at83 l k hk
theorem sums_ev (C : List S28) (P : List S83) (c : Int) (hP : P.length < 1000000) : Evals (fun k => escrow_Table_sums.f k C P c) (pairL (ofC P c)) := by
  have hl : (ofC P c).length ≤ P.length := List.length_filter_le _ _
  have e : escrow_Table_pends.f C P c = some (ofC P c) := by unfold escrow_Table_pends.f; rw [if_pos (by omega)]; rfl
  unfold escrow_Table_sums.f
  refine Evals.bind (Evals.of fun _ => e) ?_
  have := sums_go (ofC P c) (by omega) (ofC P c).length 0 [] (by omega) rfl
  simpa using this
def loL (l : List Int) : Int := sumBy (fun x => mn x 0) l
def hiL (l : List Int) : Int := sumBy (fun x => mx x 0) l
def reachOK (v : Int) (l : List Int) : Bool := decide (l.length ≤ 4096) && (inR (v + loL l) && inR (v + hiL l))
theorem reach_val {v : Int} {l : List Int} (hv : inR v = true) (hl : l.all inR = true) : ∃ a b e, span_Reach.f v l = some (a, b, e) ∧ (e = 0 ↔ reachOK v l = true) ∧ (e = 0 → a = v + loL l ∧ b = v + hiL l) := by
  unfold span_Reach.f reachOK
  rw [if_pos ⟨hv, hl⟩]
  by_cases h1 : 4096 < l.length
  · rw [if_pos h1]
    exact ⟨_, _, _, rfl, by simp; omega, by intro h; exact absurd h (by decide)⟩
  rw [if_neg h1]
  by_cases h2 : inR (v + sumBy (fun x => mn x 0) l) = true ∧ inR (v + sumBy (fun x => mx x 0) l) = true
  · rw [if_pos h2]
    refine ⟨_, _, _, rfl, ?_, fun _ => ⟨rfl, rfl⟩⟩
    have a1 : inR (v + loL l) = true := h2.1
    have a2 : inR (v + hiL l) = true := h2.2
    rw [a1, a2]; simp; omega
  · rw [if_neg h2]
    refine ⟨_, _, _, rfl, ?_, by intro h; exact absurd h (by decide)⟩
    constructor
    · intro h; exact absurd h (by decide)
    · intro h
      simp only [Bool.and_eq_true] at h
      exact absurd ⟨h.2.1, h.2.2⟩ h2
def holdsB (a b v : Int) : Bool := decide (a ≤ v) && decide (v ≤ b)
theorem holds_val (a b v : Int) : span_Holds.f a b v = some (holdsB a b v) := by
  unfold span_Holds.f holdsB
  by_cases h : a ≤ v
  · rw [if_pos h, decide_eq_true h, Bool.true_and]
  · rw [if_neg h, decide_eq_false h, Bool.false_and]
def spanB (a b v : Int) (l : List Int) : Bool := reachOK v l && (holdsB a b (v + loL l) && holdsB a b (v + hiL l))
theorem spanfits_val (a b : Int) {v : Int} {l : List Int} (hv : inR v = true) (hl : l.all inR = true) : span_Fits.f a b v l = some (spanB a b v l) := by
  obtain ⟨x, y, e, h1, h2, h3⟩ := reach_val hv hl
  unfold span_Fits.f spanB
  rw [h1, Option.bind_some]
  by_cases he : e = 0
  · obtain ⟨rfl, rfl⟩ := h3 he
    simp only [if_pos he, holds_val, Option.bind_some, h2.1 he, Bool.true_and]
    cases holdsB a b (v + loL l) <;> simp
  · have : reachOK v l = false := by rw [← Bool.not_eq_true]; exact fun h => he (h2.2 h)
    simp only [if_neg he, this, Bool.false_and]
def inP (P : List S83) : Prop := ∀ p ∈ P, inR p.f2 = true ∧ inR p.f3 = true
def inC (C : List S28) : Prop := ∀ c ∈ C, inR c.f2 = true
theorem pairL_inR {P : List S83} (h : inP P) (c : Int) : (pairL (ofC P c)).all inR = true := by
  rw [List.all_eq_true]
  intro x hx
  obtain ⟨p, hp, hx⟩ := List.mem_flatMap.1 hx
  have := h p ((List.mem_filter.1 hp).1)
  simp only [List.mem_cons, List.mem_nil_iff, or_false] at hx
  rcases hx with rfl | rfl
  · exact this.1
  · exact this.2
/-- Does a counter fit, with one more? -/
def fitsB (C : List S28) (P : List S83) (c : Nat) (b : Int) : Bool :=
  reachOK 0 (pairL (ofC P c) ++ [b]) && spanB ((rd_T28 C (c : Int)).f0) ((rd_T28 C (c : Int)).f1) ((rd_T28 C (c : Int)).f2) (pairL (ofC P c) ++ [b])
theorem rd28_get (l : List S28) (k : Nat) (hk : k < l.length) : rd_T28 l (k : Int) = l[k] := by
  unfold rd_T28; simp [List.getD_eq_getElem?_getD, List.getElem?_eq_getElem hk]
theorem fits_ev {C : List S28} {P : List S83} (hC : inC C) (hP : inP P) (hl : P.length < 1000000) {c : Nat} (hc : c < C.length) {b : Int} (hb : inR b = true) : Evals (fun k => escrow_Table_fits.f k C P (c : Int) b) (fitsB C P c b) := by
  have hL : (pairL (ofC P c) ++ [b]).all inR = true := by rw [List.all_append, pairL_inR hP, Bool.true_and]; simpa using hb
  have hlen := pairL_len (ofC P c)
  have hlo : (ofC P c).length ≤ P.length := List.length_filter_le _ _
  have hv : inR ((rd_T28 C (c : Int)).f2) = true := by rw [rd28_get C c hc]; exact hC _ (List.getElem_mem hc)
  obtain ⟨x, y, e, h1, h2, h3⟩ := reach_val (v := 0) (by decide) hL
  unfold escrow_Table_fits.f
  simp only [if_pos (show 0 ≤ (c : Int) by omega), if_pos (show (c : Int) < (C.length : Int) by omega)]
  refine Evals.bind (sums_ev C P c hl) ?_
  simp only [Option.bind_some, List.length_singleton]
  refine Evals.congr (fun k => if_pos (by omega)) ?_
  refine Evals.of fun k => ?_
  rw [h1, Option.bind_some]
  unfold fitsB
  by_cases he : e = 0
  · rw [if_pos he, spanfits_val _ _ hv hL, Option.bind_some, h2.1 he, Bool.true_and]
  · have : reachOK 0 (pairL (ofC P c) ++ [b]) = false := by rw [← Bool.not_eq_true]; exact fun h => he (h2.2 h)
    rw [if_neg he, this, Bool.false_and]
/-! ### Sane -/
def soundB (C : List S28) (p : S83) : Bool := (decide (0 ≤ p.f0) && decide (p.f0 < (C.length : Int))) && (decide (0 ≤ p.f1) && (decide (p.f1 < 64) && (decide (0 ≤ p.f2) && (decide (p.f3 ≤ 0) && (p.f2 != p.f3)))))
theorem is_val (C : List S28) (P : List S83) (c : Int) : escrow_Table_is.f C P c = some (decide (0 ≤ c) && decide (c < (C.length : Int))) := by
  unfold escrow_Table_is.f
  by_cases h : c ≥ 0
  · rw [if_pos h, decide_eq_true (show 0 ≤ c from h), Bool.true_and]
  · rw [if_neg h, decide_eq_false (show ¬ 0 ≤ c from h), Bool.false_and]
theorem sound_val (C : List S28) (P : List S83) (p : S83) : escrow_Table_sound.f C P p.f0 p.f1 p.f2 p.f3 = some (soundB C p) := by
  unfold escrow_Table_sound.f soundB
  rw [is_val, Option.bind_some]
  cases h0 : (decide (0 ≤ p.f0) && decide (p.f0 < (C.length : Int))) with
  | false => simp
  | true =>
    simp only [if_true, Bool.true_and]
    by_cases h1 : p.f1 ≥ 0
    · have h1' : 0 ≤ p.f1 := h1
      rw [if_pos h1, decide_eq_true h1', Bool.true_and]
      by_cases h2 : p.f1 < 64
      · rw [if_pos h2, decide_eq_true h2, Bool.true_and]
        by_cases h3 : p.f2 ≥ 0
        · have h3' : 0 ≤ p.f2 := h3
          rw [if_pos h3, decide_eq_true h3', Bool.true_and]
          by_cases h4 : p.f3 ≤ 0
          · rw [if_pos h4, decide_eq_true h4, Bool.true_and]
          · rw [if_neg h4, decide_eq_false h4, Bool.false_and]
        · have h3' : ¬ 0 ≤ p.f2 := h3
          rw [if_neg h3, decide_eq_false h3', Bool.false_and]
      · rw [if_neg h2, decide_eq_false h2, Bool.false_and]
    · have h1' : ¬ 0 ≤ p.f1 := h1
      rw [if_neg h1, decide_eq_false h1', Bool.false_and]
def okAt (C : List S28) (P : List S83) (i : Nat) : Bool := soundB C (rd_T83 P (i : Int)) && (i == 0 || decide (cmpP (rd_T83 P ((i - 1 : Nat) : Int)) (rd_T83 P (i : Int)) < 0))
def saneB (C : List S28) (P : List S83) : Bool := (List.range' 0 P.length).all (okAt C P) && ((List.range' 0 C.length).all (fun c => fitsB C P c 0) && decide ((C.length : Int) ≤ 64))
theorem sane_l1 {C : List S28} {P : List S83} (hC : inC C) (hP : inP P) (hl : P.length < 1000000) (hcl : C.length < 1000000) : ∀ (d i : Nat), i + d = C.length →
    Evals (fun k => escrow_Sane.l1 k (C.length : Int) (i : Int) C P) ((List.range' i d).all (fun c => fitsB C P c 0) && decide ((C.length : Int) ≤ 64))
  | 0, i, hi => by
    refine Evals.succ (Evals.of fun k => ?_)
    simp only [escrow_Sane.l1, if_neg (show ¬ (i : Int) < (C.length : Int) by omega)]
    simp
  | d + 1, i, hi => by
    have hw : wrap64 ((i : Int) + 1) = ((i + 1 : Nat) : Int) := by unfold wrap64; omega
    refine Evals.succ ?_
    simp only [escrow_Sane.l1, if_pos (show (i : Int) < (C.length : Int) by omega), hw]
    refine Evals.bind (fits_ev hC hP hl (show i < C.length by omega) (by decide)) ?_
    rw [List.range'_succ, List.all_cons]
    cases fitsB C P i 0 with
    | true => simp only [if_true, Bool.true_and]; exact sane_l1 hC hP hl hcl d (i + 1) (by omega)
    | false => simp only [Bool.false_and]; exact Evals.of fun k => rfl
theorem sane_l0 {C : List S28} {P : List S83} (hC : inC C) (hP : inP P) (hl : P.length < 1000000) (hcl : C.length < 1000000) : ∀ (d i : Nat), i + d = P.length →
    Evals (fun k => escrow_Sane.l0 k P (P.length : Int) (i : Int) C P) ((List.range' i d).all (okAt C P) && ((List.range' 0 C.length).all (fun c => fitsB C P c 0) && decide ((C.length : Int) ≤ 64)))
  | 0, i, hi => by
    refine Evals.succ ?_
    simp only [escrow_Sane.l0, if_neg (show ¬ (i : Int) < (P.length : Int) by omega)]
    simpa using sane_l1 hC hP hl hcl C.length 0 (by omega)
  | d + 1, i, hi => by
    have hw : wrap64 ((i : Int) + 1) = ((i + 1 : Nat) : Int) := by unfold wrap64; omega
    have ih := sane_l0 hC hP hl hcl d (i + 1) (by omega)
    refine Evals.succ ?_
    simp only [escrow_Sane.l0, if_pos (show (i : Int) < (P.length : Int) by omega), if_pos (show 0 ≤ (i : Int) by omega), hw]
    refine Evals.bind (Evals.of fun _ => sound_val C P (rd_T83 P (i : Int))) ?_
    rw [List.range'_succ, List.all_cons]
    unfold okAt at ih ⊢
    cases soundB C (rd_T83 P (i : Int)) with
    | false => simp only [Bool.false_and]; exact Evals.of fun k => rfl
    | true =>
      simp only [if_true, Bool.true_and]
      by_cases h0 : i = 0
      · subst h0
        simp only [if_neg (show ¬ ((0 : Nat) : Int) > 0 by omega), beq_self_eq_true, Bool.true_or, Bool.true_and]
        exact ih
      · have hw1 : wrap64 ((i : Int) - 1) = ((i - 1 : Nat) : Int) := by unfold wrap64; omega
        simp only [if_pos (show (i : Int) > 0 by omega), hw1, if_pos (show 0 ≤ ((i - 1 : Nat) : Int) by omega), if_pos (show ((i - 1 : Nat) : Int) < (P.length : Int) by omega), beq_eq_false_iff_ne.2 h0, Bool.false_or]
        refine Evals.bind (order_ev _ _) ?_
        by_cases hc : cmpP (rd_T83 P ((i - 1 : Nat) : Int)) (rd_T83 P (i : Int)) < 0
        · simp only [if_neg (show ¬ cmpP (rd_T83 P ((i - 1 : Nat) : Int)) (rd_T83 P (i : Int)) ≥ 0 by omega), decide_eq_true hc, Bool.true_and]
          exact ih
        · simp only [if_pos (show cmpP (rd_T83 P ((i - 1 : Nat) : Int)) (rd_T83 P (i : Int)) ≥ 0 by omega), decide_eq_false hc, Bool.false_and]
          exact Evals.of fun k => rfl
theorem sane_ev {C : List S28} {P : List S83} (hC : inC C) (hP : inP P) (hl : P.length < 1000000) (hcl : C.length < 1000000) : Evals (fun k => escrow_Sane.f k C P) (saneB C P) := by
  unfold escrow_Sane.f saneB
  exact sane_l0 hC hP hl hcl P.length 0 (by omega)
theorem saneB_srt {C : List S28} {P : List S83} (h : saneB C P = true) : Srt P := by
  unfold saneB at h
  rw [Bool.and_eq_true, List.all_eq_true] at h
  have h1 := h.1
  have hstep : ∀ i (hi : i + 1 < P.length), cmpP P[i] P[i + 1] < 0 := fun i hi => by
    have := h1 (i + 1) (by rw [List.mem_range'_1]; omega)
    unfold okAt at this
    rw [Bool.and_eq_true] at this
    have := this.2
    rw [rd_at83 P (i + 1) hi, show (i + 1 - 1 : Nat) = i by omega, rd_at83 P i (by omega)] at this
    simpa using this
  refine List.pairwise_iff_getElem.2 ?_
  intro i j hi hj hij
  obtain ⟨d, rfl⟩ : ∃ d, j = i + 1 + d := ⟨j - (i + 1), by omega⟩
  induction d with
  | zero => exact hstep i hj
  | succ d ih => exact cmpP_trans (ih (by omega) (by omega)) (hstep (i + 1 + d) hj)
/-! ### may and Add -/
def mayE (C : List S28) (P : List S83) (X : List S74) (tx c : Int) : Int :=
  if saneB C P = true ∧ (0 ≤ c ∧ c < (C.length : Int)) ∧ 0 ≤ tx ∧ tx < (X.length : Int) ∧ tx < 64 then (if (rd_T74 X tx).f1 = 1 then 0 else 7) else 6
theorem may_ev {C : List S28} {P : List S83} (hC : inC C) (hP : inP P) (hl : P.length < 1000000) (hcl : C.length < 1000000) (X : List S74) (ck tx c : Int) : Evals (fun k => escrow_Table_may.f k C P X ck tx c) (mayE C P X tx c) := by
  have j6 : ∀ b : Bool, b = true → Evals (fun k => escrow_Table_may.j0 k tx b X ck) 6 := fun b hb => Evals.succ (Evals.of fun k => by simp only [escrow_Table_may.j0, if_pos hb])
  unfold escrow_Table_may.f mayE
  refine Evals.bind (sane_ev hC hP hl hcl) ?_
  cases hs : saneB C P with
  | false =>
    simp only [if_neg (show ¬ (false = true) by decide), if_neg (fun h : false = true ∧ (0 ≤ c ∧ c < (C.length : Int)) ∧ 0 ≤ tx ∧ tx < (X.length : Int) ∧ tx < 64 => absurd h.1 (by decide))]
    exact j6 true rfl
  | true =>
    simp only [if_true]
    refine Evals.bind (Evals.of fun _ => is_val C P c) ?_
    by_cases hc : 0 ≤ c ∧ c < (C.length : Int)
    · simp only [decide_eq_true hc.1, decide_eq_true hc.2, Bool.and_self, if_true]
      by_cases h1 : tx < 0
      · simp only [if_pos h1]
        rw [if_neg (by omega)]
        exact j6 true rfl
      simp only [if_neg h1]
      by_cases h2 : tx ≥ (X.length : Int)
      · simp only [if_pos h2]
        rw [if_neg (by omega)]
        exact j6 true rfl
      simp only [if_neg h2]
      by_cases h3 : tx ≥ 64
      · simp only [decide_eq_true h3]
        rw [if_neg (by omega)]
        exact j6 true rfl
      · simp only [decide_eq_false h3]
        rw [if_pos ⟨trivial, hc, by omega, by omega, by omega⟩]
        refine Evals.succ (Evals.of fun k => ?_)
        simp only [escrow_Table_may.j0, if_neg (show ¬ (false = true) by decide), if_pos (show 0 ≤ tx by omega), if_pos (show tx < (X.length : Int) by omega)]
        split <;> rfl
    · have : (decide (0 ≤ c) && decide (c < (C.length : Int))) = false := by
        rw [Bool.and_eq_false_iff]
        by_cases h0 : 0 ≤ c
        · exact .inr (decide_eq_false (fun h => hc ⟨h0, h⟩))
        · exact .inl (decide_eq_false h0)
      simp only [this, if_neg (show ¬ (false = true) by decide)]
      rw [if_neg (fun h => hc h.2.1)]
      exact j6 true rfl
def addT (C : List S28) (P : List S83) (X : List S74) (tx c b : Int) : List S28 × List S83 × Int :=
  if mayE C P X tx c = 0 then (if fitsB C P c.toNat b = true then (C, takeP P ⟨c, tx, max b 0, min b 0⟩, 0) else ([], [], 8)) else ([], [], mayE C P X tx c)
theorem add_ev {C : List S28} {P : List S83} (hC : inC C) (hP : inP P) (hl : P.length < 1000000) (hcl : C.length < 1000000) (X : List S74) (ck tx c b : Int) (hb : inR b = true) : Evals (fun k => escrow_Add.f k C P X ck tx c b) (addT C P X tx c b) := by
  unfold escrow_Add.f addT
  refine Evals.bind (may_ev hC hP hl hcl X ck tx c) ?_
  by_cases hm : mayE C P X tx c = 0
  · simp only [if_pos hm]
    have hh : saneB C P = true ∧ (0 ≤ c ∧ c < (C.length : Int)) := by
      unfold mayE at hm
      by_cases hq : saneB C P = true ∧ (0 ≤ c ∧ c < (C.length : Int)) ∧ 0 ≤ tx ∧ tx < (X.length : Int) ∧ tx < 64
      · exact ⟨hq.1, hq.2.1⟩
      · rw [if_neg hq] at hm; exact absurd hm (by decide)
    obtain ⟨cn, rfl⟩ : ∃ cn : Nat, c = (cn : Int) := ⟨c.toNat, by omega⟩
    rw [Int.toNat_natCast]
    refine Evals.bind (fits_ev hC hP hl (by omega) hb) ?_
    cases fitsB C P cn b with
    | true => simp only [if_true]; exact Evals.of fun k => if_pos ⟨by omega, by omega, saneB_srt hh.1⟩
    | false => exact Evals.of fun k => rfl
  · simp only [if_neg hm]
    exact Evals.const _
end Go.Proofs.Ytdnkbmjlcdddcaa.Q
