/- TreeStays: at every input the law returns true and its arguments read as before. No condition. -/
import Derived.Test.YtnlnglfjehohpaaY1
import Derived.Test.YtnlnglfjehohpaaFTreeStays
import Derived.Test.YtnlnglfjehohpaaQS
namespace Go.Proofs.Ytnlnglfjehohpaa.Q
open Go.RowKit Go.Proofs.YtnlnglfjehohpaaW Go.Proofs.YtnlnglfjehohpaaW.PrintWords Go.Proofs.YtnlnglfjehohpaaW.PrintLast Go.Proofs.YtnlnglfjehohpaaW.PrintMore
set_option linter.unusedVariables false
set_option linter.unusedSimpArgs false
def fixB (l : List S35) (id : Int) : Bool := isB l id && !anyUp (fun x => x.f1 != 2) l id
def lostB (l : List S35) (id : Int) : Bool := !isB l id || anyUp (fun x => x.f1 == 3) l id
theorem fix_val (l : List S35) (c id : Int) : tree_Fixed.f l c id = some (fixB l id) := rfl
theorem lost_val (l : List S35) (c id : Int) : tree_Lost.f l c id = some (lostB l id) := rfl
theorem top_val (l : List S35) (c id : Int) : tree_Top.f l c id = some (topOf l id) := rfl
theorem fix_iff (l : List S35) (id : Int) : fixB l id = true ↔ isB l id = true ∧ ∀ x ∈ chain l id, (rd_T35 l x).f1 = 2 := by
  unfold fixB anyUp
  rw [Bool.and_eq_true, Bool.not_eq_true', List.any_eq_false]
  simp
theorem lost_iff (l : List S35) (id : Int) : lostB l id = true ↔ isB l id = false ∨ ∃ x ∈ chain l id, (rd_T35 l x).f1 = 3 := by
  unfold lostB anyUp
  rw [Bool.or_eq_true, Bool.not_eq_true', List.any_eq_true]
  simp
theorem find_congr {α : Type} {p q : α → Bool} : ∀ {l : List α}, (∀ x ∈ l, p x = q x) → l.find? p = l.find? q
  | [], _ => rfl
  | a :: l, h => by
    rw [List.find?_cons, List.find?_cons, h a List.mem_cons_self, find_congr (fun x hx => h x (List.mem_cons_of_mem _ hx))]
/-- What stays from one tree to the next. -/
structure Kept (l ln : List S35) : Prop where
  len : l.length ≤ ln.length
  ch : ∀ id, isB l id = true → chain ln id = chain l id
  par : ∀ id, isB l id = true → (rd_T35 ln id).f0 = (rd_T35 l id).f0
  fx : ∀ id, fixB l id = true → fixB ln id = true
  lo : ∀ id, isB l id = true → lostB l id = true → lostB ln id = true
theorem Kept.top {l ln : List S35} (h : Kept l ln) {id : Int} (hb : isB l id = true) : topOf l id = topOf ln id := by
  unfold topOf
  rw [h.ch id hb]
  have : (chain l id).find? (isTop l) = (chain l id).find? (isTop ln) := find_congr fun x hx => by
    unfold isTop; rw [h.par x (chain_isB l id x hx)]
  rw [this]
theorem Kept.refl (l : List S35) : Kept l l := ⟨Nat.le_refl _, fun _ _ => rfl, fun _ _ => rfl, fun _ h => h, fun _ _ h => h⟩
theorem stays_l1 {l : List S35} {c : Int} {ln : List S35} {cn : Int} (t : Tr l c) (tn : Tr ln cn) (h : Kept l ln) : ∀ (d i : Nat), i + d = l.length → Evals (fun k => heronrylaw09_TreeStays.l1 k true (i : Int) l c ln cn) true
  | 0, i, hi => by
    refine Evals.succ ?_
    simp only [heronrylaw09_TreeStays.l1, if_neg (show ¬ (i : Int) < (l.length : Int) by omega), if_true]
    exact Evals.bind (sane_ev tn) (Evals.const _)
  | d + 1, i, hi => by
    have hb := isB_of l i (by omega)
    have hl := t.len
    have hw : wrap64 ((i : Int) + 1) = ((i + 1 : Nat) : Int) := by unfold wrap64; omega
    have ih := stays_l1 t tn h d (i + 1) (by omega)
    have e1 := fix_val l c (i : Int)
    have e2 := fix_val ln cn (i : Int)
    have e3 := lost_val l c (i : Int)
    have e4 := lost_val ln cn (i : Int)
    have e5 := top_val l c (i : Int)
    have e6 := top_val ln cn (i : Int)
    have e7 := h.top hb
    refine Evals.succ ?_
    simp only [heronrylaw09_TreeStays.l1, if_pos (show (i : Int) < (l.length : Int) by omega), hw]
    have key : Evals (fun k => (tree_Lost.f l c (i : Int)).bind fun t234 => (if t234 = true then ((tree_Lost.f ln cn (i : Int)).bind fun t235 => (if t235 = true then ((tree_Top.f l c (i : Int)).bind fun t236 => ((tree_Top.f ln cn (i : Int)).bind fun t237 => (if t236 = t237 then (heronrylaw09_TreeStays.l1 k true (((i + 1 : Nat) : Int)) l c ln cn) else (none)))) else (none))) else ((tree_Top.f l c (i : Int)).bind fun t238 => ((tree_Top.f ln cn (i : Int)).bind fun t239 => (if t238 = t239 then (heronrylaw09_TreeStays.l1 k true (((i + 1 : Nat) : Int)) l c ln cn) else (none)))))) true := by
      refine Evals.bind (Evals.of fun _ => e3) ?_
      have tops : Evals (fun k => (tree_Top.f l c (i : Int)).bind fun t236 => ((tree_Top.f ln cn (i : Int)).bind fun t237 => (if t236 = t237 then (heronrylaw09_TreeStays.l1 k true (((i + 1 : Nat) : Int)) l c ln cn) else (none)))) true := by
        refine Evals.bind (Evals.of fun _ => e5) ?_
        refine Evals.bind (Evals.of fun _ => e6) ?_
        simp only [if_pos e7]
        exact ih
      by_cases hlo : lostB l (i : Int) = true
      · rw [hlo]
        simp only [if_true]
        refine Evals.bind (Evals.of fun _ => e4) ?_
        rw [h.lo _ hb hlo]
        simp only [if_true]
        exact tops
      · simp only [if_neg hlo]
        exact tops
    refine Evals.bind (Evals.of fun _ => e1) ?_
    by_cases hf : fixB l (i : Int) = true
    · rw [hf]
      simp only [if_true]
      refine Evals.bind (Evals.of fun _ => e2) ?_
      rw [h.fx _ hf]
      simp only [if_true]
      exact key
    · simp only [if_neg hf]
      exact key
theorem stays_l0 {l : List S35} {c : Int} {ln : List S35} {cn : Int} {id : Int} (t : Tr l c) (tn : Tr ln cn) (h : Kept l ln) (gone : List Int) (hm : gone.length ≤ 1000) (hg : ∀ x ∈ gone, id ∈ chain l x ∧ lostB ln x = true) : ∀ (d i : Nat), i + d = gone.length →
    Evals (fun k => heronrylaw09_TreeStays.l0 k id true gone (i : Int) l c ln cn ln cn) true
  | 0, i, hi => by
    refine Evals.succ ?_
    simp only [heronrylaw09_TreeStays.l0, if_neg (show ¬ (i : Int) < (gone.length : Int) by omega)]
    exact stays_l1 t tn h l.length 0 (by omega)
  | d + 1, i, hi => by
    have hw : wrap64 ((i : Int) + 1) = ((i + 1 : Nat) : Int) := by unfold wrap64; omega
    have hlt : i < gone.length := by omega
    have hx : rd gone (i : Int) = gone[i] := by simp [rd, hlt]
    obtain ⟨g1, g2⟩ := hg gone[i] (List.getElem_mem hlt)
    have e1 : tree_Within.f l c gone[i] id = some true := by unfold tree_Within.f; rw [decide_eq_true g1]
    have e2 : tree_Lost.f ln cn gone[i] = some true := by rw [lost_val, g2]
    refine Evals.succ ?_
    simp only [heronrylaw09_TreeStays.l0, if_pos (show (i : Int) < (gone.length : Int) by omega), if_pos (show (0 : Int) ≤ (i : Int) by omega), hw, hx]
    refine Evals.bind (Evals.of fun _ => e1) ?_
    simp only [if_true]
    refine Evals.bind (Evals.of fun _ => e2) ?_
    simp only [if_true]
    exact stays_l0 t tn h gone hm hg d (i + 1) (by omega)

theorem kept_begin {l : List S35} {c id : Int} (t : Tr l c) (hp : id = -1 ∨ (isB l id = true ∧ (rd_T35 l id).f1 = 1 ∧ (chain l id).length < 8)) : Kept l (l ++ [⟨id, 1, c + 1, 0⟩]) := by
  have hpu : -1 ≤ (⟨id, 1, c + 1, 0⟩ : S35).f0 ∧ (⟨id, 1, c + 1, 0⟩ : S35).f0 < l.length := by
    rcases hp with rfl | ⟨hb, _⟩
    · exact ⟨by simp, by simp; omega⟩
    · obtain ⟨h1, h2⟩ := (isB_iff l id).1 hb; exact ⟨by simp; omega, by simp; omega⟩
  have hrd := rd_snoc l ⟨id, 1, c + 1, 0⟩
  have hch := chain_snoc t.up ⟨id, 1, c + 1, 0⟩ hpu
  have hB : ∀ j, isB l j = true → isB (l ++ [(⟨id, 1, c + 1, 0⟩ : S35)]) j = true := fun j hj => by
    rw [isB_iff] at hj ⊢; simp; omega
  refine ⟨by simp, hch, fun j hj => by rw [hrd j hj], fun j hj => ?_, fun j hj h => ?_⟩
  · obtain ⟨h1, h2⟩ := (fix_iff l j).1 hj
    refine (fix_iff _ j).2 ⟨hB j h1, fun x hx => ?_⟩
    rw [hch j h1] at hx
    rw [hrd x (chain_isB l j x hx)]; exact h2 x hx
  · rcases (lost_iff l j).1 h with h1 | ⟨x, hx, h2⟩
    · rw [hj] at h1; exact absurd h1 (by decide)
    · refine (lost_iff _ j).2 (.inr ⟨x, by rw [hch j hj]; exact hx, ?_⟩)
      rw [hrd x (chain_isB l j x hx)]; exact h2
theorem kept_end {l : List S35} {c : Int} (t : Tr l c) {ks : List Int} (hks : ∀ x ∈ ks, isB l x = true) {st : Int}
    (hf : st = 2 ∨ ∀ x ∈ ks, ∀ j, fixB l j = true → x ∉ chain l j) (hu : ∀ x ∈ ks, (rd_T35 l x).f1 ≠ 3) : Kept l (endL l ks st (c + 1)) := by
  have hrd := rd_endL st (c + 1) ks l hks
  have hB : ∀ id, isB (endL l ks st (c + 1)) id = isB l id := fun id => isB_len (endL_len l ks st (c + 1)) id
  have hf0 : ∀ id, isB l id = true → (rd_T35 l id).f0 = (rd_T35 (endL l ks st (c + 1)) id).f0 := by
    intro id hid; rw [hrd id hid]; by_cases e : id ∈ ks
    · rw [if_pos e]
    · rw [if_neg e]
  have hch : ∀ id, chain (endL l ks st (c + 1)) id = chain l id := fun id => (chain_congr' (endL_len l ks st (c + 1)).symm hf0 id).symm
  refine ⟨by rw [endL_len]; exact Nat.le_refl _, fun j _ => hch j, fun j hj => (hf0 j hj).symm, fun j hj => ?_, fun j hj h => ?_⟩
  · obtain ⟨h1, h2⟩ := (fix_iff l j).1 hj
    refine (fix_iff _ j).2 ⟨by rw [hB]; exact h1, fun x hx => ?_⟩
    rw [hch] at hx
    rw [hrd x (chain_isB l j x hx)]
    by_cases e : x ∈ ks
    · rw [if_pos e]
      rcases hf with rfl | hf
      · rfl
      · exact absurd hx (hf x e j hj)
    · rw [if_neg e]; exact h2 x hx
  · rcases (lost_iff l j).1 h with h1 | ⟨x, hx, h2⟩
    · rw [hj] at h1; exact absurd h1 (by decide)
    · refine (lost_iff _ j).2 (.inr ⟨x, by rw [hch]; exact hx, ?_⟩)
      rw [hrd x (chain_isB l j x hx), if_neg (fun e => hu x e h2)]; exact h2
theorem stays_of {l : List S35} {c : Int} {ln : List S35} {cn : Int} (t : Tr l c) (tn : Tr ln cn) (h : Kept l ln) : Evals (fun k => heronrylaw09_TreeStays.l1 k true 0 l c ln cn) true := stays_l1 t tn h l.length 0 (by omega)
theorem stays_begin {l : List S35} {c : Int} (t : Tr l c) (hck : c ≤ 1000) (id : Int) : Evals (fun k => (tree_Begin.f k l c id).bind fun bt223 => (if bt223.2.2.2 = 0 then (if bt223.2.2.1 = (l.length : Int) then (if bt223.2.2.1 ≥ (bt223.1.length : Int) then (none) else (if 0 ≤ bt223.2.2.1 then (if bt223.2.2.1 < (bt223.1.length : Int) then (if ((rd_T35 bt223.1 bt223.2.2.1).f1) = 1 then (if ((rd_T35 bt223.1 bt223.2.2.1).f0) = id then (heronrylaw09_TreeStays.l1 k true 0 l c bt223.1 bt223.2.1) else (none)) else (none)) else (none)) else (none))) else (none)) else (heronrylaw09_TreeStays.l1 k true 0 l c l c))) true := by
  refine Evals.bind (begin_ev t.up t.len t.clk (by omega) id) ?_
  by_cases e : (beginT l c id).2.2.2 = 0
  · obtain ⟨h1, h2, h3⟩ := begin_ok t e
    simp only [if_pos e]
    rw [h3]
    have q := stays_of t (t.begin h1 h2) (kept_begin t h1)
    have r := rd_new l ⟨id, 1, c + 1, 0⟩
    have n1 : ¬ (l.length : Int) ≥ ((l ++ [(⟨id, 1, c + 1, 0⟩ : S35)]).length : Int) := by rw [List.length_append, List.length_singleton]; omega
    have n2 : (l.length : Int) < ((l ++ [(⟨id, 1, c + 1, 0⟩ : S35)]).length : Int) := by rw [List.length_append, List.length_singleton]; omega
    simp only [if_true, if_neg n1, if_pos n2, r, if_pos (show (0 : Int) ≤ (l.length : Int) by omega)]
    exact q
  · simp only [if_neg e]
    exact stays_of t t (Kept.refl l)
theorem stays_ev (acts : List S47) (a b : Int) : Evals (fun k => heronrylaw09_TreeStays.f k acts a b) true := by
  unfold heronrylaw09_TreeStays.f
  refine Evals.bind awake_ev ?_
  by_cases h : (acts.length : Int) > 120
  · simp only [if_pos h]; exact Evals.const _
  simp only [if_neg h]
  obtain ⟨l, c, e, t, hc⟩ := grown_ev (acts := acts) (by omega)
  refine Evals.bind e ?_
  have hck : c ≤ 1000 := by omega
  clear e h hc
  simp only [and_3]
  by_cases h0 : a % 4 = 0
  · simp only [if_pos h0]; exact stays_begin t hck b
  simp only [if_neg h0]
  by_cases h1 : a % 4 = 1
  · simp only [if_pos h1]; exact stays_begin t hck b
  simp only [if_neg h1]
  by_cases h2 : a % 4 = 2
  · simp only [if_pos h2]
    refine Evals.bind (commit_ev t.len t.clk (by omega) b) ?_
    by_cases e : (commitT l c b).2.2 = 0
    · obtain ⟨g1, g2, g3⟩ := commit_ok e
      obtain ⟨l1, l2, _⟩ := commit_live g2
      simp only [if_pos e]
      rw [g3]
      refine stays_of t (t.commit g2) (kept_end t (fun x hx => by rw [List.mem_singleton.1 hx]; exact g1) (.inl rfl) (fun x hx => by rw [List.mem_singleton.1 hx, l2]; decide))
    · simp only [if_neg e]; exact stays_of t t (Kept.refl l)
  simp only [if_neg h2]
  by_cases h3 : a % 4 = 3
  · simp only [if_pos h3]
    refine Evals.bind (Evals.of fun _ => abort_val t.len t.clk (by omega) b) ?_
    by_cases e : (abortT l c b).2.2.2 = 0
    · obtain ⟨g1, g2, g3⟩ := abort_ok e
      simp only [if_pos e]
      rw [g3]
      have hk : ∀ x ∈ insideL notUndone l b l.length, isB l x = true ∧ notUndone (rd_T35 l x) = true ∧ b ∈ chain l x := fun x hx => (mem_insideL _ _ _ _).1 hx
      have K : Kept l (endL l (insideL notUndone l b l.length) 3 (c + 1)) := by
        refine kept_end t (fun x hx => (hk x hx).1) (.inr fun x hx j hj hm => ?_) (fun x hx => ?_)
        · have := ((fix_iff l j).1 hj).2 b (chain_trans t.up j x hm b (hk x hx).2.2)
          rw [g2] at this; exact absurd this (by decide)
        · have := (hk x hx).2.1
          unfold notUndone at this
          simpa using this
      refine stays_l0 t (t.abort b) K _ ?_ (fun x hx => ⟨(hk x hx).2.2, ?_⟩) _ 0 (Nat.zero_add _)
      · have := insideL_len' notUndone l b l.length
        have := t.len
        omega
      · refine (lost_iff _ x).2 (.inr ⟨x, ?_, ?_⟩)
        · rw [K.ch x (hk x hx).1]; exact chain_self t.up (hk x hx).1
        · rw [rd_endL 3 (c + 1) _ l (fun y hy => (hk y hy).1) x (hk x hx).1, if_pos hx]
    · simp only [if_neg e]; exact stays_of t t (Kept.refl l)
  · exact absurd h3 (by omega)
end Go.Proofs.Ytnlnglfjehohpaa.Q
namespace Go.Proofs.Ytnlnglfjehohpaa
theorem treeStays_holds : Rows.TreeStaysSaid :=
  treeStays.said fun A c l a b w hr hc hg _ _ => by
    obtain ⟨k, hk⟩ := (Q.stays_ev l a b).get
    exact Q.heronrylaw09_TreeStays.calls k A c l a b true w ⟨rfl⟩ hr hc hk
end Go.Proofs.Ytnlnglfjehohpaa
