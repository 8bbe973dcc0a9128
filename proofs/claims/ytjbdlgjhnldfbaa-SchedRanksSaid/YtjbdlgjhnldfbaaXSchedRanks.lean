/- SchedRanks: at every input the law returns true and its arguments read as before. No condition. -/
import Derived.Test.YtjbdlgjhnldfbaaY3
import Derived.Test.YtjbdlgjhnldfbaaFSchedRanks
import Derived.Test.YtjbdlgjhnldfbaaQ9
namespace Go.Proofs.Ytjbdlgjhnldfbaa.Q
open Go.RowKit Go.Proofs.YtjbdlgjhnldfbaaW Go.Proofs.YtjbdlgjhnldfbaaW.PrintWords Go.Proofs.YtjbdlgjhnldfbaaW.PrintLast Go.Proofs.YtjbdlgjhnldfbaaW.PrintMore
open FL
set_option linter.unusedVariables false


theorem ranks_l1 (l : List Int) (hn : l.length ≤ 16) (hu : ∀ j : Nat, j < l.length → inU (rd l (j : Int)) = true) (hc : ∀ j : Nat, j < l.length → classS (rd l (j : Int)) ≠ 4) (d : Nat) : ∀ (i : Nat) (q : List S44) (last : Int), i + d = l.length → q.length = d → Inv l l.length i q →
    (last = -1 ∨ (0 ≤ last ∧ last < l.length ∧ ∀ x ∈ q, keyS x.f1 < keyS (rd l last) ∨ (keyS x.f1 = keyS (rd l last) ∧ last < x.f0))) →
    Evals (fun k => heronrylaw21_SchedRanks.l1 k l true (allR l.length) last (i : Int) q 1000) true := by
  induction d with
  | zero =>
    intro i q last hi hq hI hl
    have h0 : ¬ (i : Int) < (l.length : Int) := by omega
    obtain rfl : q = [] := List.eq_nil_of_length_eq_zero hq
    have hp := pick_ev [] 1000 (allR l.length) (by simp) (by decide) (by rw [allR_len]; omega)
    rcases inv_pick hI hn (by omega) hc with ⟨_, h1⟩ | ⟨q', s, h1, h2, _⟩
    · rw [h1] at hp
      refine Evals.succ ?_
      simp only [heronrylaw21_SchedRanks.l1, if_neg h0]
      refine Evals.bind hp ?_
      exact Evals.of fun k => by simp
    · simp at h2
  | succ d ih =>
    intro i q last hi hq hI hl
    have h0 : (i : Int) < (l.length : Int) := by omega
    have hp := pick_ev q 1000 (allR l.length) (inv_u hI hu) (by omega) (by rw [allR_len]; omega)
    rcases inv_pick hI hn (by omega) hc with ⟨h1, _⟩ | ⟨q', s, h1, h2, h3, ⟨x, hx, hxs⟩, h4, h5, h6, _⟩
    · rw [h1] at hq; simp at hq
    rw [h1] at hp
    have hih := ih (i + 1) q' s (by omega) (by omega) h3 (.inr ⟨h4, h5, h6⟩)
    have hne : ¬ (s ≥ (l.length : Int)) := by omega
    have hs0 : ¬ s < 0 := by omega
    have hs0' : (0 : Int) ≤ s := h4
    have hus : inU (rd l s) = true := by
      have := hu s.toNat (by omega)
      rwa [show ((s.toNat : Nat) : Int) = s by omega] at this
    refine Evals.succ ?_
    simp only [heronrylaw21_SchedRanks.l1, if_pos h0]
    refine Evals.bind hp ?_
    simp only [if_pos, if_neg hs0, decide_eq_false hne]
    refine Evals.succ ?_
    simp only [heronrylaw21_SchedRanks.j2, if_neg (show ¬ (false = true) by decide)]
    rw [w64 (by omega) (by omega), show ((i : Int) + 1) = ((i + 1 : Nat) : Int) by omega]
    rcases hl with rfl | ⟨l1, l2, l3⟩
    · simp only [if_neg (show ¬ ((-1 : Int) ≥ 0) by decide)]
      exact hih
    · have l1' : last ≥ 0 := l1
      have hul : inU (rd l last) = true := by
        have := hu last.toNat (by omega)
        rwa [show ((last.toNat : Nat) : Int) = last by omega] at this
      have hx3 := l3 x hx
      rw [(hI.mem x hx).2.2.1, hxs] at hx3
      have g1 : ¬ keyS (rd l s) > keyS (rd l last) := by omega
      simp only [if_pos l1', if_pos hs0', if_pos h5, key_ev _ hus, key_ev _ hul, Option.bind_some, if_pos l2, if_neg g1]
      by_cases g2 : keyS (rd l s) = keyS (rd l last)
      · have g3 : ¬ s < last := by omega
        simp only [if_pos g2, if_neg g3]
        exact hih
      · simp only [if_neg g2]
        exact hih

theorem ranks_l0 (l : List Int) (hn : l.length ≤ 16) (hu : ∀ j : Nat, j < l.length → inU (rd l (j : Int)) = true) (d : Nat) : ∀ i : Nat, i + d = l.length → (∀ j : Nat, j < i → classS (rd l (j : Int)) ≠ 4) →
    Evals (fun k => heronrylaw21_SchedRanks.l0 k l true (allR i) (i : Int) (itemsR l i) 1000) true := by
  induction d with
  | zero =>
    intro i hi hc
    obtain rfl : i = l.length := by omega
    refine Evals.succ ?_
    have h0 : ¬ (l.length : Int) < (l.length : Int) := by omega
    simp only [heronrylaw21_SchedRanks.l0, if_neg h0]
    exact ranks_l1 l hn hu hc l.length 0 _ (-1) (by omega) (itemsR_len _ _) (inv_start _ _) (.inl rfl)
  | succ d ih =>
    intro i hi hc
    have h0 : (i : Int) < (l.length : Int) := by omega
    have h1 : (0 : Int) ≤ (i : Int) := by omega
    have hui := hu i (by omega)
    refine Evals.succ ?_
    simp only [heronrylaw21_SchedRanks.l0, if_pos h0, if_pos h1, class_ev _ hui, Option.bind_some]
    by_cases c : classS (rd l (i : Int)) = 4
    · simp only [if_pos c]; exact Evals.const _
    · simp only [if_neg c]
      have hc' : ∀ j : Nat, j < i + 1 → classS (rd l (j : Int)) ≠ 4 := fun j hj => by
        by_cases he : j = i
        · subst he; exact c
        · exact hc j (by omega)
      have ha := add_ev (itemsR l i) 1000 (i : Int) (rd l (i : Int)) (inv_u (inv_start l i) (fun j hj => hu j (by omega))) hui (by rw [itemsR_len]; omega)
      rw [add_item l i (by omega) hc'] at ha
      have hlm : (allR i).length < 17592186044416 := by rw [allR_len]; omega
      refine Evals.bind ha ?_
      simp only [if_pos, if_pos hlm]
      rw [w64 (by omega) (by omega), show ((i : Int) + 1) = ((i + 1 : Nat) : Int) by omega, ← allR_snoc]
      exact ih (i + 1) (by omega) hc'

theorem ranks_ev (l : List Int) (hu : ∀ x ∈ l, inU x = true) : Evals (fun k => heronrylaw21_SchedRanks.f k l) true := by
  unfold heronrylaw21_SchedRanks.f
  refine Evals.bind awake_ev ?_
  by_cases h : (l.length : Int) > 16
  · simp only [if_pos h]; exact Evals.const _
  · simp only [if_neg h]
    exact ranks_l0 l (by omega) (fun j hj => by rw [rdi_at l j hj]; exact hu _ (List.getElem_mem hj)) l.length 0 (by omega) (fun j hj => by omega)
end Go.Proofs.Ytjbdlgjhnldfbaa.Q
namespace Go.Proofs.Ytjbdlgjhnldfbaa
theorem schedRanks_holds : Rows.SchedRanksSaid :=
  schedRanks.said fun A c l w hr hc hg => by
    obtain ⟨k, hk⟩ := (Q.ranks_ev l (fun x hx => Q.inU_of_wf (hg x hx))).get
    exact Q.heronrylaw21_SchedRanks.calls k A c l true w ⟨rfl⟩ hr hc hk
end Go.Proofs.Ytjbdlgjhnldfbaa
