/- SchedDrops: at every input the law returns true and its arguments read as before. No condition. -/
import Derived.Test.YtjbdlgjhnldfbaaY3
import Derived.Test.YtjbdlgjhnldfbaaFSchedDrops
import Derived.Test.YtjbdlgjhnldfbaaQ18
import Derived.Test.YtjbdlgjhnldfbaaB
namespace Go.Proofs.Ytjbdlgjhnldfbaa.Q
open Go.RowKit Go.Proofs.YtjbdlgjhnldfbaaW Go.Proofs.YtjbdlgjhnldfbaaW.PrintWords Go.Proofs.YtjbdlgjhnldfbaaW.PrintLast Go.Proofs.YtjbdlgjhnldfbaaW.PrintMore
open FL
set_option linter.unusedVariables false

def itemsW (l : List Int) (n : Nat) (k : Int) : List S44 := (itemsR l n).filter (fun x => x.f0 != k)
theorem itemsW_snoc (l : List Int) (n : Nat) (k : Int) : itemsW l (n + 1) k = itemsW l n k ++ (if (n : Int) = k then [] else [⟨(n : Int), rd l (n : Int), 0⟩]) := by
  unfold itemsW
  rw [itemsR_snoc, List.filter_append]
  congr 1
  by_cases h : (n : Int) = k <;> simp [h]
theorem itemsW_inv (l : List Int) (n : Nat) (k : Int) : Inv l n 0 (itemsW l n k) :=
  ⟨List.Pairwise.sublist List.filter_sublist (itemsR_asc l n), fun x hx => (inv_start l n).mem x (List.mem_filter.1 hx).1⟩
theorem itemsW_no (l : List Int) (n : Nat) (k : Int) (x : S44) (h : x ∈ itemsW l n k) : x.f0 ≠ k := by
  have := (List.mem_filter.1 h).2
  simpa using this

theorem add_itemW (l : List Int) (i : Nat) (k : Int) (hi : i < 16) (hc : ∀ j : Nat, j < i + 1 → classS (rd l (j : Int)) ≠ 4) (hk : (i : Int) ≠ k) : addQ (itemsW l i k) 1000 (i : Int) (rd l (i : Int)) = (itemsW l (i + 1) k, 1000, 0) := by
  have hs := inv_sane (itemsW_inv l i k) (by omega) (by omega) (fun j hj => hc j (by omega))
  have hc' := hc i (by omega)
  have hso : soundQ ⟨(i : Int), rd l (i : Int), 0⟩ = true := by
    unfold soundQ
    simp only [Bool.and_eq_true, decide_eq_true_eq, bne_iff_ne, ne_eq]
    exact ⟨by omega, by omega, by decide, hc'⟩
  have hni : ¬ (i : Int) ∈ (itemsW l i k).map (·.f0) := by
    intro hm
    obtain ⟨x, hx, he⟩ := List.mem_map.1 hm
    have := ((itemsW_inv l i k).mem x hx).2.1
    omega
  unfold addQ
  rw [hs, hso, if_pos (by decide), if_neg hni, itemsW_snoc, if_neg hk]

theorem erase_asc : ∀ (q : List S44) (m : Nat) (hm : m < q.length), Asc q → q.eraseIdx m = q.filter (fun x => x.f0 != q[m].f0)
  | [], m, hm, _ => absurd hm (by simp)
  | x :: q, 0, _, h => by
    have h2 := (List.pairwise_cons.1 h).1
    have : q.filter (fun y => y.f0 != x.f0) = q := by
      rw [List.filter_eq_self]
      intro y hy
      have := h2 y hy
      simp; omega
    simp [this]
  | x :: q, m + 1, hm, h => by
    have hm' : m < q.length := by simpa using hm
    have h2 := (List.pairwise_cons.1 h).1 _ (List.getElem_mem hm')
    have ih := erase_asc q m hm' (List.pairwise_cons.1 h).2
    have hx : (x.f0 != q[m].f0) = true := by simp; omega
    simp only [List.eraseIdx_cons_succ, List.getElem_cons_succ, List.filter_cons]
    rw [if_pos hx, ih]

theorem itemsR_get (l : List Int) (n j : Nat) (hj : j < (itemsR l n).length) : ((itemsR l n)[j]).f0 = (j : Int) := by
  have h : (itemsR l n)[j]? = some ⟨(j : Int), rd l (j : Int), 0⟩ := by
    have hj' := hj
    rw [itemsR_len] at hj'
    unfold itemsR
    rw [List.getElem?_map, List.getElem?_range hj']
    rfl
  rw [List.getElem?_eq_getElem hj] at h
  rw [Option.some.inj h]

theorem drop_some (l : List Int) (n k : Nat) (hn : n ≤ 16) (hk : k < n) (hu : ∀ j : Nat, j < n → inU (rd l (j : Int)) = true) (hc : ∀ j : Nat, j < n → classS (rd l (j : Int)) ≠ 4) : Evals (fun r => sched_Drop.f r (itemsR l n) 1000 (k : Int)) (itemsW l n k, 1000, 0) := by
  unfold sched_Drop.f sched_Queue_find.f
  have hkl : k < (itemsR l n).length := by rw [itemsR_len]; exact hk
  have hix : ixOf (fun x : S44 => x.f0 == (k : Int)) (itemsR l n) = (k : Int) := ixOf_at _ _ k hkl (by simp [itemsR_get]) (fun j hj => by simp [itemsR_get]; omega)
  simp only [hix, Option.bind_some]
  have hs := sane_ev (itemsR l n) 1000 (inv_u (inv_start l n) hu) (by rw [itemsR_len]; omega)
  rw [inv_sane (inv_start l n) hn (by omega) hc] at hs
  refine Evals.bind hs ?_
  have h0 : ¬ ((k : Int) < 0) := by omega
  have h1 : 0 ≤ (k : Int) ∧ (k : Int) < ((itemsR l n).length : Int) ∧ (itemsR l n).length < 5864062014805 := ⟨by omega, by omega, by rw [itemsR_len]; omega⟩
  unfold sched_Queue_without.f
  simp only [if_pos, if_neg h0]
  rw [if_pos h1]
  simp only [Option.bind_some, Int.toNat_natCast]
  rw [erase_asc _ k hkl (itemsR_asc l n), itemsR_get]
  exact Evals.const _
theorem drop_none (l : List Int) (n k : Nat) (hn : n ≤ 16) (hu : ∀ j : Nat, j < n → inU (rd l (j : Int)) = true) (hc : ∀ j : Nat, j < n → classS (rd l (j : Int)) ≠ 4) : Evals (fun r => sched_Drop.f r (itemsW l n k) 1000 (k : Int)) ([], 0, 6) := by
  unfold sched_Drop.f sched_Queue_find.f
  have hix : ixOf (fun x : S44 => x.f0 == (k : Int)) (itemsW l n k) = -1 := ixOf_none _ _ (fun j hj => by have := itemsW_no l n k _ (List.getElem_mem hj); simpa using this)
  simp only [hix, Option.bind_some]
  have hl := inv_len (itemsW_inv l n k)
  have hs := sane_ev (itemsW l n k) 1000 (inv_u (itemsW_inv l n k) hu) (by omega)
  rw [inv_sane (itemsW_inv l n k) hn (by omega) hc] at hs
  refine Evals.bind hs ?_
  simp only [if_pos, if_pos (show (-1 : Int) < 0 by decide)]
  exact Evals.const _

theorem drops_l1 (l : List Int) (hn : l.length ≤ 16) (kk : Int) (hu : ∀ j : Nat, j < l.length → inU (rd l (j : Int)) = true) (hc : ∀ j : Nat, j < l.length → classS (rd l (j : Int)) ≠ 4) (d : Nat) : ∀ (i : Nat) (q : List S44), 1 ≤ i → i + d = l.length → q.length = d → Inv l l.length (i - 1) q → (∀ x ∈ q, x.f0 ≠ kk) →
    Evals (fun k => heronrylaw21_SchedDrops.l1 k l true kk (allR l.length) 0 6 (i : Int) q 1000 q 1000) true := by
  induction d with
  | zero =>
    intro i q h1 hi hq hI hk
    have h0 : ¬ (i : Int) < (l.length : Int) := by omega
    obtain rfl : q = [] := List.eq_nil_of_length_eq_zero hq
    refine Evals.succ (Evals.of fun k => ?_)
    simp only [heronrylaw21_SchedDrops.l1, if_neg h0]
    rfl
  | succ d ih =>
    intro i q h1 hi hq hI hk
    have h0 : (i : Int) < (l.length : Int) := by omega
    have hp := pick_ev q 1000 (allR l.length) (inv_u hI hu) (by omega) (by rw [allR_len]; omega)
    rcases inv_pick hI hn (by omega) hc with ⟨e1, _⟩ | ⟨q', s, e1, e2, e3, ⟨x, hx, hxs⟩, e4, e5, e6, e7⟩
    · rw [e1] at hq; simp at hq
    rw [e1] at hp
    have hih := ih (i + 1) q' (by omega) (by omega) (by omega) (by rw [show i + 1 - 1 = i - 1 + 1 by omega]; exact e3) (fun y hy => by
      obtain ⟨z, hz, he⟩ := e7 y hy
      rw [← he]; exact hk z hz)
    have hsk : ¬ s = kk := by rw [← hxs]; exact hk x hx
    refine Evals.succ ?_
    simp only [heronrylaw21_SchedDrops.l1, if_pos h0]
    refine Evals.bind hp ?_
    refine Evals.bind hp ?_
    simp only [if_pos, if_neg hsk]
    rw [w64 (by omega) (by omega), show ((i : Int) + 1) = ((i + 1 : Nat) : Int) by omega]
    exact hih

theorem drops_l0 (l : List Int) (hn : l.length ≤ 16) (kk : Nat) (hkk : kk < l.length) (hu : ∀ j : Nat, j < l.length → inU (rd l (j : Int)) = true) (d : Nat) : ∀ i : Nat, i + d = l.length → (∀ j : Nat, j < i → classS (rd l (j : Int)) ≠ 4) →
    Evals (fun k => heronrylaw21_SchedDrops.l0 k l true (kk : Int) (allR i) (i : Int) (itemsR l i) 1000 (itemsW l i kk) 1000) true := by
  induction d with
  | zero =>
    intro i hi hc
    obtain rfl : i = l.length := by omega
    refine Evals.succ ?_
    have h0 : ¬ (l.length : Int) < (l.length : Int) := by omega
    simp only [heronrylaw21_SchedDrops.l0, if_neg h0]
    refine Evals.bind (drop_some l l.length kk hn hkk hu hc) ?_
    refine Evals.bind (drop_none l l.length kk hn hu hc) ?_
    have hlen : (itemsW l l.length kk).length = l.length - 1 := by
      have h := erase_asc (itemsR l l.length) kk (by rw [itemsR_len]; exact hkk) (itemsR_asc l l.length)
      rw [itemsR_get] at h
      unfold itemsW
      rw [← h, List.length_eraseIdx_of_lt (by rw [itemsR_len]; exact hkk), itemsR_len]
    exact drops_l1 l hn kk hu hc (l.length - 1) 1 _ (by omega) (by omega) hlen (itemsW_inv _ _ _) (fun x hx => itemsW_no _ _ _ x hx)
  | succ d ih =>
    intro i hi hc
    have h0 : (i : Int) < (l.length : Int) := by omega
    have h1 : (0 : Int) ≤ (i : Int) := by omega
    have hui := hu i (by omega)
    refine Evals.succ ?_
    simp only [heronrylaw21_SchedDrops.l0, if_pos h0, if_pos h1, class_ev _ hui, Option.bind_some]
    by_cases c : classS (rd l (i : Int)) = 4
    · simp only [if_pos c]; exact Evals.const _
    · simp only [if_neg c]
      have hc' : ∀ j : Nat, j < i + 1 → classS (rd l (j : Int)) ≠ 4 := fun j hj => by
        by_cases he : j = i
        · subst he; exact c
        · exact hc j (by omega)
      have ha := add_ev (itemsR l i) 1000 (i : Int) (rd l (i : Int)) (inv_u (inv_start l i) (fun j hj => hu j (by omega))) hui (by rw [itemsR_len]; omega)
      rw [add_item l i (by omega) hc'] at ha
      have hlm : (allR i).length < 17592186044416 := by rw [allR_len]; omega
      refine Evals.bind ha ?_
      simp only [if_pos, if_pos hlm]
      rw [w64 (by omega) (by omega), show ((i : Int) + 1) = ((i + 1 : Nat) : Int) by omega, ← allR_snoc]
      by_cases he : (i : Int) = (kk : Int)
      · simp only [if_pos he]
        have := ih (i + 1) (by omega) hc'
        rw [itemsW_snoc, if_pos he, List.append_nil] at this
        exact this
      · simp only [if_neg he]
        have hl := inv_len (itemsW_inv l i kk)
        have hb := add_ev (itemsW l i kk) 1000 (i : Int) (rd l (i : Int)) (inv_u (itemsW_inv l i kk) (fun j hj => hu j (by omega))) hui (by omega)
        rw [add_itemW l i kk (by omega) hc' he] at hb
        refine Evals.bind hb ?_
        simp only [if_pos]
        exact ih (i + 1) (by omega) hc'

theorem drops_ev (l : List Int) (a : Int) (hu : ∀ x ∈ l, inU x = true) : Evals (fun k => heronrylaw21_SchedDrops.f k l a) true := by
  unfold heronrylaw21_SchedDrops.f
  refine Evals.bind awake_ev ?_
  by_cases h : (l.length : Int) > 16
  · simp only [if_pos h]
    refine Evals.succ (Evals.of fun k => ?_)
    simp only [heronrylaw21_SchedDrops.j0, if_pos]
  · simp only [if_neg h]
    refine Evals.succ ?_
    by_cases h2 : (l.length : Int) = 0
    · refine Evals.of fun k => ?_
      simp only [heronrylaw21_SchedDrops.j0, h2]
      rfl
    · have hb : ((l.length : Int) == 0) = false := by rw [beq_eq_false_iff_ne]; exact h2
      simp only [heronrylaw21_SchedDrops.j0, hb, if_neg (show ¬ (false = true) by decide), if_neg h2]
      rw [and_65535]
      have hlp : 0 < l.length := by omega
      have hm : 0 ≤ a % 65536 := by omega
      obtain ⟨kk, hkk⟩ : ∃ kk : Nat, Int.tmod (a % 65536) (l.length : Int) = kk := by
        refine ⟨(Int.tmod (a % 65536) (l.length : Int)).toNat, ?_⟩
        have := Int.tmod_nonneg (l.length : Int) hm
        omega
      have hlt : kk < l.length := by
        have := Int.tmod_lt_of_pos (a % 65536) (show (0 : Int) < (l.length : Int) by omega)
        omega
      rw [hkk]
      exact drops_l0 l (by omega) kk hlt (fun j hj => by rw [rdi_at l j hj]; exact hu _ (List.getElem_mem hj)) l.length 0 (by omega) (fun j hj => by omega)
end Go.Proofs.Ytjbdlgjhnldfbaa.Q
namespace Go.Proofs.Ytjbdlgjhnldfbaa
theorem schedDrops_holds : Rows.SchedDropsSaid :=
  schedDrops.said fun A c l a w hr hc hg _ => by
    obtain ⟨k, hk⟩ := (Q.drops_ev l a (fun x hx => Q.inU_of_wf (hg x hx))).get
    exact Q.heronrylaw21_SchedDrops.calls k A c l a true w ⟨rfl⟩ hr hc hk
end Go.Proofs.Ytjbdlgjhnldfbaa
