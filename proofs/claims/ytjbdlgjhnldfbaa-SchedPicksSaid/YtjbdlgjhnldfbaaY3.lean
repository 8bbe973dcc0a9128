/- Chapter 21, plain: requests that came at once. No condition. -/
import Derived.Test.YtjbdlgjhnldfbaaY2
namespace Go.Proofs.Ytjbdlgjhnldfbaa.Q
open Go.RowKit Go.Proofs.YtjbdlgjhnldfbaaW Go.Proofs.YtjbdlgjhnldfbaaW.PrintWords Go.Proofs.YtjbdlgjhnldfbaaW.PrintLast Go.Proofs.YtjbdlgjhnldfbaaW.PrintMore
open FL
set_option linter.unusedVariables false

def itemsR (l : List Int) (n : Nat) : List S44 := (List.range n).map (fun i : Nat => (⟨(i : Int), rd l (i : Int), 0⟩ : S44))
def allR (n : Nat) : List Int := (List.range n).map (fun i : Nat => (i : Int))
def Asc (q : List S44) : Prop := q.Pairwise (fun a b => a.f0 < b.f0)
theorem asc_nodup {q : List S44} (h : Asc q) : (q.map (·.f0)).Nodup := by
  rw [List.nodup_iff_pairwise_ne, List.pairwise_map]
  exact h.imp (fun h => by omega)
theorem itemsR_snoc (l : List Int) (n : Nat) : itemsR l (n + 1) = itemsR l n ++ [⟨(n : Int), rd l (n : Int), 0⟩] := by
  unfold itemsR; rw [List.range_succ, List.map_append]; rfl
theorem allR_snoc (n : Nat) : allR (n + 1) = allR n ++ [(n : Int)] := by
  unfold allR; rw [List.range_succ, List.map_append]; rfl
theorem allR_mem (n : Nat) (x : Int) : x ∈ allR n ↔ 0 ≤ x ∧ x < n := by
  unfold allR
  rw [List.mem_map]
  constructor
  · rintro ⟨i, hi, rfl⟩; rw [List.mem_range] at hi; omega
  · rintro ⟨h1, h2⟩; exact ⟨x.toNat, List.mem_range.2 (by omega), by omega⟩
theorem allR_len (n : Nat) : (allR n).length = n := by unfold allR; simp
theorem itemsR_len (l : List Int) (n : Nat) : (itemsR l n).length = n := by unfold itemsR; simp
theorem itemsR_asc (l : List Int) (n : Nat) : Asc (itemsR l n) := by
  unfold Asc itemsR
  rw [List.pairwise_map]
  exact List.pairwise_lt_range.imp (fun h => by simpa using h)
theorem itemsR_mem (l : List Int) (n : Nat) (x : S44) (h : x ∈ itemsR l n) : 0 ≤ x.f0 ∧ x.f0 < n ∧ x.f1 = rd l x.f0 ∧ x.f2 = 0 := by
  unfold itemsR at h
  obtain ⟨i, hi, rfl⟩ := List.mem_map.1 h
  rw [List.mem_range] at hi
  exact ⟨by simp, by simpa using hi, rfl, rfl⟩

/-- After i picks: all have waited i. -/
structure Inv (l : List Int) (n i : Nat) (q : List S44) : Prop where
  asc : Asc q
  mem : ∀ x ∈ q, 0 ≤ x.f0 ∧ x.f0 < n ∧ x.f1 = rd l x.f0 ∧ x.f2 = i
theorem inv_start (l : List Int) (n : Nat) : Inv l n 0 (itemsR l n) := ⟨itemsR_asc l n, fun x hx => by simpa using itemsR_mem l n x hx⟩

theorem asc_len {q : List S44} (h : Asc q) (n : Nat) (hm : ∀ x ∈ q, 0 ≤ x.f0 ∧ x.f0 < n) : q.length ≤ n := by
  have hg : ∀ j (hj : j < q.length), (j : Int) ≤ q[j].f0 := by
    intro j
    induction j with
    | zero => intro hj; exact (hm _ (List.getElem_mem hj)).1
    | succ j ih =>
      intro hj
      have h1 := ih (by omega)
      have h2 := List.pairwise_iff_getElem.1 h j (j + 1) (by omega) hj (by omega)
      omega
  by_cases h0 : q.length = 0
  · omega
  · have h1 := hg (q.length - 1) (by omega)
    have h2 := (hm _ (List.getElem_mem (show q.length - 1 < q.length by omega))).2
    omega

theorem inv_sane {l : List Int} {n i : Nat} {q : List S44} (h : Inv l n i q) (hn : n ≤ 16) (hi : i ≤ 1000) (hc : ∀ j : Nat, j < n → classS (rd l (j : Int)) ≠ 4) : saneQ q 1000 = true := by
  have hlen := asc_len h.asc n (fun x hx => ⟨(h.mem x hx).1, (h.mem x hx).2.1⟩)
  refine (saneQ_iff q 1000).2 ⟨fun x hx => ?_, asc_nodup h.asc, by decide, by decide, by omega⟩
  obtain ⟨h1, h2, h3, h4⟩ := h.mem x hx
  have hcx := hc x.f0.toNat (by omega)
  rw [show ((x.f0.toNat : Nat) : Int) = x.f0 by omega, ← h3] at hcx
  unfold soundQ
  simp only [Bool.and_eq_true, decide_eq_true_eq, bne_iff_ne, ne_eq]
  exact ⟨h1, by omega, by omega, hcx⟩

theorem inv_u {l : List Int} {n i : Nat} {q : List S44} (h : Inv l n i q) (hu : ∀ j : Nat, j < n → inU (rd l (j : Int)) = true) : ∀ x ∈ q, inU x.f1 = true := by
  intro x hx
  obtain ⟨h1, h2, h3, h4⟩ := h.mem x hx
  have := hu x.f0.toNat (by omega)
  rw [show ((x.f0.toNat : Nat) : Int) = x.f0 by omega, ← h3] at this
  exact this

theorem add_item (l : List Int) (i : Nat) (hi : i < 16) (hc : ∀ j : Nat, j < i + 1 → classS (rd l (j : Int)) ≠ 4) : addQ (itemsR l i) 1000 (i : Int) (rd l (i : Int)) = (itemsR l (i + 1), 1000, 0) := by
  have hs := inv_sane (inv_start l i) (by omega) (by omega) (fun j hj => hc j (by omega))
  have hc' := hc i (by omega)
  have hso : soundQ ⟨(i : Int), rd l (i : Int), 0⟩ = true := by
    unfold soundQ
    simp only [Bool.and_eq_true, decide_eq_true_eq, bne_iff_ne, ne_eq]
    exact ⟨by omega, by omega, by decide, hc'⟩
  have hni : ¬ (i : Int) ∈ (itemsR l i).map (·.f0) := by
    intro hm
    obtain ⟨x, hx, he⟩ := List.mem_map.1 hm
    have := (itemsR_mem l i x hx).2.1
    omega
  unfold addQ
  rw [hs, hso, if_pos (by decide), if_neg hni, itemsR_snoc]

/-- One pick. -/
theorem inv_pick {l : List Int} {n i : Nat} {q : List S44} (h : Inv l n i q) (hn : n ≤ 16) (hi : i ≤ 20) (hc : ∀ j : Nat, j < n → classS (rd l (j : Int)) ≠ 4) :
    (q = [] ∧ pickQ q 1000 (allR n) = ([], 0, 0, 6)) ∨
    ∃ (q' : List S44) (s : Int), pickQ q 1000 (allR n) = (q', 1000, s, 0) ∧ q'.length + 1 = q.length ∧ Inv l n (i + 1) q' ∧ (∃ x ∈ q, x.f0 = s) ∧ 0 ≤ s ∧ s < n ∧
      (∀ x ∈ q', keyS x.f1 < keyS (rd l s) ∨ (keyS x.f1 = keyS (rd l s) ∧ s < x.f0)) ∧ ∀ x ∈ q', ∃ y ∈ q, y.f0 = x.f0 := by
  have hs := inv_sane h hn (by omega) hc
  have hR : ∀ x ∈ q, isR (allR n) x = true := by
    intro x hx
    obtain ⟨h1, h2, _⟩ := h.mem x hx
    unfold isR
    rw [decide_eq_true_eq]
    exact (allR_mem n _).2 ⟨h1, h2⟩
  rcases pick_cases q 1000 (allR n) hs with ⟨h1, h2⟩ | ⟨m, hm, h1, h2, h3⟩
  · left
    refine ⟨?_, h1⟩
    cases q with
    | nil => rfl
    | cons x q =>
      have e1 := h2 x List.mem_cons_self
      rw [hR x List.mem_cons_self] at e1
      cases e1
  · right
    have hqm := h.mem _ (List.getElem_mem hm)
    have hnO : isO (allR n) 1000 q[m] = false := by
      unfold isO
      rw [decide_eq_false (p := (1000 : Int) ≤ q[m].f2) (by omega)]
      simp
    rcases h3 with ⟨h3, _⟩ | ⟨_, h4, h5⟩
    · rw [hnO] at h3; cases h3
    have hb : bump (allR n) q = q.map bump1 := by
      unfold bump
      exact List.map_congr_left (fun x hx => by rw [if_pos (hR x hx)])
    have hbm : ∀ x ∈ q.map bump1, ∃ y ∈ q, x = bump1 y := fun x hx => by
      obtain ⟨y, hy, rfl⟩ := List.mem_map.1 hx
      exact ⟨y, hy, rfl⟩
    rw [hb] at h1
    refine ⟨(q.map bump1).eraseIdx m, q[m].f0, h1, ?_, ⟨?_, ?_⟩, ⟨_, List.getElem_mem hm, rfl⟩, hqm.1, hqm.2.1, ?_, ?_⟩
    · rw [List.length_eraseIdx_of_lt (by simpa using hm), List.length_map]; omega
    · refine List.Pairwise.sublist (List.eraseIdx_sublist _ _) ?_
      rw [List.pairwise_map]
      exact h.asc
    · intro x hx
      obtain ⟨y, hy, rfl⟩ := hbm x (List.mem_of_mem_eraseIdx hx)
      obtain ⟨y1, y2, y3, y4⟩ := h.mem y hy
      exact ⟨y1, y2, y3, by show wrap64 (y.f2 + 1) = _; rw [y4, w64 (by omega) (by omega)]; omega⟩
    · intro x hx
      rw [List.mem_eraseIdx_iff_getElem] at hx
      obtain ⟨j, hj, hjm, rfl⟩ := hx
      have hjq : j < q.length := by simpa using hj
      rw [List.getElem_map]
      show keyS q[j].f1 < _ ∨ (keyS q[j].f1 = _ ∧ q[m].f0 < q[j].f0)
      rw [← hqm.2.2.1]
      by_cases hlt : j < m
      · left; exact h4 j hlt (hR _ (List.getElem_mem _))
      · have h6 := h5 j hjq (hR _ (List.getElem_mem _))
        have h7 := List.pairwise_iff_getElem.1 h.asc m j hm hjq (by omega)
        omega
    · intro x hx
      obtain ⟨y, hy, rfl⟩ := hbm x (List.mem_of_mem_eraseIdx hx)
      exact ⟨y, hy, rfl⟩
theorem key_ev (b : Int) (h : inU b = true) : float_Key.f b = some (keyS b) := by unfold float_Key.f; rw [if_pos h]
theorem class_ev (b : Int) (h : inU b = true) : float_Class.f b = some (classS b) := by unfold float_Class.f; rw [if_pos h]
theorem inv_len {l : List Int} {n i : Nat} {q : List S44} (h : Inv l n i q) : q.length ≤ n := asc_len h.asc n (fun x hx => ⟨(h.mem x hx).1, (h.mem x hx).2.1⟩)
theorem inU_of_wf {x : Int} (h : (Lit.int .u64 x).wf = true) : inU x = true := by
  have h1 : (decide (IntKind.u64.min ≤ x) && decide (x ≤ IntKind.u64.max)) = true := h
  have h2 : IntKind.u64.min = 0 := rfl
  have h3 : IntKind.u64.max = 18446744073709551615 := by decide
  rw [h2, h3] at h1
  unfold inU; simpa using h1
end Go.Proofs.Ytjbdlgjhnldfbaa.Q
