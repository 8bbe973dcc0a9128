/- Chapter 21, plain: what Pick answers. No condition. -/
import Derived.Test.YtjbdlgjhnldfbaaY0
import Derived.Test.YtjbdlgjhnldfbaaQ4
namespace Go.Proofs.Ytjbdlgjhnldfbaa.Q
open Go.RowKit Go.Proofs.YtjbdlgjhnldfbaaW Go.Proofs.YtjbdlgjhnldfbaaW.PrintWords Go.Proofs.YtjbdlgjhnldfbaaW.PrintLast Go.Proofs.YtjbdlgjhnldfbaaW.PrintMore
open FL
set_option linter.unusedVariables false

theorem rdi_at (l : List Int) (k : Nat) (hk : k < l.length) : rd l (k : Int) = l[k] := by
  simp [rd, List.getD_eq_getElem?_getD, List.getElem?_eq_getElem hk]

theorem index_loop (l : List Int) (s : Int) (hl : l.length < 9223372036854775807) (d : Nat) : ∀ i : Nat, i + d = l.length → (∀ j (hj : j < l.length), j < i → l[j] ≠ s) →
    ∃ r, Evals (fun k => slices_Index_int_int.l0 k l s (l.length : Int) (i : Int)) r ∧ (r ≥ 0 ↔ s ∈ l) := by
  induction d with
  | zero =>
    intro i hi hg
    refine ⟨-1, Evals.succ (Evals.of fun k => ?_), ?_⟩
    · have h0 : ¬ (i : Int) < (l.length : Int) := by omega
      simp only [slices_Index_int_int.l0]
      rw [if_neg h0]
    · constructor
      · intro h; omega
      · intro h
        obtain ⟨j, hj, rfl⟩ := List.mem_iff_getElem.1 h
        exact absurd rfl (hg j hj (by omega))
  | succ d ih =>
    intro i hi hg
    have hlt : i < l.length := by omega
    have hx := rdi_at l i hlt
    have h0 : (i : Int) < (l.length : Int) := by omega
    have h1 : (0 : Int) ≤ (i : Int) := by omega
    by_cases c : s = l[i]
    · refine ⟨(i : Int), Evals.succ (Evals.of fun k => ?_), ?_⟩
      · simp only [slices_Index_int_int.l0]
        rw [if_pos h0, if_pos h1, if_pos h0, hx, if_pos c]
      · exact ⟨fun _ => by rw [c]; exact List.getElem_mem hlt, fun _ => h1⟩
    · obtain ⟨r, hr, hs⟩ := ih (i + 1) (by omega) (fun j hj hji => by
        by_cases he : j = i
        · subst he; exact fun h => c h.symm
        · exact hg j hj (by omega))
      refine ⟨r, Evals.succ (Evals.congr (fun k => ?_) hr), hs⟩
      simp only [slices_Index_int_int.l0]
      rw [if_pos h0, if_pos h1, if_pos h0, hx, if_neg c, w64 (by omega) (by omega)]
      rfl
theorem contains_ev (l : List Int) (s : Int) (hl : l.length < 9223372036854775807) : Evals (fun k => slices_Contains_int_int.f k l s) (decide (s ∈ l)) := by
  unfold slices_Contains_int_int.f slices_Index_int_int.f
  obtain ⟨r, hr, hs⟩ := index_loop l s hl l.length 0 (by omega) (fun j hj h => by omega)
  refine Evals.bind hr ?_
  rw [show (decide (s ∈ l)) = decide (r ≥ 0) by rw [Bool.eq_iff_iff]; simp only [decide_eq_true_eq]; exact hs.symm]
  exact Evals.const _

/-! ### who is ready -/
def isR (ready : List Int) (x : S44) : Bool := decide (x.f0 ∈ ready)
def isO (ready : List Int) (ev : Int) (x : S44) : Bool := decide (x.f0 ∈ ready) && decide (ev ≤ x.f2)
/-- The places below n at which p holds. -/
def ixs (p : S44 → Bool) (l : List S44) (n : Nat) : List Int := ((List.range n).filter (fun i : Nat => p (rd_T44 l (i : Int)))).map (fun i : Nat => (i : Int))
theorem ixs_snoc (p : S44 → Bool) (l : List S44) (n : Nat) : ixs p l (n + 1) = ixs p l n ++ (if p (rd_T44 l (n : Int)) = true then [(n : Int)] else []) := by
  unfold ixs
  rw [List.range_succ, List.filter_append, List.map_append]
  congr 1
  by_cases h : p (rd_T44 l (n : Int)) = true
  · rw [if_pos h]; simp [h]
  · rw [if_neg h]; simp [h]
theorem ixs_len (p : S44 → Bool) (l : List S44) (n : Nat) : (ixs p l n).length ≤ n := by
  unfold ixs
  rw [List.length_map]
  exact Nat.le_trans (List.length_filter_le _ _) (by simp)
theorem ixs_mem (p : S44 → Bool) (l : List S44) (n : Nat) (x : Int) (h : x ∈ ixs p l n) : 0 ≤ x ∧ x < n ∧ p (rd_T44 l x) = true := by
  unfold ixs at h
  obtain ⟨i, hi, rfl⟩ := List.mem_map.1 h
  rw [List.mem_filter, List.mem_range] at hi
  exact ⟨by omega, by omega, hi.2⟩

def bump1 (x : S44) : S44 := ⟨x.f0, x.f1, wrap64 (x.f2 + 1)⟩
def bump (ready : List Int) (l : List S44) : List S44 := l.map (fun x => if isR ready x = true then bump1 x else x)
def bstep (m : List S44) (x : Int) : List S44 := m.set x.toNat (bump1 (rd_T44 m x))

theorem bump_fold (ready : List Int) (l : List S44) (n : Nat) (hn : n ≤ l.length) : (ixs (isR ready) l n).foldl bstep l = bump ready (l.take n) ++ l.drop n := by
  induction n with
  | zero => simp [ixs, bump]
  | succ n ih =>
    have hlt : n < l.length := by omega
    have hx := rd_at l n hlt
    rw [ixs_snoc, List.foldl_append, ih (by omega), List.take_succ_eq_append_getElem hlt]
    have hb : bump ready (l.take n ++ [l[n]]) = bump ready (l.take n) ++ [if isR ready l[n] = true then bump1 l[n] else l[n]] := by
      unfold bump; rw [List.map_append]; rfl
    have hlen : (bump ready (l.take n)).length = n := by unfold bump; rw [List.length_map, List.length_take]; omega
    rw [hb, hx]
    have hd : l.drop n = l[n] :: l.drop (n + 1) := List.drop_eq_getElem_cons hlt
    by_cases c : isR ready l[n] = true
    · rw [if_pos c, if_pos c]
      simp only [List.foldl_cons, List.foldl_nil]
      unfold bstep
      have hr : rd_T44 (bump ready (l.take n) ++ l.drop n) (n : Int) = l[n] := by
        have h2 : n < (bump ready (l.take n) ++ l.drop n).length := by rw [List.length_append, hlen, List.length_drop]; omega
        rw [rd_at _ n h2, List.getElem_append_right (by omega)]
        simp [hlen]
      rw [hr, Int.toNat_natCast, List.set_append_right _ _ (by omega), hlen, Nat.sub_self, hd, List.set_cons_zero, List.append_assoc]
      rfl
    · rw [if_neg c, if_neg c, hd, List.append_assoc]
      rfl

theorem bump_len (ready : List Int) (l : List S44) : (bump ready l).length = l.length := by unfold bump; rw [List.length_map]

/-! ### Pick -/
def cW (l : List S44) (a b : Int) : Int := cmpS (rd_T44 l a).f2 (rd_T44 l b).f2
def cK (l : List S44) (a b : Int) : Int := cmpS (keyS (rd_T44 l a).f1) (keyS (rd_T44 l b).f1)
def atQ (l : List S44) (ev : Int) (ready : List Int) : Int :=
  if bestBy (cW l) (ixs (isO ready ev) l l.length) < 0 then bestBy (cK l) (ixs (isR ready) l l.length) else bestBy (cW l) (ixs (isO ready ev) l l.length)
def pickQ (l : List S44) (ev : Int) (ready : List Int) : List S44 × Int × Int × Int :=
  if saneQ l ev = true then (if atQ l ev ready < 0 then ([], 0, 0, 6) else ((bump ready l).eraseIdx (atQ l ev ready).toNat, ev, (rd_T44 l (atQ l ev ready)).f0, 0)) else ([], 0, 0, 1)

theorem bestBy_range (cf : Int → Int → Int) (xs : List Int) (n : Nat) (h : ∀ x ∈ xs, 0 ≤ x ∧ x < n) : bestBy cf xs = -1 ∨ (0 ≤ bestBy cf xs ∧ bestBy cf xs < n) := by
  unfold bestBy
  by_cases h0 : xs.length = 0
  · rw [if_pos h0]; exact .inl rfl
  · rw [if_neg h0]; exact .inr (maxBy_mem cf (fun x => 0 ≤ x ∧ x < n) xs (by omega) h)

theorem pick_l1 (l : List S44) (ev : Int) (ready : List Int) (at_ : Int) (ha : 0 ≤ at_ ∧ at_ < l.length) (hl : l.length < 1000000) (ks : List Int) (hk : ∀ x ∈ ks, 0 ≤ x ∧ x < l.length) (hkl : ks.length < 1000000) (d : Nat) : ∀ i : Nat, i + d = ks.length → ∀ m : List S44, m.length = l.length → m = (ks.take i).foldl bstep l →
    Evals (fun k => sched_Pick.l1 k at_ ks (ks.length : Int) (i : Int) l ev m ev) ((ks.foldl bstep l).eraseIdx at_.toNat, ev, (rd_T44 l at_).f0, 0) := by
  induction d with
  | zero =>
    intro i hi m hm he
    rw [List.take_of_length_le (by omega)] at he
    refine Evals.succ (Evals.of fun k => ?_)
    have h0 : ¬ (i : Int) < (ks.length : Int) := by omega
    have h1 : 0 ≤ at_ ∧ at_ < (m.length : Int) ∧ m.length < 5864062014805 := ⟨ha.1, by omega, by omega⟩
    simp only [sched_Pick.l1]
    rw [if_neg h0]
    unfold sched_Queue_without.f
    rw [if_pos h1]
    simp only [Option.bind_some]
    rw [if_pos ha.1, if_pos ha.2, ← he]
  | succ d ih =>
    intro i hi m hm he
    have hlt : i < ks.length := by omega
    have hx := rdi_at ks i hlt
    have h0 : (i : Int) < (ks.length : Int) := by omega
    have h1 : (0 : Int) ≤ (i : Int) := by omega
    obtain ⟨k1, k2⟩ := hk _ (List.getElem_mem hlt)
    have k3 : ks[i] < (m.length : Int) := by omega
    refine Evals.succ ?_
    simp only [sched_Pick.l1, if_pos h0, if_pos h1, hx, if_pos k1, if_pos k3]
    rw [w64 (by omega) (by omega), show ((i : Int) + 1) = ((i + 1 : Nat) : Int) by omega]
    refine ih (i + 1) (by omega) _ (by rw [List.length_set]; exact hm) ?_
    rw [List.take_succ_eq_append_getElem hlt, List.foldl_append, ← he]
    rfl

theorem pick_l0 (l : List S44) (ev : Int) (ready : List Int) (hU : ∀ x ∈ l, inU x.f1 = true) (hl : l.length < 1000000) (hr : ready.length < 1000000) (hs : saneQ l ev = true) (d : Nat) : ∀ i : Nat, i + d = l.length →
    Evals (fun k => sched_Pick.l0 k ready (ixs (isR ready) l i) (ixs (isO ready ev) l i) l (l.length : Int) (i : Int) l ev) (pickQ l ev ready) := by
  induction d with
  | zero =>
    intro i hi
    obtain rfl : i = l.length := by omega
    have h0 : ¬ (l.length : Int) < (l.length : Int) := by omega
    have m1 : ∀ x ∈ ixs (isO ready ev) l l.length, 0 ≤ x ∧ x < l.length := fun x hx => ⟨(ixs_mem _ _ _ x hx).1, (ixs_mem _ _ _ x hx).2.1⟩
    have m2 : ∀ x ∈ ixs (isR ready) l l.length, 0 ≤ x ∧ x < l.length := fun x hx => ⟨(ixs_mem _ _ _ x hx).1, (ixs_mem _ _ _ x hx).2.1⟩
    have m3 : ∀ x ∈ ixs (isR ready) l l.length, (0 ≤ x ∧ x < l.length) ∧ inU (rd_T44 l x).f1 = true := by
      intro x hx
      refine ⟨m2 x hx, ?_⟩
      obtain ⟨k, rfl⟩ : ∃ k : Nat, x = k := ⟨x.toNat, by have := (m2 x hx).1; omega⟩
      have hk : k < l.length := by have := (m2 _ hx).2; omega
      rw [rd_at l k hk]
      exact hU _ (List.getElem_mem hk)
    refine Evals.succ ?_
    simp only [sched_Pick.l0, if_neg h0]
    have b1 : best34.f l (ixs (isO ready ev) l l.length) = some (bestBy (cW l) (ixs (isO ready ev) l l.length)) := by unfold best34.f; rw [if_pos m1]; rfl
    have b2 : best36.f l (ixs (isR ready) l l.length) = some (bestBy (cK l) (ixs (isR ready) l l.length)) := by unfold best36.f; rw [if_pos m3]; rfl
    simp only [b1, b2, Option.bind_some]
    have hj : ∀ a : Int, (a < 0 ∨ 0 ≤ a ∧ a < l.length) → Evals (fun k => sched_Pick.j1 k (ixs (isR ready) l l.length) a l ev) (if a < 0 then ([], 0, 0, 6) else ((bump ready l).eraseIdx a.toNat, ev, (rd_T44 l a).f0, 0)) := by
      intro a ha
      refine Evals.succ ?_
      simp only [sched_Pick.j1]
      by_cases h : a < 0
      · simp only [if_pos h]; exact Evals.const _
      · simp only [if_neg h]
        have hlm : l.length < 5864062014805 := by omega
        unfold sched_Req.f
        simp only [if_pos hlm, Option.bind_some]
        have hlen := ixs_len (isR ready) l l.length
        have := pick_l1 l ev ready a (by omega) hl (ixs (isR ready) l l.length) m2 (by omega) (ixs (isR ready) l l.length).length 0 (by omega) l rfl rfl
        rw [bump_fold ready l l.length (Nat.le_refl _), List.take_length, List.drop_length, List.append_nil] at this
        exact this
    have r1 := bestBy_range (cW l) _ l.length m1
    have r2 := bestBy_range (cK l) _ l.length m2
    unfold pickQ
    rw [if_pos hs]
    unfold atQ
    by_cases h : bestBy (cW l) (ixs (isO ready ev) l l.length) < 0
    · simp only [if_pos h]
      exact hj _ (by omega)
    · simp only [if_neg h]
      have := hj (bestBy (cW l) (ixs (isO ready ev) l l.length)) (by omega)
      simp only [if_neg h] at this
      exact this
  | succ d ih =>
    intro i hi
    have hlt : i < l.length := by omega
    have hx := rd_at l i hlt
    have h0 : (i : Int) < (l.length : Int) := by omega
    have h1 : (0 : Int) ≤ (i : Int) := by omega
    have i1 := ixs_len (isR ready) l i
    have i2 := ixs_len (isO ready ev) l i
    have lm1 : (ixs (isR ready) l i).length < 17592186044416 := by omega
    have lm2 : (ixs (isO ready ev) l i).length < 17592186044416 := by omega
    have hih := ih (i + 1) (by omega)
    rw [ixs_snoc, ixs_snoc, show (((i + 1 : Nat) : Int)) = (i : Int) + 1 by omega, hx] at hih
    refine Evals.succ ?_
    simp only [sched_Pick.l0, if_pos h0, if_pos h1, hx]
    refine Evals.bind (contains_ev ready l[i].f0 (by omega)) ?_
    rw [w64 (by omega) (by omega)]
    have e1 : isR ready l[i] = decide (l[i].f0 ∈ ready) := rfl
    have e2 : isO ready ev l[i] = (decide (l[i].f0 ∈ ready) && decide (ev ≤ l[i].f2)) := rfl
    rw [e1, e2] at hih
    by_cases c : l[i].f0 ∈ ready
    · simp only [decide_eq_true c, if_pos, Option.bind_some, if_pos lm1, Bool.true_and] at hih ⊢
      by_cases c2 : l[i].f2 ≥ ev
      · have c2' : ev ≤ l[i].f2 := c2
        simp only [if_pos c2, if_pos lm2]
        simp only [decide_eq_true c2', if_pos] at hih
        exact hih
      · have c2' : ¬ ev ≤ l[i].f2 := c2
        simp only [if_neg c2]
        simp only [decide_eq_false c2', if_neg (show ¬ (false = true) by decide), List.append_nil] at hih
        exact hih
    · simp only [decide_eq_false c, if_neg (show ¬ (false = true) by decide), Bool.false_and, List.append_nil] at hih ⊢
      exact hih

theorem pick_ev (l : List S44) (ev : Int) (ready : List Int) (hU : ∀ x ∈ l, inU x.f1 = true) (hl : l.length < 1000000) (hr : ready.length < 1000000) : Evals (fun k => sched_Pick.f k l ev ready) (pickQ l ev ready) := by
  unfold sched_Pick.f
  refine Evals.bind (sane_ev l ev hU (by omega)) ?_
  cases hs : saneQ l ev with
  | true =>
    simp only [if_pos]
    have h := pick_l0 l ev ready hU hl hr hs l.length 0 (by omega)
    have z1 : ixs (isR ready) l 0 = [] := rfl
    have z2 : ixs (isO ready ev) l 0 = [] := rfl
    rw [z1, z2] at h
    exact h
  | false =>
    simp only [if_neg (show ¬ (false = true) by decide)]
    unfold pickQ
    rw [hs, if_neg (by decide)]
    exact Evals.const _
end Go.Proofs.Ytjbdlgjhnldfbaa.Q
