import Derived.Test.YtjbdlgjhnldfbaaY3
import Derived.Test.YtjbdlgjhnldfbaaQ11
import Derived.Test.YtjbdlgjhnldfbaaQ12
namespace Go.Proofs.Ytjbdlgjhnldfbaa.Q
open Go.RowKit Go.Proofs.YtjbdlgjhnldfbaaW Go.Proofs.YtjbdlgjhnldfbaaW.PrintWords Go.Proofs.YtjbdlgjhnldfbaaW.PrintLast Go.Proofs.YtjbdlgjhnldfbaaW.PrintMore
open FL
set_option linter.unusedVariables false
set_option linter.unusedSimpArgs false
theorem and_low_u (X n : Nat) (hX : X < 18446744073709551616) (hn : n ≤ 63) (m : Int) (hm : m = ((2 ^ n - 1 : Nat) : Int)) : Go.bits .and .u64 (X : Int) m = ((X % 2 ^ n : Nat) : Int) := by
  subst hm
  have e : Go.bits .and .u64 (X : Int) ((2 ^ n - 1 : Nat) : Int) = IntKind.u64.wrap (((BitVec.ofInt 64 (X : Int)) &&& (BitVec.ofInt 64 ((2 ^ n - 1 : Nat) : Int))).toNat : Int) := rfl
  have h0 : 2 ^ n ≤ 2 ^ 63 := Nat.pow_le_pow_right (by decide) hn
  rw [p63] at h0
  have h1 : 2 ^ n - 1 < 18446744073709551616 := by omega
  rw [e, BitVec.toNat_and, ofInt_nat X hX, ofInt_nat _ h1, Nat.and_two_pow_sub_one_eq_mod, wrap_u64]
  have h2 : X % 2 ^ n ≤ X := Nat.mod_le _ _
  omega
theorem fraction_eq (x : Int) (h : inU x = true) : Go.bits .and .u64 x 4503599627370495 = x % 4503599627370496 := by
  obtain ⟨X, rfl, hX⟩ := one_nat h
  rw [and_low_u X 52 hX (by decide) _ (by decide), p52]
  omega
theorem exponent_eq (x : Int) (h : inU x = true) : Go.bits .and .u64 (x / 4503599627370496) 2047 = x / 4503599627370496 % 2048 := by
  obtain ⟨X, rfl, hX⟩ := one_nat h
  have e : (X : Int) / 4503599627370496 = ((X / 4503599627370496 : Nat) : Int) := by omega
  rw [e, and_low_u (X / 4503599627370496) 11 (by omega) (by decide) _ (by decide), show (2 : Nat) ^ 11 = 2048 by decide]
  omega
theorem class_ref (x : Int) (h : inU x = true) : heronryref02_Class.f x = some (classS x) := by
  unfold heronryref02_Class.f heronryref02_exponent.f heronryref02_fraction.f
  simp only [Option.bind_some]
  rw [exponent_eq x h, fraction_eq x h]
  have hu := (inU_iff x).1 h
  unfold classS isNaN
  simp only [decide_eq_true_eq]
  by_cases c4 : 9218868437227405312 < x % 9223372036854775808
  · rw [if_pos c4, if_neg (by omega), if_pos (by omega), if_neg (by omega)]
  · rw [if_neg c4]
    by_cases c3 : x % 9223372036854775808 = 9218868437227405312
    · rw [if_pos c3, if_neg (by omega), if_pos (by omega), if_pos (by omega)]
    · rw [if_neg c3]
      by_cases c0 : x % 9223372036854775808 = 0
      · rw [if_pos c0, if_pos (by omega), if_pos (by omega)]
      · rw [if_neg c0]
        by_cases c1 : x % 9223372036854775808 < 4503599627370496
        · rw [if_pos c1, if_pos (by omega), if_neg (by omega)]
        · rw [if_neg c1, if_neg (by omega), if_neg (by omega)]
def toS (x : S43) : S44 := ⟨x.f0, x.f1, x.f2⟩
theorem rd43_at (l : List S43) (k : Nat) (hk : k < l.length) : rd_T43 l (k : Int) = l[k] := by
  unfold rd_T43; simp [List.getD_eq_getElem?_getD, List.getElem?_eq_getElem hk]
theorem ours_go (q : List S43) (e : Int) (hq : q.length < 1000000) : ∀ (n i : Nat), i + n = q.length → Evals (fun k => heronrylaw21_ours.l0 k (i : Int) q e ((q.take i).map toS) e) (q.map toS, e)
  | 0, i, hi => Evals.succ (Evals.of (fun k => by rw [heronrylaw21_ours.l0, if_neg (by omega), List.take_of_length_le (by omega)]))
  | n + 1, i, hi => by
    refine Evals.succ (Evals.congr (fun k => ?_) (ours_go q e hq n (i + 1) (by omega)))
    have hlen : ((q.take i).map toS).length = i := by rw [List.length_map, List.length_take]; omega
    rw [heronrylaw21_ours.l0, if_pos (by omega), if_pos (by omega), if_pos (by omega), w64 (by omega) (by omega), List.take_succ_eq_append_getElem (show i < q.length by omega), List.map_append, rd43_at q i (by omega)]
    rfl
theorem ours_ev (q : List S43) (e : Int) (hq : q.length < 1000000) : Evals (fun k => heronrylaw21_ours.f k q e) (q.map toS, e) := ours_go q e hq q.length 0 (by omega)
theorem one_ev (x : S43) (hU : inU x.f1 = true) : heronryref21_one.f x.f0 x.f1 x.f2 = some (soundQ (toS x)) := by
  unfold heronryref21_one.f soundQ toS
  rw [class_ref _ hU]
  by_cases h1 : x.f0 ≥ 0
  · rw [if_pos h1]
    have h1' : (0 : Int) ≤ x.f0 := h1
    by_cases h2 : x.f0 ≤ 15
    · have h2' : x.f0 < 16 := by omega
      rw [if_pos h2, Option.bind_some]
      by_cases h4 : classS x.f1 = 4
      · rw [if_pos h4]; simp [h4]
      · rw [if_neg h4]; simp [h1', h2', h4]
    · have h2' : ¬ x.f0 < 16 := by omega
      rw [if_neg h2]; simp [h2']
  · rw [if_neg h1]; have : ¬ (0 : Int) ≤ x.f0 := h1; simp [this]
theorem find_go (q : List S43) (s : Int) (hq : q.length < 1000000) : ∀ (n i : Nat), i + n = q.length → (∀ j (hj : j < q.length), j < i → q[j].f0 ≠ s) →
    Evals (fun k => heronryref21_find.l0 k q s (i : Int)) (ixOf (fun y : S44 => y.f0 == s) (q.map toS))
  | 0, i, hi, hb => by
    have h : ixOf (fun y : S44 => y.f0 == s) (q.map toS) = -1 := by
      rcases ixOf_cases (fun y : S44 => y.f0 == s) (q.map toS) with ⟨h, _⟩ | ⟨k, hk, _, h2, _⟩
      · exact h
      · simp only [List.length_map] at hk
        simp only [List.getElem_map, beq_iff_eq] at h2
        exact absurd h2 (hb k hk (by omega))
    rw [h]
    exact Evals.succ (Evals.of (fun k => by rw [heronryref21_find.l0, if_neg (by omega)]))
  | n + 1, i, hi, hb => by
    have hi' : i < q.length := by omega
    by_cases e : q[i].f0 = s
    · have h : ixOf (fun y : S44 => y.f0 == s) (q.map toS) = (i : Int) := by
        refine ixOf_at _ _ i (by simpa using hi') (by simp [toS, e]) (fun j hj => ?_)
        have := hb j (by omega) hj
        simp [toS, this]
      rw [h]
      exact Evals.succ (Evals.of (fun k => by rw [heronryref21_find.l0, if_pos (by omega), if_pos (by omega), rd43_at q i hi', if_pos e]))
    · refine Evals.succ (Evals.congr (fun k => ?_) (find_go q s hq n (i + 1) (by omega) (fun j hj hji => ?_)))
      · rw [heronryref21_find.l0, if_pos (by omega), if_pos (by omega), rd43_at q i hi', if_neg e, w64 (by omega) (by omega)]; rfl
      · by_cases hj2 : j = i
        · subst hj2; exact e
        · exact hb j hj (by omega)
theorem find_ev (q : List S43) (s : Int) (hq : q.length < 1000000) : Evals (fun k => heronryref21_find.f k q s) (ixOf (fun y : S44 => y.f0 == s) (q.map toS)) :=
  find_go q s hq q.length 0 (by omega) (fun j hj h => by omega)
theorem rsane_go (q : List S43) (e : Int) (hU : ∀ x ∈ q, inU x.f1 = true) (hq : q.length < 1000000) (he : (decide (1 ≤ e) && (decide (e ≤ 1000) && decide (q.length ≤ 64))) = true) : ∀ (n i : Nat), i + n = q.length → (∀ j, j < i → goodQ (q.map toS) j = true) →
    Evals (fun k => heronryref21_Sane.l0 k (i : Int) q e) (saneQ (q.map toS) e)
  | 0, i, hi, hg => by
    have h : saneQ (q.map toS) e = true := by
      unfold saneQ
      rw [List.length_map, he, Bool.and_true, List.all_eq_true]
      intro j hj
      exact hg j (by rw [List.mem_range] at hj; omega)
    rw [h]
    exact Evals.succ (Evals.of (fun k => by rw [heronryref21_Sane.l0, if_neg (by omega)]))
  | n + 1, i, hi, hg => by
    have hi' : i < q.length := by omega
    have hone := one_ev q[i] (hU _ (List.getElem_mem hi'))
    have hgi : goodQ (q.map toS) i = (soundQ (toS q[i]) && (ixOf (fun y : S44 => y.f0 == q[i].f0) (q.map toS) == (i : Int))) := by
      unfold goodQ
      rw [List.getElem?_eq_getElem (by simpa using hi')]
      simp only [List.getElem_map]
      rfl
    have hbad : goodQ (q.map toS) i = false → saneQ (q.map toS) e = false := by
      intro h
      unfold saneQ
      have : (List.range (q.map toS).length).all (goodQ (q.map toS)) = false := by
        rw [List.all_eq_false]
        exact ⟨i, by simpa using hi', by rw [h]; decide⟩
      rw [this, Bool.false_and]
    cases hs : soundQ (toS q[i]) with
    | false =>
      rw [hbad (by rw [hgi, hs, Bool.false_and])]
      exact Evals.succ (Evals.of (fun k => by rw [heronryref21_Sane.l0, if_pos (by omega), if_pos (by omega), rd43_at q i hi', hone, Option.bind_some, hs, if_neg (by decide)]))
    | true =>
      refine Evals.succ (Evals.congr (h := fun k => (heronryref21_find.f k q q[i].f0).bind fun t => (if t = (i : Int) then heronryref21_Sane.l0 k (wrap64 ((i : Int) + 1)) q e else some false)) (fun k => by rw [heronryref21_Sane.l0, if_pos (by omega), if_pos (by omega), rd43_at q i hi', hone, Option.bind_some, hs, if_pos rfl]) ?_)
      refine Evals.bind (find_ev q q[i].f0 hq) ?_
      by_cases hx : ixOf (fun y : S44 => y.f0 == q[i].f0) (q.map toS) = (i : Int)
      · refine Evals.congr (fun k => ?_) (rsane_go q e hU hq he n (i + 1) (by omega) (fun j hj => ?_))
        · rw [if_pos hx, w64 (by omega) (by omega)]; rfl
        · by_cases hj2 : j = i
          · subst hj2; rw [hgi, hs, hx]; simp
          · exact hg j (by omega)
      · rw [hbad (by rw [hgi, hs, Bool.true_and]; simpa using hx)]
        exact Evals.of (fun k => by rw [if_neg hx])
theorem rsane_ev (q : List S43) (e : Int) (hU : ∀ x ∈ q, inU x.f1 = true) (hq : q.length < 1000000) : Evals (fun k => heronryref21_Sane.f k q e) (saneQ (q.map toS) e) := by
  have hno : (decide (1 ≤ e) && (decide (e ≤ 1000) && decide (q.length ≤ 64))) = false → saneQ (q.map toS) e = false := by
    intro h; unfold saneQ; rw [List.length_map, h, Bool.and_false]
  by_cases h1 : e < 1
  · rw [hno (by simp; omega)]
    exact Evals.congr (h := fun k => heronryref21_Sane.j0 k true q e) (fun k => by unfold heronryref21_Sane.f; rw [if_pos h1]) (Evals.succ (Evals.of (fun k => by rw [heronryref21_Sane.j0, if_pos rfl])))
  by_cases h2 : e > 1000
  · rw [hno (by simp; omega)]
    exact Evals.congr (h := fun k => heronryref21_Sane.j0 k true q e) (fun k => by unfold heronryref21_Sane.f; rw [if_neg h1, if_pos h2]) (Evals.succ (Evals.of (fun k => by rw [heronryref21_Sane.j0, if_pos rfl])))
  refine Evals.congr (h := fun k => heronryref21_Sane.j0 k (decide ((q.length : Int) > 64)) q e) (fun k => by unfold heronryref21_Sane.f; rw [if_neg h1, if_neg h2]) (Evals.succ ?_)
  by_cases h3 : (q.length : Int) > 64
  · rw [hno (by simp; omega)]
    exact Evals.of (fun k => by rw [heronryref21_Sane.j0, if_pos (decide_eq_true h3)])
  · refine Evals.congr (fun k => ?_) (rsane_go q e hU hq (by simp; omega) q.length 0 (by omega) (fun j hj => by omega))
    rw [heronryref21_Sane.j0, if_neg (by simpa using h3)]; rfl
end Go.Proofs.Ytjbdlgjhnldfbaa.Q
