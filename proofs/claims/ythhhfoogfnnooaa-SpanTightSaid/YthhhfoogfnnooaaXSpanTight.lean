/- SpanTight: at every input the law returns true and its arguments read as before. No condition. -/
import Derived.Test.YthhhfoogfnnooaaQ8
import Derived.Test.YthhhfoogfnnooaaY0
import Derived.Test.YthhhfoogfnnooaaFSpanTight
namespace Go.Proofs.Ythhhfoogfnnooaa.Q
open Go.RowKit Go.Proofs.YthhhfoogfnnooaaW Go.Proofs.YthhhfoogfnnooaaW.PrintWords Go.Proofs.YthhhfoogfnnooaaW.PrintLast Go.Proofs.YthhhfoogfnnooaaW.PrintMore
set_option linter.unusedVariables false

theorem small_lt (n : Nat) (h : n ≤ 1000) : n < 17592186044416 := Nat.lt_of_le_of_lt h (by decide)
theorem sum_eq {l : List Int} (hl : l.all inR = true) (hn : l.length ≤ 4096) : span_Sum.f l = some (toldOf (sumBy id l)) := by
  unfold span_Sum.f
  rw [if_pos hl, if_neg (by omega)]

theorem tight_end (v : Int) (l low high : List Int) (a b : Int) (hv : inR v = true) (hl : l.all inR = true) (hn : l.length ≤ 100) (h1 : sumBy id low = lowOf v l) (h2 : sumBy id high = highOf v l) (h3 : low.all inR = true) (h4 : high.all inR = true) (h5 : low.length ≤ 101) (h6 : high.length ≤ 101) (k : Nat) (i : Int) (hi : ¬ i < (l.length : Int)) :
    heronrylaw12_SpanTight.l0 (k + 2) v l true low high i a b = some true := by
  simp only [heronrylaw12_SpanTight.l0]
  rw [if_neg hi, sum_eq h3 (by omega), sum_eq h4 (by omega), reach_eq hv hl (by omega), h1, h2]
  simp only [Option.bind_some, heronrylaw12_SpanTight.j1, heronrylaw12_ours.f, fits_eq hv hl (show l.length ≤ 4096 by omega)]
  unfold toldOf fitsB
  cases i1 : inR (lowOf v l) <;> cases i2 : inR (highOf v l) <;> simp
  have hle : lowOf v l ≤ highOf v l := by
    have : ∀ m : List Int, sumBy (fun x => mn x 0) m ≤ sumBy (fun x => mx x 0) m := by
      intro m
      induction m with
      | nil => simp [sumBy]
      | cons x m ih =>
        rw [sumBy_cons, sumBy_cons]
        have : mn x 0 ≤ mx x 0 := by unfold mn mx; split <;> split <;> omega
        omega
    have := this l
    unfold lowOf highOf; omega
  by_cases ha : a ≤ lowOf v l
  · rw [if_pos ha]
    by_cases hb : highOf v l ≤ b
    · simp [ha, hb]; omega
    · simp [ha, hb]
  · rw [if_neg ha]
    simp [ha]

theorem tight_loop (v : Int) (l : List Int) (a b : Int) (hv : inR v = true) (hl : l.all inR = true) (hn : l.length ≤ 100) (d : Nat) : ∀ (k i : Nat) (low high : List Int), i + d = l.length → d + 1 < k → sumBy id low = lowOf v (l.take i) → sumBy id high = highOf v (l.take i) → low.all inR = true → high.all inR = true → low.length ≤ i + 1 → high.length ≤ i + 1 →
    heronrylaw12_SpanTight.l0 k v l true low high i a b = some true := by
  induction d with
  | zero =>
    intro k i low high hi hk h1 h2 h3 h4 h5 h6
    obtain ⟨k, rfl⟩ : ∃ m, k = m + 2 := ⟨k - 2, by omega⟩
    rw [List.take_of_length_le (by omega)] at h1 h2
    exact tight_end v l low high a b hv hl hn h1 h2 h3 h4 (by omega) (by omega) k i (by omega)
  | succ d ih =>
    intro k i low high hi hk h1 h2 h3 h4 h5 h6
    have h1' := Aside0.mk h1
    have h2' := Aside0.mk h2
    clear h1 h2
    obtain ⟨k, rfl⟩ : ∃ m, k = m + 1 := ⟨k - 1, by omega⟩
    have g1 := small_lt low.length (by omega)
    have g2 := small_lt high.length (by omega)
    have n1 : i + 1 + d = l.length := by omega
    have n2 : d + 1 < k := by omega
    have p1 : (i : Int) < (l.length : Int) := by omega
    have p2 : (0 : Int) ≤ (i : Int) := by omega
    have hlt : i < l.length := by omega
    have q1 : ∀ x, (low ++ [x]).length ≤ i + 1 + 1 := fun x => by simp; omega
    have q2 : ∀ x, (high ++ [x]).length ≤ i + 1 + 1 := fun x => by simp; omega
    have q3 : low.length ≤ i + 1 + 1 := by omega
    have q4 : high.length ≤ i + 1 + 1 := by omega
    have hrd : rd l i = l[i] := by simp [rd, List.getD_eq_getElem?_getD, List.getElem?_eq_getElem hlt]
    have hx : inR l[i] = true := List.all_eq_true.1 hl _ (List.getElem_mem hlt)
    have w1 : wrap64 ((i : Int) + 1) = ((i + 1 : Nat) : Int) := by unfold wrap64; omega
    have s1 : lowOf v (l.take (i + 1)) = lowOf v (l.take i) + mn l[i] 0 := by
      unfold lowOf; rw [List.take_succ_eq_append_getElem hlt, sumBy_append, sumBy_cons, sumBy_nil, Int.add_zero, Int.add_assoc]
    have s2 : highOf v (l.take (i + 1)) = highOf v (l.take i) + mx l[i] 0 := by
      unfold highOf; rw [List.take_succ_eq_append_getElem hlt, sumBy_append, sumBy_cons, sumBy_nil, Int.add_zero, Int.add_assoc]
    have a1 : ∀ m : List Int, sumBy id (m ++ [l[i]]) = sumBy id m + l[i] := fun m => by rw [sumBy_append, sumBy_cons, sumBy_nil]; simp
    have a2 : ∀ m : List Int, m.all inR = true → (m ++ [l[i]]).all inR = true := fun m hm => by rw [List.all_append, hm]; simpa using hx
    simp only [heronrylaw12_SpanTight.l0]
    rw [if_pos p1, if_pos p2, hrd, w1]
    by_cases h0 : l[i] < 0
    · have m1 : mn l[i] 0 = l[i] := by unfold mn; rw [if_neg (Int.not_lt.2 (Int.le_of_lt h0))]
      have m2 : mx l[i] 0 = 0 := by unfold mx; rw [if_pos h0]
      rw [if_pos h0, if_pos g1]
      exact ih k (i + 1) _ _ n1 n2 (by rw [a1, s1, m1, h1'.out]) (by rw [s2, m2, h2'.out, Int.add_zero]) (a2 _ h3) h4 (q1 _) q4
    · have m1 : mn l[i] 0 = 0 := by
        unfold mn; split
        · rfl
        · rename_i h; exact Int.le_antisymm (Int.not_lt.1 h) (Int.not_lt.1 h0)
      have m2 : mx l[i] 0 = l[i] := by unfold mx; rw [if_neg h0]
      rw [if_neg h0, if_pos g2]
      exact ih k (i + 1) _ _ n1 n2 (by rw [s1, m1, h1'.out, Int.add_zero]) (by rw [a1, s2, m2, h2'.out]) h3 (a2 _ h4) q3 (q2 _)

theorem tight_pure (v : Int) (l : List Int) (a b : Int) (hv : inR v = true) (hl : l.all inR = true) : heronrylaw12_SpanTight.f 200 v l a b = some true := by
  unfold heronrylaw12_SpanTight.f
  simp only [awake_true, Option.bind_some]
  by_cases h : (l.length : Int) > 100
  · rw [if_pos h]
  · rw [if_neg h, if_pos (small_lt _ (by simp))]
    refine tight_loop v l a b hv hl (by omega) l.length 200 0 _ _ (by omega) (by omega) ?_ ?_ ?_ ?_ (by simp) (by simp)
    · simp [sumBy, lowOf]
    · simp [sumBy, highOf]
    · simp [hv]
    · simp [hv]
end Go.Proofs.Ythhhfoogfnnooaa.Q
namespace Go.Proofs.Ythhhfoogfnnooaa
theorem spanTight_holds : Rows.SpanTightSaid :=
  spanTight.said fun v A c l s w hv hr hc hg _ => Q.heronrylaw12_SpanTight.calls 200 v A c l s.f0 s.f1 true w hr hc (Q.tight_pure v l s.f0 s.f1 (Q.inR_of_wf hv) (Q.all_inR hg))
end Go.Proofs.Ythhhfoogfnnooaa
