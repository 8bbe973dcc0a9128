/- SpanStays: at every input the law returns true and its arguments read as before. No condition. -/
import Derived.Test.YthhhfoogfnnooaaQ3
import Derived.Test.YthhhfoogfnnooaaY0
import Derived.Test.YthhhfoogfnnooaaFSpanStays
namespace Go.Proofs.Ythhhfoogfnnooaa.Q
open Go.RowKit Go.Proofs.YthhhfoogfnnooaaW Go.Proofs.YthhhfoogfnnooaaW.PrintWords Go.Proofs.YthhhfoogfnnooaaW.PrintLast Go.Proofs.YthhhfoogfnnooaaW.PrintMore
set_option linter.unusedVariables false

theorem mn_np (x : Int) : mn x 0 ≤ 0 ∧ mn x 0 ≤ x := by unfold mn; split <;> omega
theorem mx_nn (x : Int) : 0 ≤ mx x 0 ∧ x ≤ mx x 0 := by unfold mx; split <;> omega
theorem sum_mn_np : ∀ l : List Int, sumBy (fun x => mn x 0) l ≤ 0
  | [] => by simp [sumBy]
  | x :: l => by
    have h1 := sum_mn_np l
    have h2 := mn_np x
    rw [sumBy_cons]; generalize sumBy (fun x => mn x 0) l = S at *; omega
theorem sum_mx_nn : ∀ l : List Int, 0 ≤ sumBy (fun x => mx x 0) l
  | [] => by simp [sumBy]
  | x :: l => by
    have h1 := sum_mx_nn l
    have h2 := mx_nn x
    rw [sumBy_cons]; generalize sumBy (fun x => mx x 0) l = S at *; omega

/-- The list, turned. -/
def turned (l : List Int) (K : Nat) : List Int := l.drop K ++ l.take K
theorem turned_length (l : List Int) (K : Nat) : (turned l K).length = l.length := by unfold turned; simp; omega
theorem turned_low (v : Int) (l : List Int) (K : Nat) : lowOf v (turned l K) = lowOf v l := by
  unfold lowOf turned
  conv => rhs; rw [← List.take_append_drop K l]
  rw [sumBy_append, sumBy_append, Int.add_comm (sumBy _ (l.drop K))]
theorem turned_high (v : Int) (l : List Int) (K : Nat) : highOf v (turned l K) = highOf v l := by
  unfold highOf turned
  conv => rhs; rw [← List.take_append_drop K l]
  rw [sumBy_append, sumBy_append, Int.add_comm (sumBy _ (l.drop K))]
theorem turned_at (l : List Int) (K i : Nat) (hK : K < l.length) (hi : i < l.length) : (turned l K)[i]'(by rw [turned_length]; exact hi) = rd l (((i + K) % l.length : Nat) : Int) := by
  have e : rd l (((i + K) % l.length : Nat) : Int) = l[(i + K) % l.length]'(Nat.mod_lt _ (by omega)) := by
    unfold rd
    rw [Int.toNat_natCast, List.getD_eq_getElem?_getD, List.getElem?_eq_getElem (Nat.mod_lt _ (by omega))]
    rfl
  rw [e]
  unfold turned
  by_cases h : i < l.length - K
  · rw [List.getElem_append_left (by simp; omega), List.getElem_drop]
    congr 1
    rw [Nat.mod_eq_of_lt (by omega)]; omega
  · rw [List.getElem_append_right (by simp; omega), List.getElem_take]
    congr 1
    rw [List.length_drop, Nat.mod_eq_sub_mod (by omega), Nat.mod_eq_of_lt (by omega)]; omega
theorem low_take (v : Int) (R : List Int) (i : Nat) : lowOf v R ≤ lowOf v (R.take i) := by
  have h : lowOf v R = lowOf v (R.take i) + sumBy (fun x => mn x 0) (R.drop i) := by
    conv => lhs; rw [← List.take_append_drop i R]
    unfold lowOf; rw [sumBy_append, Int.add_assoc]
  have h2 := sum_mn_np (R.drop i)
  rw [h]
  generalize sumBy (fun x => mn x 0) (R.drop i) = S at *
  generalize lowOf v (R.take i) = L at *
  omega
theorem high_take (v : Int) (R : List Int) (i : Nat) : highOf v (R.take i) ≤ highOf v R := by
  have h : highOf v R = highOf v (R.take i) + sumBy (fun x => mx x 0) (R.drop i) := by
    conv => lhs; rw [← List.take_append_drop i R]
    unfold highOf; rw [sumBy_append, Int.add_assoc]
  have h2 := sum_mx_nn (R.drop i)
  rw [h]
  generalize sumBy (fun x => mx x 0) (R.drop i) = S at *
  generalize highOf v (R.take i) = L at *
  omega
theorem low_step (v : Int) (R : List Int) (i : Nat) (h : i < R.length) : lowOf v (R.take (i + 1)) = lowOf v (R.take i) + mn R[i] 0 := by
  unfold lowOf; rw [List.take_succ_eq_append_getElem h, sumBy_append, sumBy_cons, sumBy_nil, Int.add_zero, Int.add_assoc]
theorem high_step (v : Int) (R : List Int) (i : Nat) (h : i < R.length) : highOf v (R.take (i + 1)) = highOf v (R.take i) + mx R[i] 0 := by
  unfold highOf; rw [List.take_succ_eq_append_getElem h, sumBy_append, sumBy_cons, sumBy_nil, Int.add_zero, Int.add_assoc]

/-- A number between the sums of what has been seen, one step on, whether it is picked or not. -/
theorem between (a b L H LL HH n x : Int) (h1 : L ≤ n) (h2 : n ≤ H) (h3 : LL ≤ L + mn x 0) (h4 : H + mx x 0 ≤ HH) (h5 : a ≤ LL) (h6 : HH ≤ b) (h7 : -9223372036854775808 ≤ LL) (h8 : HH ≤ 9223372036854775807) :
    (L + mn x 0 ≤ n + x ∧ n + x ≤ H + mx x 0 ∧ a ≤ n + x ∧ n + x ≤ b ∧ wrap64 (n + x) = n + x) ∧ L + mn x 0 ≤ n ∧ n ≤ H + mx x 0 ∧ a ≤ n ∧ n ≤ b := by
  have m1 := mn_np x
  have m2 := mx_nn x
  generalize mn x 0 = p at *
  generalize mx x 0 = q at *
  refine ⟨⟨by omega, by omega, by omega, by omega, by unfold wrap64; omega⟩, by omega, by omega, by omega, by omega⟩

theorem stays_loop (a b v : Int) (l : List Int) (p : List Bool) (K : Nat) (hK : K < l.length) (hn : l.length ≤ 100) (h1 : a ≤ lowOf v l) (h2 : highOf v l ≤ b) (h3 : -9223372036854775808 ≤ lowOf v l) (h4 : highOf v l ≤ 9223372036854775807) (hv : a ≤ v ∧ v ≤ b) (d : Nat) :
    ∀ (k i : Nat) (n : Int), i + d = l.length → 3 * d < k → lowOf v ((turned l K).take i) ≤ n → n ≤ highOf v ((turned l K).take i) → heronrylaw12_SpanStays.l0 k v l p true K n i a b = some true := by
  induction d with
  | zero =>
    intro k i n hi hk _ _
    obtain ⟨k, rfl⟩ : ∃ m, k = m + 1 := ⟨k - 1, by omega⟩
    have hlt : ¬ (i : Int) < (l.length : Int) := by omega
    simp only [heronrylaw12_SpanStays.l0]
    rw [if_neg hlt]
    simp [heronrylaw12_ours.f, holds_eq, hv]
  | succ d ih =>
    intro k i n hi hk hL hH
    obtain ⟨k, rfl⟩ : ∃ m, k = m + 3 := ⟨k - 3, by clear hL hH h1 h2 h3 h4 ih; omega⟩
    have n1 : i + 1 + d = l.length := by clear hL hH h1 h2 h3 h4 ih; omega
    have n2 : 3 * d < k := by clear hL hH h1 h2 h3 h4 ih; omega
    have p1 : (i : Int) < (l.length : Int) := by clear hL hH h1 h2 h3 h4 ih; omega
    have p2 : ¬ (l.length : Int) = 0 := by clear hL hH h1 h2 h3 h4 ih; omega
    have hil : i < l.length := by clear hL hH h1 h2 h3 h4 ih; omega
    have hl0 : 0 < l.length := by clear hL hH h1 h2 h3 h4 ih; omega
    have w1 : wrap64 ((i : Int) + 1) = ((i + 1 : Nat) : Int) := by clear hL hH h1 h2 h3 h4 ih; unfold wrap64; omega
    have w3 : wrap64 ((i : Int) + (K : Int)) = ((i + K : Nat) : Int) := by clear hL hH h1 h2 h3 h4 ih; unfold wrap64; omega
    have w2 : Int.tmod (wrap64 ((i : Int) + (K : Int))) (l.length : Int) = (((i + K) % l.length : Nat) : Int) := by
      rw [w3, Int.tmod_eq_emod_of_nonneg (Int.natCast_nonneg _)]
      rfl
    have hj0 : 0 ≤ (((i + K) % l.length : Nat) : Int) := Int.natCast_nonneg _
    have hj1 : (((i + K) % l.length : Nat) : Int) < (l.length : Int) := Int.ofNat_lt.2 (Nat.mod_lt _ hl0)
    have g1 := low_take v (turned l K) (i + 1)
    have g2 := high_take v (turned l K) (i + 1)
    rw [turned_low] at g1
    rw [turned_high] at g2
    have hiR : i < (turned l K).length := by rw [turned_length]; exact hil
    have s1 := low_step v (turned l K) i hiR
    have s2 := high_step v (turned l K) i hiR
    rw [turned_at l K i hK hil] at s1 s2
    have B := between a b _ _ _ _ n (rd l (((i + K) % l.length : Nat) : Int)) hL hH (by rw [← s1]; exact g1) (by rw [← s2]; exact g2) h1 h2 h3 h4
    rw [← s1, ← s2] at B
    clear g1 g2 s1 s2 hL hH h1 h2 h3 h4
    obtain ⟨⟨b1, b2, b3, b4, b5⟩, c1, c2, c3, c4⟩ := B
    have J3 : ∀ m : Int, a ≤ m → m ≤ b → lowOf v ((turned l K).take (i + 1)) ≤ m → m ≤ highOf v ((turned l K).take (i + 1)) → heronrylaw12_SpanStays.j3 (k + 1) v l p true K m i a b = some true := by
      intro m e1 e2 e3 e4
      simp only [heronrylaw12_SpanStays.j3, heronrylaw12_ours.f, holds_eq, Option.bind_some, w1]
      rw [decide_eq_true ⟨e1, e2⟩, if_pos rfl]
      exact ih k (i + 1) m n1 n2 e3 e4
    have J2 : ∀ x : Bool, heronrylaw12_SpanStays.j2 (k + 2) v l p true K n i (((i + K) % l.length : Nat) : Int) x a b = some true := by
      intro x
      simp only [heronrylaw12_SpanStays.j2]
      cases x with
      | true => rw [if_pos rfl, if_pos hj0, if_pos hj1, b5]; exact J3 _ b3 b4 b1 b2
      | false => rw [if_neg (by decide)]; exact J3 _ c3 c4 c1 c2
    simp only [heronrylaw12_SpanStays.l0]
    rw [if_pos p1, if_neg p2, w2]
    split
    · first | exact J2 _ | (rw [if_pos hj0]; exact J2 _)
    · exact J2 _

theorem stays_pure (a b v : Int) (l : List Int) (p : List Bool) (t : Int) (hv : inR v = true) (hl : l.all inR = true) : heronrylaw12_SpanStays.f 400 a b v l p t = some true := by
  unfold heronrylaw12_SpanStays.f
  simp only [awake_true, Option.bind_some, heronrylaw12_SpanStays.j0, heronrylaw12_ours.f, if_true]
  by_cases h : (l.length : Int) > 100
  · rw [if_pos h]
  · rw [if_neg h]
    by_cases h0 : (l.length : Int) = 0
    · rw [if_pos h0]
    · rw [if_neg h0, fits_eq hv hl (by omega)]
      simp only [Option.bind_some]
      cases hf : fitsB a b v l with
      | false => rfl
      | true =>
        rw [if_neg (by decide), if_neg h0]
        unfold fitsB at hf
        simp only [Bool.and_eq_true, decide_eq_true_eq, inR_iff] at hf
        obtain ⟨⟨⟨f1, f2⟩, f3⟩, f4⟩ := hf
        have e1 := sum_mn_np l
        have e2 := sum_mx_nn l
        have hvb : a ≤ v ∧ v ≤ b := by
          have q1 : lowOf v l = v + sumBy (fun x => mn x 0) l := rfl
          have q2 : highOf v l = v + sumBy (fun x => mx x 0) l := rfl
          rw [q1] at f3; rw [q2] at f4
          generalize sumBy (fun x => mn x 0) l = S at *
          generalize sumBy (fun x => mx x 0) l = T at *
          clear q1 q2
          omega
        obtain ⟨K, hK⟩ : ∃ K : Nat, Int.tmod (Go.bits .and .i64 t 65535) (l.length : Int) = (K : Int) ∧ K < l.length := by
          rw [and_65535]
          have z0 : 0 ≤ t % 65536 := by omega
          have hlp : 0 < (l.length : Int) := by omega
          rw [Int.tmod_eq_emod_of_nonneg z0]
          have z1 := Int.emod_nonneg (t % 65536) h0
          have z2 := Int.emod_lt_of_pos (t % 65536) hlp
          exact ⟨(t % 65536 % (l.length : Int)).toNat, by omega, by omega⟩
        rw [hK.1]
        exact stays_loop a b v l p K hK.2 (by omega) f3.1 f4.2 f1.1 f2.2 hvb l.length 399 0 v (by omega) (by omega) (by simp [lowOf, sumBy]) (by simp [highOf, sumBy])
end Go.Proofs.Ythhhfoogfnnooaa.Q
namespace Go.Proofs.Ythhhfoogfnnooaa
theorem spanStays_holds : Rows.SpanStaysSaid :=
  spanStays.said fun s v A c l B e p t w _ hv hr hc hg hr' hc' _ _ => Q.heronrylaw12_SpanStays.calls 400 s.f0 s.f1 v A c l B e p t true w hr hc hr' hc' (Q.stays_pure s.f0 s.f1 v l p t (Q.inR_of_wf hv) (Q.all_inR hg))
end Go.Proofs.Ythhhfoogfnnooaa
