/- SpanIs: at every input the law returns true and its arguments read as before. No condition. -/
import Derived.Test.YthhhfoogfnnooaaQ16
import Derived.Test.YthhhfoogfnnooaaY0
import Derived.Test.YthhhfoogfnnooaaFSpanIs
namespace Go.Proofs.Ythhhfoogfnnooaa.Q
open Go.RowKit Go.Proofs.YthhhfoogfnnooaaW Go.Proofs.YthhhfoogfnnooaaW.PrintWords Go.Proofs.YthhhfoogfnnooaaW.PrintLast Go.Proofs.YthhhfoogfnnooaaW.PrintMore
set_option linter.unusedVariables false

theorem wide_of (v : Int) : heronryref12_of.f v = some (v / 4294967296, v % 4294967296) := by unfold heronryref12_of.f; rw [and_4294967295]
theorem wide_plus (S T : Int) (h1 : -1208925819614629174706176 ≤ S) (h2 : S ≤ 1208925819614629174706176) (h3 : -1208925819614629174706176 ≤ T) (h4 : T ≤ 1208925819614629174706176) :
    heronryref12_plus.f (S / 4294967296) (S % 4294967296) (T / 4294967296) (T % 4294967296) = some ((S + T) / 4294967296, (S + T) % 4294967296) := by
  unfold heronryref12_plus.f
  have w1 : wrap64 (S / 4294967296 + T / 4294967296) = S / 4294967296 + T / 4294967296 := by unfold wrap64; omega
  have w2 : wrap64 (S % 4294967296 + T % 4294967296) = S % 4294967296 + T % 4294967296 := by unfold wrap64; omega
  rw [w1, w2, and_4294967295]
  have w3 : wrap64 (S / 4294967296 + T / 4294967296 + (S % 4294967296 + T % 4294967296) / 4294967296) = (S + T) / 4294967296 := by unfold wrap64; omega
  rw [w3]
  have w4 : (S % 4294967296 + T % 4294967296) % 4294967296 = (S + T) % 4294967296 := by omega
  rw [w4]
theorem wide_told (T : Int) : heronryref12_told.f (T / 4294967296) (T % 4294967296) = some (toldOf T) := by
  unfold heronryref12_told.f toldOf
  by_cases h : inR T = true
  · have h' := (inR_iff T).1 h
    have w1 : wrap64 (T / 4294967296 * 4294967296) = T / 4294967296 * 4294967296 := by unfold wrap64; omega
    have w2 : wrap64 (T / 4294967296 * 4294967296 + T % 4294967296) = T := by unfold wrap64; omega
    rw [if_pos h, if_neg (by omega), if_neg (by omega), w1, w2]
  · have h' : ¬ (-9223372036854775808 ≤ T ∧ T ≤ 9223372036854775807) := fun hh => h ((inR_iff T).2 hh)
    rw [if_neg h]
    by_cases h0 : T / 4294967296 < -2147483648
    · rw [if_pos h0]
    · rw [if_neg h0, if_pos (by omega)]

theorem is_range {l : List Int} (hl : l.all inR = true) {i : Nat} (h : i < l.length) : -9223372036854775808 ≤ l[i] ∧ l[i] ≤ 9223372036854775807 := (inR_iff _).1 (List.all_eq_true.1 hl _ (List.getElem_mem h))
theorem is_rd (l : List Int) (i : Nat) (h : i < l.length) : rd l i = l[i] := by simp [rd, List.getD_eq_getElem?_getD, List.getElem?_eq_getElem h]
theorem is_succ (i n : Nat) (h : i < n) (hn : n ≤ 4096) : wrap64 ((i : Int) + 1) = ((i + 1 : Nat) : Int) := by unfold wrap64; omega

theorem refSum_loop (l : List Int) (hl : l.all inR = true) (hn : l.length ≤ 4096) (d : Nat) : ∀ (k i : Nat) (T : Int), i + d = l.length → d < k → -9223372036854775808 * (i : Int) ≤ T → T ≤ 9223372036854775807 * (i : Int) →
    heronryref12_Sum.l0 k l i (T / 4294967296) (T % 4294967296) = some (toldOf (T + sumBy id (l.drop i))) := by
  induction d with
  | zero =>
    intro k i T hi hk _ _
    obtain ⟨k, rfl⟩ : ∃ m, k = m + 1 := ⟨k - 1, by omega⟩
    have h0 : ¬ (i : Int) < (l.length : Int) := by omega
    have h1 : l.length ≤ i := by omega
    simp only [heronryref12_Sum.l0]
    rw [if_neg h0, wide_told, List.drop_eq_nil_of_le h1, sumBy_nil, Int.add_zero]
    rfl
  | succ d ih =>
    intro k i T hi hk h1 h2
    obtain ⟨k, rfl⟩ : ∃ m, k = m + 1 := ⟨k - 1, by omega⟩
    have hlt : i < l.length := by omega
    have p1 : (i : Int) < (l.length : Int) := by omega
    have r := is_range hl hlt
    have n1 : i + 1 + d = l.length := by omega
    have n2 : d < k := by omega
    have hb : heronryref12_plus.f (T / 4294967296) (T % 4294967296) (l[i] / 4294967296) (l[i] % 4294967296) = some ((T + l[i]) / 4294967296, (T + l[i]) % 4294967296) := by
      generalize l[i] = x at *
      exact wide_plus T x (by omega) (by omega) (by omega) (by omega)
    have b1 : -9223372036854775808 * ((i + 1 : Nat) : Int) ≤ T + l[i] := by generalize l[i] = x at *; omega
    have b2 : T + l[i] ≤ 9223372036854775807 * ((i + 1 : Nat) : Int) := by generalize l[i] = x at *; omega
    simp only [heronryref12_Sum.l0]
    rw [if_pos p1, if_pos (Int.natCast_nonneg i), is_rd l i hlt, wide_of]
    simp only [Option.bind_some]
    rw [hb]
    simp only [Option.bind_some]
    rw [is_succ i _ hlt hn, ih k (i + 1) (T + l[i]) n1 n2 b1 b2, List.drop_eq_getElem_cons hlt, sumBy_cons, Int.add_assoc]
    rfl

def sumR (l : List Int) : Int × Int := if 4096 < l.length then (0, 13) else toldOf (sumBy id l)
theorem sum_is {l : List Int} (hl : l.all inR = true) : span_Sum.f l = some (sumR l) := by
  unfold span_Sum.f sumR
  rw [if_pos hl]
  split <;> rfl
theorem refSum_is {l : List Int} (hl : l.all inR = true) (k : Nat) (hk : l.length < k) : heronryref12_Sum.f k l = some (sumR l) := by
  unfold heronryref12_Sum.f sumR
  by_cases h : 4096 < l.length
  · rw [if_pos (by omega), if_pos h]
  · rw [if_neg (by omega), if_neg h]
    have := refSum_loop l hl (by omega) l.length k 0 0 (by omega) hk (by simp) (by simp)
    simpa using this

def reachR (v : Int) (l : List Int) : Int × Int × Int := if 4096 < l.length then (0, 0, 13) else if inR (lowOf v l) = true ∧ inR (highOf v l) = true then (lowOf v l, highOf v l, 0) else (0, 0, 12)
theorem reach_is {v : Int} {l : List Int} (hv : inR v = true) (hl : l.all inR = true) : span_Reach.f v l = some (reachR v l) := by
  unfold reachR
  by_cases h : 4096 < l.length
  · unfold span_Reach.f
    rw [if_pos ⟨hv, hl⟩, if_pos h, if_pos h]
  · rw [reach_eq hv hl (by omega), if_neg h]

theorem refReach_loop (l : List Int) (hl : l.all inR = true) (hn : l.length ≤ 4096) (d : Nat) : ∀ (k i : Nat) (S T : Int), i + d = l.length → d < k → -9223372036854775808 * ((i : Int) + 1) ≤ S → S ≤ 9223372036854775807 → -9223372036854775808 ≤ T → T ≤ 9223372036854775807 * ((i : Int) + 1) →
    heronryref12_Reach.l0 k l i (S / 4294967296) (S % 4294967296) (T / 4294967296) (T % 4294967296) = some (if inR (lowOf S (l.drop i)) = true ∧ inR (highOf T (l.drop i)) = true then (lowOf S (l.drop i), highOf T (l.drop i), 0) else (0, 0, 12)) := by
  induction d with
  | zero =>
    intro k i S T hi hk _ _ _ _
    obtain ⟨k, rfl⟩ : ∃ m, k = m + 1 := ⟨k - 1, by omega⟩
    have h0 : ¬ (i : Int) < (l.length : Int) := by omega
    have h1 : l.length ≤ i := by omega
    simp only [heronryref12_Reach.l0]
    rw [if_neg h0, wide_told, wide_told, List.drop_eq_nil_of_le h1]
    have e1 : lowOf S [] = S := by unfold lowOf; rw [sumBy_nil, Int.add_zero]
    have e2 : highOf T [] = T := by unfold highOf; rw [sumBy_nil, Int.add_zero]
    rw [e1, e2]
    unfold toldOf
    cases hS : inR S <;> cases hT : inR T <;> simp
  | succ d ih =>
    intro k i S T hi hk h1 h2 h3 h4
    obtain ⟨k, rfl⟩ : ∃ m, k = m + 1 := ⟨k - 1, by omega⟩
    have hlt : i < l.length := by omega
    have p1 : (i : Int) < (l.length : Int) := by omega
    have r := is_range hl hlt
    have n1 : i + 1 + d = l.length := by omega
    have n2 : d < k := by omega
    have c1 : lowOf S (l.drop i) = lowOf (S + mn l[i] 0) (l.drop (i + 1)) := by
      unfold lowOf; rw [List.drop_eq_getElem_cons hlt, sumBy_cons, Int.add_assoc]
    have c2 : highOf T (l.drop i) = highOf (T + mx l[i] 0) (l.drop (i + 1)) := by
      unfold highOf; rw [List.drop_eq_getElem_cons hlt, sumBy_cons, Int.add_assoc]
    have cast : ((i + 1 : Nat) : Int) = (i : Int) + 1 := rfl
    simp only [heronryref12_Reach.l0]
    rw [if_pos p1, if_pos (Int.natCast_nonneg i), is_rd l i hlt, wide_of, c1, c2, is_succ i _ hlt hn]
    clear c1 c2
    generalize l[i] = x at *
    by_cases h0 : x < 0
    · have m1 : mn x 0 = x := by unfold mn; rw [if_neg (by omega)]
      have m2 : mx x 0 = 0 := by unfold mx; rw [if_pos h0]
      rw [if_pos h0, m1, m2, Int.add_zero]
      simp only [Option.bind_some]
      rw [wide_plus S x (by omega) (by omega) (by omega) (by omega)]
      exact ih k (i + 1) (S + x) T n1 n2 (by omega) (by omega) h3 (by omega)
    · have m1 : mn x 0 = 0 := by unfold mn; split <;> omega
      have m2 : mx x 0 = x := by unfold mx; rw [if_neg h0]
      rw [if_neg h0, m1, m2, Int.add_zero]
      simp only [Option.bind_some]
      rw [wide_plus T x (by omega) (by omega) (by omega) (by omega)]
      exact ih k (i + 1) S (T + x) n1 n2 (by omega) h2 (by omega) (by omega)

theorem refReach_is {v : Int} {l : List Int} (hv : inR v = true) (hl : l.all inR = true) (k : Nat) (hk : l.length < k) : heronryref12_Reach.f k v l = some (reachR v l) := by
  have hv' := (inR_iff v).1 hv
  unfold heronryref12_Reach.f reachR
  by_cases h : 4096 < l.length
  · rw [if_pos (by omega), if_pos h]
  · rw [if_neg (by omega), if_neg h, wide_of]
    simp only [Option.bind_some]
    have := refReach_loop l hl (by omega) l.length k 0 v v (by omega) hk (by omega) (by omega) (by omega) (by omega)
    simpa using this

def fitsR (a b v : Int) (l : List Int) : Bool := decide ((reachR v l).2.2 = 0) && decide (a ≤ (reachR v l).1 ∧ (reachR v l).1 ≤ b) && decide (a ≤ (reachR v l).2.1 ∧ (reachR v l).2.1 ≤ b)
theorem refHolds_eq (a b v : Int) : heronryref12_Holds.f a b v = some (decide (a ≤ v ∧ v ≤ b)) := by
  unfold heronryref12_Holds.f
  by_cases h : a ≤ v <;> simp [h]
theorem fits_is {a b v : Int} {l : List Int} (hv : inR v = true) (hl : l.all inR = true) : span_Fits.f a b v l = some (fitsR a b v l) := by
  unfold span_Fits.f fitsR
  rw [reach_is hv hl]
  simp only [Option.bind_some, holds_eq]
  generalize reachR v l = R
  by_cases h : R.2.2 = 0
  · by_cases h1 : a ≤ R.1 ∧ R.1 ≤ b <;> simp [h, h1]
  · simp [h]
theorem refFits_is {a b v : Int} {l : List Int} (hv : inR v = true) (hl : l.all inR = true) (k : Nat) (hk : l.length < k) : heronryref12_Fits.f k a b v l = some (fitsR a b v l) := by
  unfold heronryref12_Fits.f fitsR
  rw [refReach_is hv hl k hk]
  simp only [Option.bind_some, refHolds_eq]
  generalize reachR v l = R
  by_cases h : R.2.2 = 0
  · by_cases h1 : a ≤ R.1 ∧ R.1 ≤ b <;> simp [h, h1]
  · simp [h]

theorem refLess_eq (a b : Int) (ha : inR a = true) (hb : inR b = true) : heronryref12_less.f a b = some (if inR (a - b) = true then a - b else if a - b < 0 then -9223372036854775808 else 9223372036854775807) := by
  have ha' := (inR_iff a).1 ha
  have hb' := (inR_iff b).1 hb
  unfold heronryref12_less.f
  rw [wide_of, wide_of]
  simp only [Option.bind_some]
  have w1 : wrap64 (-1 - b / 4294967296) = (-1 - b) / 4294967296 := by unfold wrap64; omega
  have w2 : wrap64 (4294967295 - Go.bits .and .i64 b 4294967295) = (-1 - b) % 4294967296 := by rw [and_4294967295]; unfold wrap64; omega
  rw [w1, w2, wide_plus _ _ (by omega) (by omega) (by omega) (by omega)]
  simp only [Option.bind_some]
  rw [wide_plus _ _ (by omega) (by omega) (by omega) (by omega)]
  simp only [Option.bind_some]
  have e : a + (-1 - b + 1) = a - b := by omega
  rw [e, wide_told]
  simp only [Option.bind_some]
  unfold toldOf
  by_cases h : inR (a - b) = true
  · simp [h]
  · rw [if_neg h, if_neg h]
    simp only [show ¬ ((12 : Int) = 0) by decide, if_false]
    have : ((a - b) / 4294967296 < 0) ↔ (a - b < 0) := by omega
    by_cases h0 : a - b < 0
    · rw [if_pos (this.2 h0), if_pos h0]
    · rw [if_neg (fun hh => h0 (this.1 hh)), if_neg h0]

theorem is_down (a L : Int) (ha : inR a = true) (hL : inR L = true) (h : a ≤ L) : span_down.f a L = heronryref12_less.f a L := by
  have ha' := (inR_iff a).1 ha
  have hL' := (inR_iff L).1 hL
  rw [refLess_eq a L ha hL]
  have hi : inR (a - L) = decide (-9223372036854775808 ≤ a - L) := by
    unfold inR
    congr 1
    apply propext
    omega
  rw [hi]
  unfold span_down.f
  by_cases h0 : L ≥ 0
  · have w1 : wrap64 (-9223372036854775808 + L) = -9223372036854775808 + L := by unfold wrap64; omega
    rw [if_pos h0, w1]
    by_cases h1 : a < -9223372036854775808 + L
    · rw [if_pos h1, decide_eq_false (by omega), if_neg (by decide), if_pos (by omega)]
    · have w2 : wrap64 (a - L) = a - L := by unfold wrap64; omega
      rw [if_neg h1, decide_eq_true (by omega), if_pos rfl, w2]
  · have w2 : wrap64 (a - L) = a - L := by unfold wrap64; omega
    rw [if_neg h0, decide_eq_true (by omega), if_pos rfl, w2]
theorem is_up (b H : Int) (hb : inR b = true) (hH : inR H = true) (h : H ≤ b) : span_up.f b H = heronryref12_less.f b H := by
  have hb' := (inR_iff b).1 hb
  have hH' := (inR_iff H).1 hH
  rw [refLess_eq b H hb hH]
  have hi : inR (b - H) = decide (b - H ≤ 9223372036854775807) := by
    unfold inR
    congr 1
    apply propext
    omega
  rw [hi]
  unfold span_up.f
  by_cases h0 : H < 0
  · have w1 : wrap64 (9223372036854775807 + H) = 9223372036854775807 + H := by unfold wrap64; omega
    rw [if_pos h0, w1]
    by_cases h1 : b > 9223372036854775807 + H
    · rw [if_pos h1, decide_eq_false (by omega), if_neg (by decide), if_neg (by omega)]
    · have w2 : wrap64 (b - H) = b - H := by unfold wrap64; omega
      rw [if_neg h1, decide_eq_true (by omega), if_pos rfl, w2]
  · have w2 : wrap64 (b - H) = b - H := by unfold wrap64; omega
    rw [if_neg h0, decide_eq_true (by omega), if_pos rfl, w2]

theorem room_is {a b v : Int} {l : List Int} (ha : inR a = true) (hb : inR b = true) (hv : inR v = true) (hl : l.all inR = true) (k : Nat) (hk : l.length < k) : ∃ r, span_Room.f (k + 1) a b v l = some r ∧ heronryref12_Room.f (k + 1) a b v l = some r := by
  unfold span_Room.f heronryref12_Room.f
  rw [fits_is hv hl, refFits_is hv hl (k + 1) (by omega)]
  simp only [Option.bind_some]
  by_cases h : (l.length : Int) ≥ 4096
  · refine ⟨(0, 0), by rw [if_pos h]; rfl, ?_⟩
    rw [decide_eq_true h]
    split <;> rfl
  · rw [if_neg h, decide_eq_false h]
    cases hf : fitsR a b v l with
    | false => exact ⟨(0, 0), rfl, rfl⟩
    | true =>
      unfold fitsR at hf
      simp only [Bool.and_eq_true, decide_eq_true_eq] at hf
      obtain ⟨⟨f1, f2⟩, f3⟩ := hf
      have hR : reachR v l = (lowOf v l, highOf v l, 0) ∧ inR (lowOf v l) = true ∧ inR (highOf v l) = true := by
        unfold reachR at f1 ⊢
        have hlen : ¬ 4096 < l.length := by clear f2 f3; omega
        rw [if_neg hlen] at f1 ⊢
        by_cases hh : inR (lowOf v l) = true ∧ inR (highOf v l) = true
        · rw [if_pos hh]; exact ⟨rfl, hh⟩
        · rw [if_neg hh] at f1; exact absurd f1 (by decide)
      obtain ⟨hR, i1, i2⟩ := hR
      rw [hR] at f2 f3
      have D := is_down a (lowOf v l) ha i1 f2.1
      have U := is_up b (highOf v l) hb i2 f3.2
      obtain ⟨x, hx⟩ : ∃ x, heronryref12_less.f a (lowOf v l) = some x := ⟨_, refLess_eq a _ ha i1⟩
      obtain ⟨y, hy⟩ : ∃ y, heronryref12_less.f b (highOf v l) = some y := ⟨_, refLess_eq b _ hb i2⟩
      rw [hx] at D
      rw [hy] at U
      refine ⟨(x, y), ?_, ?_⟩
      · simp only [span_Room.j0, reach_is hv hl, hR, Option.bind_some, D, U, Bool.not_true, Bool.false_eq_true, if_false]
      · simp only [heronryref12_Room.j0, refReach_is hv hl k hk, hR, Option.bind_some, hx, hy, if_true, Bool.false_eq_true, if_false]

theorem is_pure (v : Int) (l : List Int) (a b c d : Int) (hv : inR v = true) (hl : l.all inR = true) (ha : inR a = true) (hb : inR b = true) : heronrylaw12_SpanIs.f (l.length + 2) v l a b c d = some true := by
  unfold heronrylaw12_SpanIs.f
  rw [awake_true]
  simp only [Option.bind_some]
  by_cases h : (l.length : Int) > 5000
  · rw [if_pos h]
  · obtain ⟨r, h1, h2⟩ := room_is (a := a) (b := b) ha hb hv hl (l.length + 1) (by omega)
    have hm : heronryref12_Meet.f a b c d = span_Meet.f a b c d := rfl
    obtain ⟨m, hm2⟩ : ∃ m, span_Meet.f a b c d = some m := by unfold span_Meet.f; split <;> exact ⟨_, rfl⟩
    have q1 := sum_is hl
    have q2 := refSum_is hl (l.length + 2) (by omega)
    have q3 := reach_is hv hl
    have q4 := refReach_is hv hl (l.length + 2) (by omega)
    have q5 : ∀ x y, span_Fits.f x y v l = some (fitsR x y v l) := fun x y => fits_is hv hl
    have q6 : ∀ x y, heronryref12_Fits.f (l.length + 2) x y v l = some (fitsR x y v l) := fun x y => refFits_is hv hl _ (by omega)
    rw [if_neg h]
    simp only [q1, q2, q3, q4, q5, q6, heronrylaw12_ours.f, heronrylaw12_theirs.f, Option.bind_some, h1, h2, hm, hm2, holds_eq, refHolds_eq]
    simp
end Go.Proofs.Ythhhfoogfnnooaa.Q
namespace Go.Proofs.Ythhhfoogfnnooaa
theorem spanIs_holds : Rows.SpanIsSaid :=
  spanIs.said fun v A c l s t w hv hr hc hg hs _ => Q.heronrylaw12_SpanIs.calls (l.length + 2) v A c l s.f0 s.f1 t.f0 t.f1 true w ⟨rfl⟩ hr hc (Q.is_pure v l s.f0 s.f1 t.f0 t.f1 (Q.inR_of_wf hv) (Q.all_inR hg) (Q.inR_of_wf hs.1) (Q.inR_of_wf hs.2))
end Go.Proofs.Ythhhfoogfnnooaa
