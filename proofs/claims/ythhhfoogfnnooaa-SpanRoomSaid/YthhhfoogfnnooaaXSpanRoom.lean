/- SpanRoom: at every input the law returns true and its arguments read as before. No condition. -/
import Derived.Test.YthhhfoogfnnooaaQ10
import Derived.Test.YthhhfoogfnnooaaY0
import Derived.Test.YthhhfoogfnnooaaFSpanRoom
namespace Go.Proofs.Ythhhfoogfnnooaa.Q
open Go.RowKit Go.Proofs.YthhhfoogfnnooaaW Go.Proofs.YthhhfoogfnnooaaW.PrintWords Go.Proofs.YthhhfoogfnnooaaW.PrintLast Go.Proofs.YthhhfoogfnnooaaW.PrintMore
set_option linter.unusedVariables false

theorem room_small_lt (n : Nat) (h : n ≤ 1000) : n < 17592186044416 := Nat.lt_of_le_of_lt h (by decide)
/-- How much less, and more: never beyond an int. -/
def lessOf (a L : Int) : Int := if a - L < -9223372036854775808 then -9223372036854775808 else a - L
def moreOf (b H : Int) : Int := if b - H > 9223372036854775807 then 9223372036854775807 else b - H
theorem down_eq (a L : Int) (ha : -9223372036854775808 ≤ a) (hL : L ≤ 9223372036854775807) (hL' : -9223372036854775808 ≤ L) (h : a ≤ L) : span_down.f a L = some (lessOf a L) := by
  unfold span_down.f lessOf
  by_cases h0 : L ≥ 0
  · have w1 : wrap64 (-9223372036854775808 + L) = -9223372036854775808 + L := by unfold wrap64; omega
    rw [if_pos h0, w1]
    by_cases h1 : a < -9223372036854775808 + L
    · rw [if_pos h1, if_pos (by omega)]
    · have w2 : wrap64 (a - L) = a - L := by unfold wrap64; omega
      rw [if_neg h1, if_neg (by omega), w2]
  · have w2 : wrap64 (a - L) = a - L := by unfold wrap64; omega
    rw [if_neg h0, if_neg (by omega), w2]
theorem up_eq (b H : Int) (hb : b ≤ 9223372036854775807) (hH : -9223372036854775808 ≤ H) (hH' : H ≤ 9223372036854775807) (h : H ≤ b) : span_up.f b H = some (moreOf b H) := by
  unfold span_up.f moreOf
  by_cases h0 : H < 0
  · have w1 : wrap64 (9223372036854775807 + H) = 9223372036854775807 + H := by unfold wrap64; omega
    rw [if_pos h0, w1]
    by_cases h1 : b > 9223372036854775807 + H
    · rw [if_pos h1, if_pos (by omega)]
    · have w2 : wrap64 (b - H) = b - H := by unfold wrap64; omega
      rw [if_neg h1, if_neg (by omega), w2]
  · have w2 : wrap64 (b - H) = b - H := by unfold wrap64; omega
    rw [if_neg h0, if_neg (by omega), w2]

theorem low_snoc (v x : Int) (l : List Int) : lowOf v (l ++ [x]) = lowOf v l + mn x 0 := by
  unfold lowOf; rw [sumBy_append, sumBy_cons, sumBy_nil, Int.add_zero, Int.add_assoc]
theorem high_snoc (v x : Int) (l : List Int) : highOf v (l ++ [x]) = highOf v l + mx x 0 := by
  unfold highOf; rw [sumBy_append, sumBy_cons, sumBy_nil, Int.add_zero, Int.add_assoc]
theorem fits_snoc {a b v x : Int} {l : List Int} (hv : inR v = true) (hl : l.all inR = true) (hn : l.length ≤ 100) (hx : inR x = true) :
    span_Fits.f a b v (l ++ [x]) = some (inR (lowOf v l + mn x 0) && inR (highOf v l + mx x 0) && decide (a ≤ lowOf v l + mn x 0 ∧ lowOf v l + mn x 0 ≤ b) && decide (a ≤ highOf v l + mx x 0 ∧ highOf v l + mx x 0 ≤ b)) := by
  rw [fits_eq hv (by simp only [List.all_append, hl, List.all_cons, hx, List.all_nil]; rfl) (by simp; omega)]
  unfold fitsB
  rw [low_snoc, high_snoc]
theorem set_snoc (l : List Int) (x y : Int) : ([] ++ l ++ [x]).set (l.length : Int).toNat y = l ++ [y] := by
  rw [Int.toNat_natCast, List.nil_append, List.set_append_right _ _ (Nat.le_refl _), Nat.sub_self]; rfl

/-- The numbers alone. -/
theorem room_numbers (a b L H : Int) (ha : -9223372036854775808 ≤ a) (hb : b ≤ 9223372036854775807) (h1 : a ≤ L) (h2 : L ≤ b) (h3 : a ≤ H) (h4 : H ≤ b) :
    (lessOf a L ≤ 0 ∧ 0 ≤ moreOf b H ∧ inR (lessOf a L) = true ∧ inR (moreOf b H) = true) ∧
    (inR (L + mn (lessOf a L) 0) && inR (H + mx (lessOf a L) 0) && decide (a ≤ L + mn (lessOf a L) 0 ∧ L + mn (lessOf a L) 0 ≤ b) && decide (a ≤ H + mx (lessOf a L) 0 ∧ H + mx (lessOf a L) 0 ≤ b)) = true ∧
    (inR (L + mn (moreOf b H) 0) && inR (H + mx (moreOf b H) 0) && decide (a ≤ L + mn (moreOf b H) 0 ∧ L + mn (moreOf b H) 0 ≤ b) && decide (a ≤ H + mx (moreOf b H) 0 ∧ H + mx (moreOf b H) 0 ≤ b)) = true ∧
    (lessOf a L > -9223372036854775808 → wrap64 (lessOf a L - 1) = lessOf a L - 1 ∧ inR (lessOf a L - 1) = true ∧ (inR (L + mn (lessOf a L - 1) 0) && inR (H + mx (lessOf a L - 1) 0) && decide (a ≤ L + mn (lessOf a L - 1) 0 ∧ L + mn (lessOf a L - 1) 0 ≤ b) && decide (a ≤ H + mx (lessOf a L - 1) 0 ∧ H + mx (lessOf a L - 1) 0 ≤ b)) = false) ∧
    (moreOf b H < 9223372036854775807 → wrap64 (moreOf b H + 1) = moreOf b H + 1 ∧ inR (moreOf b H + 1) = true ∧ (inR (L + mn (moreOf b H + 1) 0) && inR (H + mx (moreOf b H + 1) 0) && decide (a ≤ L + mn (moreOf b H + 1) 0 ∧ L + mn (moreOf b H + 1) 0 ≤ b) && decide (a ≤ H + mx (moreOf b H + 1) 0 ∧ H + mx (moreOf b H + 1) 0 ≤ b)) = false) := by
  have hlo : ∃ m, lessOf a L = m ∧ m ≤ 0 ∧ -9223372036854775808 ≤ m ∧ a ≤ L + m ∧ (m > -9223372036854775808 → m = a - L) := by
    refine ⟨_, rfl, ?_⟩
    unfold lessOf; split <;> omega
  have hhi : ∃ m, moreOf b H = m ∧ 0 ≤ m ∧ m ≤ 9223372036854775807 ∧ H + m ≤ b ∧ (m < 9223372036854775807 → m = b - H) := by
    refine ⟨_, rfl, ?_⟩
    unfold moreOf; split <;> omega
  obtain ⟨p, hp, p1, p2, p3, p4⟩ := hlo
  obtain ⟨q, hq, q1, q2, q3, q4⟩ := hhi
  rw [hp, hq]
  have m1 : mn p 0 = p := by unfold mn; split <;> omega
  have m2 : mx p 0 = 0 := by unfold mx; split <;> omega
  have m3 : mn q 0 = 0 := by unfold mn; split <;> omega
  have m4 : mx q 0 = q := by unfold mx; split <;> omega
  have m5 : mn (p - 1) 0 = p - 1 := by unfold mn; split <;> omega
  have m6 : mx (q + 1) 0 = q + 1 := by unfold mx; split <;> omega
  rw [m1, m2, m3, m4, m5, m6]
  refine ⟨⟨p1, q1, (inR_iff _).2 (by omega), (inR_iff _).2 (by omega)⟩, ?_, ?_, fun h => ⟨by unfold wrap64; omega, (inR_iff _).2 (by omega), ?_⟩, fun h => ⟨by unfold wrap64; omega, (inR_iff _).2 (by omega), ?_⟩⟩
  · simp only [Bool.and_eq_true, decide_eq_true_eq, inR_iff]; omega
  · simp only [Bool.and_eq_true, decide_eq_true_eq, inR_iff]; omega
  · rw [decide_eq_false (p := a ≤ L + (p - 1) ∧ L + (p - 1) ≤ b) (by omega), Bool.and_false, Bool.false_and]
  · rw [decide_eq_false (p := a ≤ H + (q + 1) ∧ H + (q + 1) ≤ b) (by omega), Bool.and_false]

theorem room_pure (a b v : Int) (l : List Int) (ha : inR a = true) (hb : inR b = true) (hv : inR v = true) (hl : l.all inR = true) : heronrylaw12_SpanRoom.f 5 a b v l = some true := by
  have ha' := (inR_iff a).1 ha
  have hb' := (inR_iff b).1 hb
  unfold heronrylaw12_SpanRoom.f
  simp only [awake_true, Option.bind_some, heronrylaw12_ours.f]
  by_cases h : (l.length : Int) > 100
  · rw [if_pos h]
  · rw [if_neg h]
    have hn : l.length ≤ 100 := by omega
    have hn4 : ¬ (l.length : Int) ≥ 4096 := by omega
    unfold span_Room.f
    rw [if_neg hn4, fits_eq hv hl (by omega)]
    simp only [Option.bind_some]
    cases hf : fitsB a b v l with
    | false => simp [span_Room.j0]
    | true =>
      have hf0 := hf
      unfold fitsB at hf0
      simp only [Bool.and_eq_true, decide_eq_true_eq] at hf0
      obtain ⟨⟨⟨f1, f2⟩, f3⟩, f4⟩ := hf0
      have f1' := (inR_iff _).1 f1
      have f2' := (inR_iff _).1 f2
      have R := room_numbers a b (lowOf v l) (highOf v l) ha'.1 hb'.2 f3.1 f3.2 f4.1 f4.2
      have D := down_eq a (lowOf v l) ha'.1 f1'.2 f1'.1 f3.1
      have U := up_eq b (highOf v l) hb'.2 f2'.1 f2'.2 f4.2
      obtain ⟨⟨r1, r2, r3, r4⟩, r5, r6, r7, r8⟩ := R
      simp only [span_Room.j0, reach_eq hv hl (show l.length ≤ 4096 by omega), Option.bind_some, f1, f2, and_self, if_true, D, U, Bool.not_true, Bool.false_eq_true, if_false]
      generalize lessOf a (lowOf v l) = p at *
      generalize moreOf b (highOf v l) = q at *
      have s1 := room_small_lt ([] ++ l).length (by simp; omega)
      have s2 : ([] : List Int).length + l.length < 17592186044416 := room_small_lt _ (by simp; omega)
      rw [if_pos s2, if_pos s1, if_pos s2, if_pos s1, if_neg (Int.not_lt.2 r1), if_neg (Int.not_lt.2 r2)]
      simp only [List.nil_append]
      rw [fits_snoc hv hl hn r3, fits_snoc hv hl hn r4, r5, r6]
      simp only [Option.bind_some, if_true, heronrylaw12_SpanRoom.j0, Bool.not_true, Bool.false_eq_true, if_false]
      have i0 : (0 : Int) ≤ (l.length : Int) := Int.natCast_nonneg _
      have i1 : ∀ x, (l.length : Int) < ((l ++ [x]).length : Int) := fun x => by simp only [List.length_append, List.length_cons, List.length_nil]; omega
      have e1 : ∀ x y, (l ++ [x]).set (l.length : Int).toNat y = l ++ [y] := fun x y => by have := set_snoc l x y; rwa [List.nil_append] at this
      have J1 : heronrylaw12_SpanRoom.j1 4 v l true q (l ++ [q]) a b = some true := by
        simp only [heronrylaw12_SpanRoom.j1]
        by_cases hq : q < 9223372036854775807
        · obtain ⟨t1, t2, t3⟩ := r8 hq
          rw [if_pos hq, if_pos i0, if_pos (i1 _), e1, t1, fits_snoc hv hl hn t2, t3]
          simp
        · rw [if_neg hq]
      by_cases hp : p > -9223372036854775808
      · obtain ⟨t1, t2, t3⟩ := r7 hp
        rw [if_pos hp, if_pos i0, if_pos (i1 _), e1, t1, fits_snoc hv hl hn t2, t3]
        simpa using J1
      · rw [if_neg hp]; exact J1
end Go.Proofs.Ythhhfoogfnnooaa.Q
namespace Go.Proofs.Ythhhfoogfnnooaa
theorem spanRoom_holds : Rows.SpanRoomSaid :=
  spanRoom.said fun s v A c l w hs hv hr hc hg => Q.heronrylaw12_SpanRoom.calls 5 s.f0 s.f1 v A c l true w hr hc (Q.room_pure s.f0 s.f1 v l (Q.inR_of_wf hs.1) (Q.inR_of_wf hs.2) (Q.inR_of_wf hv) (Q.all_inR hg))
end Go.Proofs.Ythhhfoogfnnooaa
