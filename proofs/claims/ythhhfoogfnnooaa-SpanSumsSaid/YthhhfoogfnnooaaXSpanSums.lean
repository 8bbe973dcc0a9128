/- SpanSums: at every input the law returns true and its arguments read as before. No condition. -/
import Derived.Test.YthhhfoogfnnooaaQ5
import Derived.Test.YthhhfoogfnnooaaY0
import Derived.Test.YthhhfoogfnnooaaFSpanSums
namespace Go.Proofs.Ythhhfoogfnnooaa.Q
open Go.RowKit Go.Proofs.YthhhfoogfnnooaaW Go.Proofs.YthhhfoogfnnooaaW.PrintWords Go.Proofs.YthhhfoogfnnooaaW.PrintLast Go.Proofs.YthhhfoogfnnooaaW.PrintMore
set_option linter.unusedVariables false

theorem sums_small_lt (n : Nat) (h : n ≤ 1000) : n < 17592186044416 := Nat.lt_of_le_of_lt h (by decide)
theorem sums_eq {l : List Int} (hl : l.all inR = true) (hn : l.length ≤ 4096) : span_Sum.f l = some (toldOf (sumBy id l)) := by
  unfold span_Sum.f
  rw [if_pos hl, if_neg (by omega)]
theorem great_eq : span_Sum.f [9223372036854775807, 9223372036854775807, (-9223372036854775808), (-9223372036854775808), 2] = some (0, 0) := by
  rw [sums_eq (by decide) (by decide)]
  have : sumBy id [9223372036854775807, 9223372036854775807, (-9223372036854775808), (-9223372036854775808), 2] = 0 := by decide
  rw [this]
  decide

theorem sums_end (l : List Int) (K : Nat) (hl : l.all inR = true) (k : Nat) :
    heronrylaw12_SpanSums.j0 (k + 2) true (toldOf (sumBy id l)).1 (toldOf (sumBy id l)).2 (toldOf (sumBy id (l.take K))).1 (toldOf (sumBy id (l.take K))).2 (toldOf (sumBy id (l.drop K))).1 (toldOf (sumBy id (l.drop K))).2 false = some true := by
  have e : sumBy id l = sumBy id (l.take K) + sumBy id (l.drop K) := by
    conv => lhs; rw [← List.take_append_drop K l]
    rw [sumBy_append]
  simp only [heronrylaw12_SpanSums.j0, heronrylaw12_SpanSums.j1, great_eq]
  rw [e]
  generalize sumBy id (l.take K) = S
  generalize sumBy id (l.drop K) = T
  cases hS : inR S with
  | false => simp [toldOf, hS]
  | true =>
    cases hT : inR T with
    | false => simp [toldOf, hS, hT]
    | true =>
      have e1 : toldOf S = (S, 0) := by simp [toldOf, hS]
      have e2 : toldOf T = (T, 0) := by simp [toldOf, hT]
      rw [e1, e2]
      have e3 : span_Sum.f [S, T] = some (toldOf (S + T)) := by
        rw [sums_eq (by simp [hS, hT]) (by simp)]
        have : sumBy id [S, T] = S + T := by rw [sumBy_cons, sumBy_cons, sumBy_nil, Int.add_zero]; rfl
        rw [this]
      simp [e3]

theorem sums_pure (l : List Int) (t : Int) (hl : l.all inR = true) : heronrylaw12_SpanSums.f 5 l t = some true := by
  unfold heronrylaw12_SpanSums.f
  simp only [awake_true, Option.bind_some]
  by_cases h : (l.length : Int) > 200
  · rw [if_pos h]
  · rw [if_neg h]
    have w1 : wrap64 ((l.length : Int) + 1) = (l.length : Int) + 1 := by unfold wrap64; omega
    have hp : (0 : Int) < (l.length : Int) + 1 := by omega
    have hne : ¬ ((l.length : Int) + 1 = 0) := by omega
    obtain ⟨K, hK, hK2⟩ : ∃ K : Nat, Int.tmod (Go.bits .and .i64 t 65535) ((l.length : Int) + 1) = (K : Int) ∧ K ≤ l.length := by
      rw [and_65535, Int.tmod_eq_emod_of_nonneg (by omega)]
      have z1 := Int.emod_nonneg (t % 65536) hne
      have z2 := Int.emod_lt_of_pos (t % 65536) hp
      exact ⟨(t % 65536 % ((l.length : Int) + 1)).toNat, by omega, by omega⟩
    rw [w1, hK, if_neg hne]
    simp only [Int.toNat_natCast]
    have l1 : (l.drop K).length ≤ 200 := by rw [List.length_drop]; omega
    have l2 : (l.take K).length ≤ 200 := by rw [List.length_take]; omega
    have a1 : (l.drop K).all inR = true := List.all_eq_true.2 fun x hx => List.all_eq_true.1 hl x (List.mem_of_mem_drop hx)
    have a2 : (l.take K).all inR = true := List.all_eq_true.2 fun x hx => List.all_eq_true.1 hl x (List.mem_of_mem_take hx)
    rw [if_pos (Int.natCast_nonneg K), if_pos (Int.ofNat_le.2 hK2), if_pos (sums_small_lt _ (by simp; omega)), if_pos (sums_small_lt _ (by simp; omega))]
    rw [sums_eq hl (by omega), sums_eq (l := [] ++ l.drop K ++ l.take K) (by simp [a1, a2]) (by simp; omega), sums_eq a2 (by omega), sums_eq a1 (by omega)]
    simp only [Option.bind_some]
    have e : sumBy id ([] ++ l.drop K ++ l.take K) = sumBy id l := by
      conv => rhs; rw [← List.take_append_drop K l]
      rw [List.nil_append, sumBy_append, sumBy_append, Int.add_comm]
    rw [e, if_pos rfl]
    have e2 : ((toldOf (sumBy id l)).2 != (toldOf (sumBy id l)).2) = false := by simp
    rw [e2]
    exact sums_end l K hl 3
end Go.Proofs.Ythhhfoogfnnooaa.Q
namespace Go.Proofs.Ythhhfoogfnnooaa
theorem spanSums_holds : Rows.SpanSumsSaid :=
  spanSums.said fun A c l t w hr hc hg _ => Q.heronrylaw12_SpanSums.calls 5 A c l t true w hr hc (Q.sums_pure l t (Q.all_inR hg))
end Go.Proofs.Ythhhfoogfnnooaa
