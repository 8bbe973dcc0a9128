/- SpanMoves: at every input the law returns true and its arguments read as before. No condition. -/
import Derived.Test.YthhhfoogfnnooaaQ4
import Derived.Test.YthhhfoogfnnooaaY0
import Derived.Test.YthhhfoogfnnooaaFSpanMoves
namespace Go.Proofs.Ythhhfoogfnnooaa.Q
open Go.RowKit Go.Proofs.YthhhfoogfnnooaaW Go.Proofs.YthhhfoogfnnooaaW.PrintWords Go.Proofs.YthhhfoogfnnooaaW.PrintLast Go.Proofs.YthhhfoogfnnooaaW.PrintMore
set_option linter.unusedVariables false

theorem sums_small : ∀ l : List Int, (∀ x ∈ l, -1099511627776 ≤ x ∧ x ≤ 1099511627776) → -1099511627776 * (l.length : Int) ≤ sumBy (fun x => mn x 0) l ∧ sumBy (fun x => mn x 0) l ≤ 0 ∧ 0 ≤ sumBy (fun x => mx x 0) l ∧ sumBy (fun x => mx x 0) l ≤ 1099511627776 * (l.length : Int)
  | [], _ => by simp [sumBy]
  | x :: l, h => by
    have h1 := h x List.mem_cons_self
    have h2 := sums_small l (fun y hy => h y (List.mem_cons_of_mem _ hy))
    have m1 : -1099511627776 ≤ mn x 0 ∧ mn x 0 ≤ 0 := by unfold mn; split <;> omega
    have m2 : 0 ≤ mx x 0 ∧ mx x 0 ≤ 1099511627776 := by unfold mx; split <;> omega
    rw [sumBy_cons, sumBy_cons, List.length_cons]
    omega

theorem moves_end (v by_ : Int) (l : List Int) (hl : l.all inR = true) (hn : l.length ≤ 100) (hs : ∀ x ∈ l, -1099511627776 ≤ x ∧ x ≤ 1099511627776) (k : Nat) (i : Int) (hi : ¬ i < (l.length : Int)) :
    heronrylaw12_SpanMoves.l0 (k + 1) v l by_ true i = some true := by
  have h := sums_small l hs
  simp only [heronrylaw12_SpanMoves.l0]
  rw [if_neg hi]
  simp only [and_4294967295]
  have hv0 : 0 ≤ v % 4294967296 ∧ v % 4294967296 < 4294967296 := by omega
  have hb0 : 0 ≤ by_ % 4294967296 ∧ by_ % 4294967296 < 4294967296 := by omega
  generalize v % 4294967296 = V at *
  generalize by_ % 4294967296 = B at *
  have w1 : wrap64 (V + B) = V + B := by unfold wrap64; omega
  rw [w1, reach_eq ((inR_iff _).2 (by omega)) hl (by omega), reach_eq ((inR_iff _).2 (by omega)) hl (by omega)]
  have i1 : inR (lowOf V l) = true := (inR_iff _).2 (by unfold lowOf; omega)
  have i2 : inR (highOf V l) = true := (inR_iff _).2 (by unfold highOf; omega)
  have i3 : inR (lowOf (V + B) l) = true := (inR_iff _).2 (by unfold lowOf; omega)
  have i4 : inR (highOf (V + B) l) = true := (inR_iff _).2 (by unfold highOf; omega)
  rw [if_pos ⟨i1, i2⟩, if_pos ⟨i3, i4⟩]
  simp only [Option.bind_some, if_true]
  have e1 : lowOf (V + B) l = wrap64 (lowOf V l + B) := by unfold wrap64 lowOf; omega
  have e2 : highOf (V + B) l = wrap64 (highOf V l + B) := by unfold wrap64 highOf; omega
  rw [if_pos e1, if_pos e2, holds_eq]
  have e3 : lowOf V l ≤ V ∧ V ≤ highOf V l := by unfold lowOf highOf; omega
  simp only [Option.bind_some, decide_eq_true e3, if_true]
  rw [fits_eq ((inR_iff _).2 (by omega)) hl (by omega)]
  unfold fitsB
  have e4 : lowOf V l ≤ highOf V l := by omega
  simp [i1, i2, e4]

theorem moves_loop (v by_ : Int) (l : List Int) (hl : l.all inR = true) (hn : l.length ≤ 100) (d : Nat) : ∀ (k i : Nat), i + d = l.length → d < k → (∀ x ∈ l.take i, -1099511627776 ≤ x ∧ x ≤ 1099511627776) →
    heronrylaw12_SpanMoves.l0 k v l by_ true i = some true := by
  induction d with
  | zero =>
    intro k i hi hk hs
    obtain ⟨k, rfl⟩ : ∃ m, k = m + 1 := ⟨k - 1, by omega⟩
    refine moves_end v by_ l hl hn ?_ k i (by omega)
    rw [List.take_of_length_le (by omega)] at hs
    exact hs
  | succ d ih =>
    intro k i hi hk hs
    obtain ⟨k, rfl⟩ : ∃ m, k = m + 1 := ⟨k - 1, by omega⟩
    have hlt : i < l.length := by omega
    have hrd : rd l i = l[i] := by simp [rd, List.getD_eq_getElem?_getD, List.getElem?_eq_getElem hlt]
    simp only [heronrylaw12_SpanMoves.l0]
    rw [if_pos (by omega), if_pos (by omega), hrd]
    by_cases h1 : l[i] > 1099511627776
    · rw [if_pos h1]
    · rw [if_neg h1]
      by_cases h2 : l[i] < -1099511627776
      · rw [if_pos h2]
      · rw [if_neg h2]
        have w1 : wrap64 ((i : Int) + 1) = ((i + 1 : Nat) : Int) := by unfold wrap64; omega
        rw [w1]
        refine ih k (i + 1) (by omega) (by omega) ?_
        intro x hx
        rw [List.take_succ_eq_append_getElem hlt] at hx
        rcases List.mem_append.1 hx with hx | hx
        · exact hs x hx
        · rw [List.mem_singleton.1 hx]; omega

theorem moves_pure (v : Int) (l : List Int) (by_ : Int) (hl : l.all inR = true) : heronrylaw12_SpanMoves.f 200 v l by_ = some true := by
  unfold heronrylaw12_SpanMoves.f
  simp only [awake_true, Option.bind_some]
  by_cases h : (l.length : Int) > 100
  · rw [if_pos h]
  · rw [if_neg h]
    exact moves_loop v by_ l hl (by omega) l.length 200 0 (by omega) (by omega) (by simp)
end Go.Proofs.Ythhhfoogfnnooaa.Q
namespace Go.Proofs.Ythhhfoogfnnooaa
theorem spanMoves_holds : Rows.SpanMovesSaid :=
  spanMoves.said fun v A c l b w _ hr hc hg _ => Q.heronrylaw12_SpanMoves.calls 200 v A c l b true w hr hc (Q.moves_pure v l b (Q.all_inR hg))
end Go.Proofs.Ythhhfoogfnnooaa
