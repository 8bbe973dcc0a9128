import Derived.Test.YthhhfoogfnnooaaQ2
import Derived.Test.YthhhfoogfnnooaaB
namespace Go.Proofs.Ythhhfoogfnnooaa.Q
open Go.RowKit Go.Proofs.YthhhfoogfnnooaaW.PrintWords Go.Proofs.YthhhfoogfnnooaaW.PrintLast Go.Proofs.YthhhfoogfnnooaaW.PrintMore
set_option linter.unusedVariables false

theorem inR_of_wf {x : Int} (h : (Lit.int .i64 x).wf = true) : inR x = true := by
  have h' : (decide (-9223372036854775808 ≤ x) && decide (x ≤ 9223372036854775807)) = true := h
  rw [inR_iff]; simpa using h'
theorem all_inR {l : List Int} (h : ∀ x ∈ l, (Lit.int .i64 x).wf = true) : l.all inR = true := List.all_eq_true.2 fun x hx => inR_of_wf (h x hx)

def lowOf (v : Int) (l : List Int) : Int := v + sumBy (fun x => mn x 0) l
def highOf (v : Int) (l : List Int) : Int := v + sumBy (fun x => mx x 0) l

theorem reach_eq {v : Int} {l : List Int} (hv : inR v = true) (hl : l.all inR = true) (hn : l.length ≤ 4096) :
    span_Reach.f v l = some (if inR (lowOf v l) = true ∧ inR (highOf v l) = true then (lowOf v l, highOf v l, 0) else (0, 0, 12)) := by
  unfold span_Reach.f
  rw [if_pos ⟨hv, hl⟩, if_neg (by omega)]
  unfold lowOf highOf
  split <;> rfl
theorem holds_eq (a b v : Int) : span_Holds.f a b v = some (decide (a ≤ v ∧ v ≤ b)) := by
  unfold span_Holds.f
  by_cases h : a ≤ v <;> simp [h]

def fitsB (a b v : Int) (l : List Int) : Bool := inR (lowOf v l) && inR (highOf v l) && decide (a ≤ lowOf v l ∧ lowOf v l ≤ b) && decide (a ≤ highOf v l ∧ highOf v l ≤ b)
theorem fits_eq {a b v : Int} {l : List Int} (hv : inR v = true) (hl : l.all inR = true) (hn : l.length ≤ 4096) : span_Fits.f a b v l = some (fitsB a b v l) := by
  unfold span_Fits.f
  rw [reach_eq hv hl hn]
  simp only [Option.bind_some, holds_eq]
  unfold fitsB
  by_cases h : inR (lowOf v l) = true ∧ inR (highOf v l) = true
  · rw [if_pos h]
    simp only [if_true, h.1, h.2, Bool.true_and]
    by_cases h1 : a ≤ lowOf v l ∧ lowOf v l ≤ b
    · simp [h1]
    · simp [h1]
  · rw [if_neg h]
    simp only [show ¬ ((12 : Int) = 0) by decide, if_false]
    have : (inR (lowOf v l) && inR (highOf v l)) = false := by
      cases h1 : inR (lowOf v l) <;> cases h2 : inR (highOf v l) <;> simp_all
    rw [this]
    rfl

theorem sumBy_cons (φ : Int → Int) (x : Int) (l : List Int) : sumBy φ (x :: l) = φ x + sumBy φ l := by simp [sumBy]
theorem sumBy_append (φ : Int → Int) (l m : List Int) : sumBy φ (l ++ m) = sumBy φ l + sumBy φ m := by simp [sumBy]
theorem sumBy_nil (φ : Int → Int) : sumBy φ [] = 0 := rfl
theorem awake_true : heronrylaw12_awake.f = some true := by
  unfold heronrylaw12_awake.f
  rw [reach_eq (by decide) (by decide) (by decide)]
  decide
end Go.Proofs.Ythhhfoogfnnooaa.Q
