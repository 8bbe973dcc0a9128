-- Written by hprint.py (the kit's printer, with functions that are given). Lean checks it.
import Derived.Test.YtjbdlgjhnldfbaaQ0
import Derived.Test.YtjbdlgjhnldfbaaQ5
import Derived.Test.YtjbdlgjhnldfbaaQ7
import Derived.Test.YtjbdlgjhnldfbaaQ11
import Derived.Test.YtjbdlgjhnldfbaaQ12
import Derived.Test.YtjbdlgjhnldfbaaFH
namespace Go.Proofs.Ytjbdlgjhnldfbaa.Q
open Go.RowKit Go.Proofs.YtjbdlgjhnldfbaaW.PrintWords Go.Proofs.YtjbdlgjhnldfbaaW.PrintLast Go.Proofs.YtjbdlgjhnldfbaaW.PrintMore
attribute [local go_sem] max2_int min2_int max_two min_two max_three min_three max_four min_four   -- for this text's walks alone
set_option linter.unusedVariables false
set_option linter.unusedSimpArgs false

/-! ### heronrylaw21_SchedPicks: function 4 -/
mutual
def heronrylaw21_SchedPicks.j0 : Nat → List Int → Bool → Bool → List (S43) → Int → Option (Bool)
 | 0, _, _, _, _, _ => none
 | k + 1, x1, x5, x33, x232000, x232001 => if x33 = true then (some x5) else ((heronrylaw21_ours.f k x232000 x232001).bind fun bt234 => ((sched_Pick.f k bt234.1 bt234.2 x1).bind fun bt239 => (heronrylaw21_SchedPicks.l0 k x1 x5 bt239.2.2.1 bt239.2.2.2 false false 0 0 0 x232000 x232001 bt239.1 bt239.2.1)))
def heronrylaw21_SchedPicks.l0 : Nat → List Int → Bool → Int → Int → Bool → Bool → Int → Int → Int → List (S43) → Int → List (S44) → Int → Option (Bool)
 | 0, _, _, _, _, _, _, _, _, _, _, _, _, _ => none
 | k + 1, x1, x5, x8, x9, x10, x11, x12, x13, x14, x232000, x232001, x246000, x246001 => if x14 < (x232000.length : Int) then (heronrylaw21_SchedPicks.l1 k x1 x5 x8 x9 x10 x11 x12 x13 x14 false 0 x232000 x232001 x246000 x246001) else (if x9 = 0 then (heronrylaw21_SchedPicks.l2 k x1 x5 x10 x11 x12 x13 0 x232000 x232001 x246000 x246001) else (if x5 = true then (if x9 = 6 then (some (!x10)) else (none)) else (none)))
def heronrylaw21_SchedPicks.l1 : Nat → List Int → Bool → Int → Int → Bool → Bool → Int → Int → Int → Bool → Int → List (S43) → Int → List (S44) → Int → Option (Bool)
 | 0, _, _, _, _, _, _, _, _, _, _, _, _, _, _, _ => none
 | k + 1, x1, x5, x8, x9, x10, x11, x12, x13, x14, x15, x16, x232000, x232001, x246000, x246001 => if x16 < (x1.length : Int) then (if x15 = true then (heronrylaw21_SchedPicks.l1 k x1 x5 x8 x9 x10 x11 x12 x13 x14 true (wrap64 (x16 + 1)) x232000 x232001 x246000 x246001) else (if 0 ≤ x16 then (if 0 ≤ x14 then (if x14 < (x232000.length : Int) then (heronrylaw21_SchedPicks.l1 k x1 x5 x8 x9 x10 x11 x12 x13 x14 ((rd x1 x16) == ((rd_T43 x232000 x14).f0)) (wrap64 (x16 + 1)) x232000 x232001 x246000 x246001) else (none)) else (none)) else (none))) else (if x10 = true then (heronrylaw21_SchedPicks.j3 k x1 x5 x8 x9 true x11 x12 x13 x14 x15 x232000 x232001 x246000 x246001) else (heronrylaw21_SchedPicks.j3 k x1 x5 x8 x9 x15 x11 x12 x13 x14 x15 x232000 x232001 x246000 x246001))
def heronrylaw21_SchedPicks.j3 : Nat → List Int → Bool → Int → Int → Bool → Bool → Int → Int → Int → Bool → List (S43) → Int → List (S44) → Int → Option (Bool)
 | 0, _, _, _, _, _, _, _, _, _, _, _, _, _, _ => none
 | k + 1, x1, x5, x8, x9, x10, x11, x12, x13, x14, x15, x232000, x232001, x246000, x246001 => if x11 = true then (heronrylaw21_SchedPicks.j4 k x1 x5 x8 x9 x10 true x12 x13 x14 x15 x232000 x232001 x246000 x246001) else (if x15 = true then (if 0 ≤ x14 then (if x14 < (x232000.length : Int) then (heronrylaw21_SchedPicks.j4 k x1 x5 x8 x9 x10 (decide (((rd_T43 x232000 x14).f2) ≥ x232001)) x12 x13 x14 x15 x232000 x232001 x246000 x246001) else (none)) else (none)) else (heronrylaw21_SchedPicks.j4 k x1 x5 x8 x9 x10 false x12 x13 x14 x15 x232000 x232001 x246000 x246001))
def heronrylaw21_SchedPicks.j4 : Nat → List Int → Bool → Int → Int → Bool → Bool → Int → Int → Int → Bool → List (S43) → Int → List (S44) → Int → Option (Bool)
 | 0, _, _, _, _, _, _, _, _, _, _, _, _, _, _ => none
 | k + 1, x1, x5, x8, x9, x10, x11, x12, x13, x14, x15, x232000, x232001, x246000, x246001 => if x9 = 0 then (if 0 ≤ x14 then (if x14 < (x232000.length : Int) then (heronrylaw21_SchedPicks.j5 k x1 x5 x8 x9 x10 x11 x12 x13 x14 x15 (((rd_T43 x232000 x14).f0) == x8) x232000 x232001 x246000 x246001) else (none)) else (none)) else (heronrylaw21_SchedPicks.j5 k x1 x5 x8 x9 x10 x11 x12 x13 x14 x15 false x232000 x232001 x246000 x246001)
def heronrylaw21_SchedPicks.j5 : Nat → List Int → Bool → Int → Int → Bool → Bool → Int → Int → Int → Bool → Bool → List (S43) → Int → List (S44) → Int → Option (Bool)
 | 0, _, _, _, _, _, _, _, _, _, _, _, _, _, _, _ => none
 | k + 1, x1, x5, x8, x9, x10, x11, x12, x13, x14, x15, x101, x232000, x232001, x246000, x246001 => if x101 = true then (if 0 ≤ x14 then (if x14 < (x232000.length : Int) then (if x15 = true then (heronrylaw21_SchedPicks.l0 k x1 x5 x8 x9 x10 x11 ((rd_T43 x232000 x14).f1) x13 (wrap64 (x14 + 1)) x232000 x232001 x246000 x246001) else (none)) else (none)) else (none)) else (if x9 = 0 then (if x13 ≥ (x246000.length : Int) then (none) else (if 0 ≤ x13 then (if x13 < (x246000.length : Int) then (if 0 ≤ x14 then (if x14 < (x232000.length : Int) then (if ((rd_T44 x246000 x13).f0) = ((rd_T43 x232000 x14).f0) then (if ((rd_T44 x246000 x13).f1) = ((rd_T43 x232000 x14).f1) then (heronrylaw21_SchedPicks.l0 k x1 x5 x8 x9 x10 x11 x12 (wrap64 (x13 + 1)) (wrap64 (x14 + 1)) x232000 x232001 x246000 x246001) else (none)) else (none)) else (none)) else (none)) else (none)) else (none))) else (heronrylaw21_SchedPicks.l0 k x1 x5 x8 x9 x10 x11 x12 x13 (wrap64 (x14 + 1)) x232000 x232001 x246000 x246001))
def heronrylaw21_SchedPicks.l2 : Nat → List Int → Bool → Bool → Bool → Int → Int → Int → List (S43) → Int → List (S44) → Int → Option (Bool)
 | 0, _, _, _, _, _, _, _, _, _, _, _ => none
 | k + 1, x1, x5, x10, x11, x12, x13, x17, x232000, x232001, x246000, x246001 => if x17 < (x232000.length : Int) then (heronrylaw21_SchedPicks.j7 k x1 x5 x10 x11 x12 x13 x17 (!x11) x232000 x232001 x246000 x246001) else (heronrylaw21_SchedPicks.j7 k x1 x5 x10 x11 x12 x13 x17 false x232000 x232001 x246000 x246001)
def heronrylaw21_SchedPicks.j7 : Nat → List Int → Bool → Bool → Bool → Int → Int → Int → Bool → List (S43) → Int → List (S44) → Int → Option (Bool)
 | 0, _, _, _, _, _, _, _, _, _, _, _, _ => none
 | k + 1, x1, x5, x10, x11, x12, x13, x17, x168, x232000, x232001, x246000, x246001 => if x168 = true then (heronrylaw21_SchedPicks.l3 k x1 x5 x10 x11 x12 x13 x17 0 x232000 x232001 x246000 x246001) else (if x5 = true then (if x10 = true then (if x13 = (x246000.length : Int) then (some ((x246000.length : Int) == (wrap64 ((x232000.length : Int) - 1)))) else (none)) else (none)) else (none))
def heronrylaw21_SchedPicks.l3 : Nat → List Int → Bool → Bool → Bool → Int → Int → Int → Int → List (S43) → Int → List (S44) → Int → Option (Bool)
 | 0, _, _, _, _, _, _, _, _, _, _, _, _ => none
 | k + 1, x1, x5, x10, x11, x12, x13, x17, x18, x232000, x232001, x246000, x246001 => if x18 < (x1.length : Int) then (if 0 ≤ x18 then (if 0 ≤ x17 then (if x17 < (x232000.length : Int) then (if (rd x1 x18) = ((rd_T43 x232000 x17).f0) then ((float_Less.f x12 ((rd_T43 x232000 x17).f1)).bind fun t258 => (if t258 = true then (none) else (heronrylaw21_SchedPicks.l3 k x1 x5 x10 x11 x12 x13 x17 (wrap64 (x18 + 1)) x232000 x232001 x246000 x246001))) else (heronrylaw21_SchedPicks.l3 k x1 x5 x10 x11 x12 x13 x17 (wrap64 (x18 + 1)) x232000 x232001 x246000 x246001)) else (none)) else (none)) else (none)) else (heronrylaw21_SchedPicks.l2 k x1 x5 x10 x11 x12 x13 (wrap64 (x17 + 1)) x232000 x232001 x246000 x246001)
end
def heronrylaw21_SchedPicks.f (k : Nat) (l0_0 : List (S43)) (a0_1 : Int) (l1 : List Int) : Option (Bool) := (heronrylaw21_awake.f k).bind fun t232 => (if (l0_0.length : Int) > 70 then (heronrylaw21_SchedPicks.j0 k l1 t232 true l0_0 a0_1) else (if (l1.length : Int) > 60 then (heronrylaw21_SchedPicks.j0 k l1 t232 true l0_0 a0_1) else ((heronryref21_Sane.f k l0_0 a0_1).bind fun t233 => (heronrylaw21_SchedPicks.j0 k l1 t232 (!t233) l0_0 a0_1))))
theorem heronrylaw21_SchedPicks.mono_l : ∀ k, (∀ y0 y1 y2 y3 y4, LeO (heronrylaw21_SchedPicks.j0 k y0 y1 y2 y3 y4) (heronrylaw21_SchedPicks.j0 (k + 1) y0 y1 y2 y3 y4)) ∧ (∀ y0 y1 y2 y3 y4 y5 y6 y7 y8 y9 y10 y11 y12, LeO (heronrylaw21_SchedPicks.l0 k y0 y1 y2 y3 y4 y5 y6 y7 y8 y9 y10 y11 y12) (heronrylaw21_SchedPicks.l0 (k + 1) y0 y1 y2 y3 y4 y5 y6 y7 y8 y9 y10 y11 y12)) ∧ (∀ y0 y1 y2 y3 y4 y5 y6 y7 y8 y9 y10 y11 y12 y13 y14, LeO (heronrylaw21_SchedPicks.l1 k y0 y1 y2 y3 y4 y5 y6 y7 y8 y9 y10 y11 y12 y13 y14) (heronrylaw21_SchedPicks.l1 (k + 1) y0 y1 y2 y3 y4 y5 y6 y7 y8 y9 y10 y11 y12 y13 y14)) ∧ (∀ y0 y1 y2 y3 y4 y5 y6 y7 y8 y9 y10 y11 y12 y13, LeO (heronrylaw21_SchedPicks.j3 k y0 y1 y2 y3 y4 y5 y6 y7 y8 y9 y10 y11 y12 y13) (heronrylaw21_SchedPicks.j3 (k + 1) y0 y1 y2 y3 y4 y5 y6 y7 y8 y9 y10 y11 y12 y13)) ∧ (∀ y0 y1 y2 y3 y4 y5 y6 y7 y8 y9 y10 y11 y12 y13, LeO (heronrylaw21_SchedPicks.j4 k y0 y1 y2 y3 y4 y5 y6 y7 y8 y9 y10 y11 y12 y13) (heronrylaw21_SchedPicks.j4 (k + 1) y0 y1 y2 y3 y4 y5 y6 y7 y8 y9 y10 y11 y12 y13)) ∧ (∀ y0 y1 y2 y3 y4 y5 y6 y7 y8 y9 y10 y11 y12 y13 y14, LeO (heronrylaw21_SchedPicks.j5 k y0 y1 y2 y3 y4 y5 y6 y7 y8 y9 y10 y11 y12 y13 y14) (heronrylaw21_SchedPicks.j5 (k + 1) y0 y1 y2 y3 y4 y5 y6 y7 y8 y9 y10 y11 y12 y13 y14)) ∧ (∀ y0 y1 y2 y3 y4 y5 y6 y7 y8 y9 y10, LeO (heronrylaw21_SchedPicks.l2 k y0 y1 y2 y3 y4 y5 y6 y7 y8 y9 y10) (heronrylaw21_SchedPicks.l2 (k + 1) y0 y1 y2 y3 y4 y5 y6 y7 y8 y9 y10)) ∧ (∀ y0 y1 y2 y3 y4 y5 y6 y7 y8 y9 y10 y11, LeO (heronrylaw21_SchedPicks.j7 k y0 y1 y2 y3 y4 y5 y6 y7 y8 y9 y10 y11) (heronrylaw21_SchedPicks.j7 (k + 1) y0 y1 y2 y3 y4 y5 y6 y7 y8 y9 y10 y11)) ∧ (∀ y0 y1 y2 y3 y4 y5 y6 y7 y8 y9 y10 y11, LeO (heronrylaw21_SchedPicks.l3 k y0 y1 y2 y3 y4 y5 y6 y7 y8 y9 y10 y11) (heronrylaw21_SchedPicks.l3 (k + 1) y0 y1 y2 y3 y4 y5 y6 y7 y8 y9 y10 y11))
 | 0 => ⟨fun _ _ _ _ _ r h => by simp [heronrylaw21_SchedPicks.j0] at h, fun _ _ _ _ _ _ _ _ _ _ _ _ _ r h => by simp [heronrylaw21_SchedPicks.l0] at h, fun _ _ _ _ _ _ _ _ _ _ _ _ _ _ _ r h => by simp [heronrylaw21_SchedPicks.l1] at h, fun _ _ _ _ _ _ _ _ _ _ _ _ _ _ r h => by simp [heronrylaw21_SchedPicks.j3] at h, fun _ _ _ _ _ _ _ _ _ _ _ _ _ _ r h => by simp [heronrylaw21_SchedPicks.j4] at h, fun _ _ _ _ _ _ _ _ _ _ _ _ _ _ _ r h => by simp [heronrylaw21_SchedPicks.j5] at h, fun _ _ _ _ _ _ _ _ _ _ _ r h => by simp [heronrylaw21_SchedPicks.l2] at h, fun _ _ _ _ _ _ _ _ _ _ _ _ r h => by simp [heronrylaw21_SchedPicks.j7] at h, fun _ _ _ _ _ _ _ _ _ _ _ _ r h => by simp [heronrylaw21_SchedPicks.l3] at h⟩
 | k + 1 => by
  obtain ⟨ih0, ih1, ih2, ih3, ih4, ih5, ih6, ih7, ih8⟩ := heronrylaw21_SchedPicks.mono_l k
  refine ⟨?_, ?_, ?_, ?_, ?_, ?_, ?_, ?_, ?_⟩
  ·intro y0 y1 y2 y3 y4
   unfold heronrylaw21_SchedPicks.j0
   repeat' first
   | (with_reducible exact ih0 _ _ _ _ _)
   | (with_reducible exact ih1 _ _ _ _ _ _ _ _ _ _ _ _ _)
   | (with_reducible exact ih2 _ _ _ _ _ _ _ _ _ _ _ _ _ _ _)
   | (with_reducible exact ih3 _ _ _ _ _ _ _ _ _ _ _ _ _ _)
   | (with_reducible exact ih4 _ _ _ _ _ _ _ _ _ _ _ _ _ _)
   | (with_reducible exact ih5 _ _ _ _ _ _ _ _ _ _ _ _ _ _ _)
   | (with_reducible exact ih6 _ _ _ _ _ _ _ _ _ _ _)
   | (with_reducible exact ih7 _ _ _ _ _ _ _ _ _ _ _ _)
   | (with_reducible exact ih8 _ _ _ _ _ _ _ _ _ _ _ _)
   | (with_reducible exact heronrylaw21_awake.mono _)
   | (with_reducible exact heronrylaw21_ours.mono _ _ _)
   | (with_reducible exact heronryref21_Sane.mono _ _ _)
   | (with_reducible exact sched_Pick.mono _ _ _ _)
   | (with_reducible exact LeO.refl _)
   | (with_reducible exact LeO.none _)
   | (with_reducible refine LeO.ite ?_ ?_)
   | (with_reducible refine LeO.bind ?_ (fun _ => ?_))
   | exact ih0 _ _ _ _ _
   | exact ih1 _ _ _ _ _ _ _ _ _ _ _ _ _
   | exact ih2 _ _ _ _ _ _ _ _ _ _ _ _ _ _ _
   | exact ih3 _ _ _ _ _ _ _ _ _ _ _ _ _ _
   | exact ih4 _ _ _ _ _ _ _ _ _ _ _ _ _ _
   | exact ih5 _ _ _ _ _ _ _ _ _ _ _ _ _ _ _
   | exact ih6 _ _ _ _ _ _ _ _ _ _ _
   | exact ih7 _ _ _ _ _ _ _ _ _ _ _ _
   | exact ih8 _ _ _ _ _ _ _ _ _ _ _ _
   | exact heronrylaw21_awake.mono _
   | exact heronrylaw21_ours.mono _ _ _
   | exact heronryref21_Sane.mono _ _ _
   | exact sched_Pick.mono _ _ _ _
   | exact LeO.none _
   | refine LeO.ite ?_ ?_
   | refine LeO.bind ?_ (fun _ => ?_)
  ·intro y0 y1 y2 y3 y4 y5 y6 y7 y8 y9 y10 y11 y12
   unfold heronrylaw21_SchedPicks.l0
   repeat' first
   | (with_reducible exact ih0 _ _ _ _ _)
   | (with_reducible exact ih1 _ _ _ _ _ _ _ _ _ _ _ _ _)
   | (with_reducible exact ih2 _ _ _ _ _ _ _ _ _ _ _ _ _ _ _)
   | (with_reducible exact ih3 _ _ _ _ _ _ _ _ _ _ _ _ _ _)
   | (with_reducible exact ih4 _ _ _ _ _ _ _ _ _ _ _ _ _ _)
   | (with_reducible exact ih5 _ _ _ _ _ _ _ _ _ _ _ _ _ _ _)
   | (with_reducible exact ih6 _ _ _ _ _ _ _ _ _ _ _)
   | (with_reducible exact ih7 _ _ _ _ _ _ _ _ _ _ _ _)
   | (with_reducible exact ih8 _ _ _ _ _ _ _ _ _ _ _ _)
   | (with_reducible exact heronrylaw21_awake.mono _)
   | (with_reducible exact heronrylaw21_ours.mono _ _ _)
   | (with_reducible exact heronryref21_Sane.mono _ _ _)
   | (with_reducible exact sched_Pick.mono _ _ _ _)
   | (with_reducible exact LeO.refl _)
   | (with_reducible exact LeO.none _)
   | (with_reducible refine LeO.ite ?_ ?_)
   | (with_reducible refine LeO.bind ?_ (fun _ => ?_))
   | exact ih0 _ _ _ _ _
   | exact ih1 _ _ _ _ _ _ _ _ _ _ _ _ _
   | exact ih2 _ _ _ _ _ _ _ _ _ _ _ _ _ _ _
   | exact ih3 _ _ _ _ _ _ _ _ _ _ _ _ _ _
   | exact ih4 _ _ _ _ _ _ _ _ _ _ _ _ _ _
   | exact ih5 _ _ _ _ _ _ _ _ _ _ _ _ _ _ _
   | exact ih6 _ _ _ _ _ _ _ _ _ _ _
   | exact ih7 _ _ _ _ _ _ _ _ _ _ _ _
   | exact ih8 _ _ _ _ _ _ _ _ _ _ _ _
   | exact heronrylaw21_awake.mono _
   | exact heronrylaw21_ours.mono _ _ _
   | exact heronryref21_Sane.mono _ _ _
   | exact sched_Pick.mono _ _ _ _
   | exact LeO.none _
   | refine LeO.ite ?_ ?_
   | refine LeO.bind ?_ (fun _ => ?_)
  ·intro y0 y1 y2 y3 y4 y5 y6 y7 y8 y9 y10 y11 y12 y13 y14
   unfold heronrylaw21_SchedPicks.l1
   repeat' first
   | (with_reducible exact ih0 _ _ _ _ _)
   | (with_reducible exact ih1 _ _ _ _ _ _ _ _ _ _ _ _ _)
   | (with_reducible exact ih2 _ _ _ _ _ _ _ _ _ _ _ _ _ _ _)
   | (with_reducible exact ih3 _ _ _ _ _ _ _ _ _ _ _ _ _ _)
   | (with_reducible exact ih4 _ _ _ _ _ _ _ _ _ _ _ _ _ _)
   | (with_reducible exact ih5 _ _ _ _ _ _ _ _ _ _ _ _ _ _ _)
   | (with_reducible exact ih6 _ _ _ _ _ _ _ _ _ _ _)
   | (with_reducible exact ih7 _ _ _ _ _ _ _ _ _ _ _ _)
   | (with_reducible exact ih8 _ _ _ _ _ _ _ _ _ _ _ _)
   | (with_reducible exact heronrylaw21_awake.mono _)
   | (with_reducible exact heronrylaw21_ours.mono _ _ _)
   | (with_reducible exact heronryref21_Sane.mono _ _ _)
   | (with_reducible exact sched_Pick.mono _ _ _ _)
   | (with_reducible exact LeO.refl _)
   | (with_reducible exact LeO.none _)
   | (with_reducible refine LeO.ite ?_ ?_)
   | (with_reducible refine LeO.bind ?_ (fun _ => ?_))
   | exact ih0 _ _ _ _ _
   | exact ih1 _ _ _ _ _ _ _ _ _ _ _ _ _
   | exact ih2 _ _ _ _ _ _ _ _ _ _ _ _ _ _ _
   | exact ih3 _ _ _ _ _ _ _ _ _ _ _ _ _ _
   | exact ih4 _ _ _ _ _ _ _ _ _ _ _ _ _ _
   | exact ih5 _ _ _ _ _ _ _ _ _ _ _ _ _ _ _
   | exact ih6 _ _ _ _ _ _ _ _ _ _ _
   | exact ih7 _ _ _ _ _ _ _ _ _ _ _ _
   | exact ih8 _ _ _ _ _ _ _ _ _ _ _ _
   | exact heronrylaw21_awake.mono _
   | exact heronrylaw21_ours.mono _ _ _
   | exact heronryref21_Sane.mono _ _ _
   | exact sched_Pick.mono _ _ _ _
   | exact LeO.none _
   | refine LeO.ite ?_ ?_
   | refine LeO.bind ?_ (fun _ => ?_)
  ·intro y0 y1 y2 y3 y4 y5 y6 y7 y8 y9 y10 y11 y12 y13
   unfold heronrylaw21_SchedPicks.j3
   repeat' first
   | (with_reducible exact ih0 _ _ _ _ _)
   | (with_reducible exact ih1 _ _ _ _ _ _ _ _ _ _ _ _ _)
   | (with_reducible exact ih2 _ _ _ _ _ _ _ _ _ _ _ _ _ _ _)
   | (with_reducible exact ih3 _ _ _ _ _ _ _ _ _ _ _ _ _ _)
   | (with_reducible exact ih4 _ _ _ _ _ _ _ _ _ _ _ _ _ _)
   | (with_reducible exact ih5 _ _ _ _ _ _ _ _ _ _ _ _ _ _ _)
   | (with_reducible exact ih6 _ _ _ _ _ _ _ _ _ _ _)
   | (with_reducible exact ih7 _ _ _ _ _ _ _ _ _ _ _ _)
   | (with_reducible exact ih8 _ _ _ _ _ _ _ _ _ _ _ _)
   | (with_reducible exact heronrylaw21_awake.mono _)
   | (with_reducible exact heronrylaw21_ours.mono _ _ _)
   | (with_reducible exact heronryref21_Sane.mono _ _ _)
   | (with_reducible exact sched_Pick.mono _ _ _ _)
   | (with_reducible exact LeO.refl _)
   | (with_reducible exact LeO.none _)
   | (with_reducible refine LeO.ite ?_ ?_)
   | (with_reducible refine LeO.bind ?_ (fun _ => ?_))
   | exact ih0 _ _ _ _ _
   | exact ih1 _ _ _ _ _ _ _ _ _ _ _ _ _
   | exact ih2 _ _ _ _ _ _ _ _ _ _ _ _ _ _ _
   | exact ih3 _ _ _ _ _ _ _ _ _ _ _ _ _ _
   | exact ih4 _ _ _ _ _ _ _ _ _ _ _ _ _ _
   | exact ih5 _ _ _ _ _ _ _ _ _ _ _ _ _ _ _
   | exact ih6 _ _ _ _ _ _ _ _ _ _ _
   | exact ih7 _ _ _ _ _ _ _ _ _ _ _ _
   | exact ih8 _ _ _ _ _ _ _ _ _ _ _ _
   | exact heronrylaw21_awake.mono _
   | exact heronrylaw21_ours.mono _ _ _
   | exact heronryref21_Sane.mono _ _ _
   | exact sched_Pick.mono _ _ _ _
   | exact LeO.none _
   | refine LeO.ite ?_ ?_
   | refine LeO.bind ?_ (fun _ => ?_)
  ·intro y0 y1 y2 y3 y4 y5 y6 y7 y8 y9 y10 y11 y12 y13
   unfold heronrylaw21_SchedPicks.j4
   repeat' first
   | (with_reducible exact ih0 _ _ _ _ _)
   | (with_reducible exact ih1 _ _ _ _ _ _ _ _ _ _ _ _ _)
   | (with_reducible exact ih2 _ _ _ _ _ _ _ _ _ _ _ _ _ _ _)
   | (with_reducible exact ih3 _ _ _ _ _ _ _ _ _ _ _ _ _ _)
   | (with_reducible exact ih4 _ _ _ _ _ _ _ _ _ _ _ _ _ _)
   | (with_reducible exact ih5 _ _ _ _ _ _ _ _ _ _ _ _ _ _ _)
   | (with_reducible exact ih6 _ _ _ _ _ _ _ _ _ _ _)
   | (with_reducible exact ih7 _ _ _ _ _ _ _ _ _ _ _ _)
   | (with_reducible exact ih8 _ _ _ _ _ _ _ _ _ _ _ _)
   | (with_reducible exact heronrylaw21_awake.mono _)
   | (with_reducible exact heronrylaw21_ours.mono _ _ _)
   | (with_reducible exact heronryref21_Sane.mono _ _ _)
   | (with_reducible exact sched_Pick.mono _ _ _ _)
   | (with_reducible exact LeO.refl _)
   | (with_reducible exact LeO.none _)
   | (with_reducible refine LeO.ite ?_ ?_)
   | (with_reducible refine LeO.bind ?_ (fun _ => ?_))
   | exact ih0 _ _ _ _ _
   | exact ih1 _ _ _ _ _ _ _ _ _ _ _ _ _
   | exact ih2 _ _ _ _ _ _ _ _ _ _ _ _ _ _ _
   | exact ih3 _ _ _ _ _ _ _ _ _ _ _ _ _ _
   | exact ih4 _ _ _ _ _ _ _ _ _ _ _ _ _ _
   | exact ih5 _ _ _ _ _ _ _ _ _ _ _ _ _ _ _
   | exact ih6 _ _ _ _ _ _ _ _ _ _ _
   | exact ih7 _ _ _ _ _ _ _ _ _ _ _ _
   | exact ih8 _ _ _ _ _ _ _ _ _ _ _ _
   | exact heronrylaw21_awake.mono _
   | exact heronrylaw21_ours.mono _ _ _
   | exact heronryref21_Sane.mono _ _ _
   | exact sched_Pick.mono _ _ _ _
   | exact LeO.none _
   | refine LeO.ite ?_ ?_
   | refine LeO.bind ?_ (fun _ => ?_)
  ·intro y0 y1 y2 y3 y4 y5 y6 y7 y8 y9 y10 y11 y12 y13 y14
   unfold heronrylaw21_SchedPicks.j5
   repeat' first
   | (with_reducible exact ih0 _ _ _ _ _)
   | (with_reducible exact ih1 _ _ _ _ _ _ _ _ _ _ _ _ _)
   | (with_reducible exact ih2 _ _ _ _ _ _ _ _ _ _ _ _ _ _ _)
   | (with_reducible exact ih3 _ _ _ _ _ _ _ _ _ _ _ _ _ _)
   | (with_reducible exact ih4 _ _ _ _ _ _ _ _ _ _ _ _ _ _)
   | (with_reducible exact ih5 _ _ _ _ _ _ _ _ _ _ _ _ _ _ _)
   | (with_reducible exact ih6 _ _ _ _ _ _ _ _ _ _ _)
   | (with_reducible exact ih7 _ _ _ _ _ _ _ _ _ _ _ _)
   | (with_reducible exact ih8 _ _ _ _ _ _ _ _ _ _ _ _)
   | (with_reducible exact heronrylaw21_awake.mono _)
   | (with_reducible exact heronrylaw21_ours.mono _ _ _)
   | (with_reducible exact heronryref21_Sane.mono _ _ _)
   | (with_reducible exact sched_Pick.mono _ _ _ _)
   | (with_reducible exact LeO.refl _)
   | (with_reducible exact LeO.none _)
   | (with_reducible refine LeO.ite ?_ ?_)
   | (with_reducible refine LeO.bind ?_ (fun _ => ?_))
   | exact ih0 _ _ _ _ _
   | exact ih1 _ _ _ _ _ _ _ _ _ _ _ _ _
   | exact ih2 _ _ _ _ _ _ _ _ _ _ _ _ _ _ _
   | exact ih3 _ _ _ _ _ _ _ _ _ _ _ _ _ _
   | exact ih4 _ _ _ _ _ _ _ _ _ _ _ _ _ _
   | exact ih5 _ _ _ _ _ _ _ _ _ _ _ _ _ _ _
   | exact ih6 _ _ _ _ _ _ _ _ _ _ _
   | exact ih7 _ _ _ _ _ _ _ _ _ _ _ _
   | exact ih8 _ _ _ _ _ _ _ _ _ _ _ _
   | exact heronrylaw21_awake.mono _
   | exact heronrylaw21_ours.mono _ _ _
   | exact heronryref21_Sane.mono _ _ _
   | exact sched_Pick.mono _ _ _ _
   | exact LeO.none _
   | refine LeO.ite ?_ ?_
   | refine LeO.bind ?_ (fun _ => ?_)
  ·intro y0 y1 y2 y3 y4 y5 y6 y7 y8 y9 y10
   unfold heronrylaw21_SchedPicks.l2
   repeat' first
   | (with_reducible exact ih0 _ _ _ _ _)
   | (with_reducible exact ih1 _ _ _ _ _ _ _ _ _ _ _ _ _)
   | (with_reducible exact ih2 _ _ _ _ _ _ _ _ _ _ _ _ _ _ _)
   | (with_reducible exact ih3 _ _ _ _ _ _ _ _ _ _ _ _ _ _)
   | (with_reducible exact ih4 _ _ _ _ _ _ _ _ _ _ _ _ _ _)
   | (with_reducible exact ih5 _ _ _ _ _ _ _ _ _ _ _ _ _ _ _)
   | (with_reducible exact ih6 _ _ _ _ _ _ _ _ _ _ _)
   | (with_reducible exact ih7 _ _ _ _ _ _ _ _ _ _ _ _)
   | (with_reducible exact ih8 _ _ _ _ _ _ _ _ _ _ _ _)
   | (with_reducible exact heronrylaw21_awake.mono _)
   | (with_reducible exact heronrylaw21_ours.mono _ _ _)
   | (with_reducible exact heronryref21_Sane.mono _ _ _)
   | (with_reducible exact sched_Pick.mono _ _ _ _)
   | (with_reducible exact LeO.refl _)
   | (with_reducible exact LeO.none _)
   | (with_reducible refine LeO.ite ?_ ?_)
   | (with_reducible refine LeO.bind ?_ (fun _ => ?_))
   | exact ih0 _ _ _ _ _
   | exact ih1 _ _ _ _ _ _ _ _ _ _ _ _ _
   | exact ih2 _ _ _ _ _ _ _ _ _ _ _ _ _ _ _
   | exact ih3 _ _ _ _ _ _ _ _ _ _ _ _ _ _
   | exact ih4 _ _ _ _ _ _ _ _ _ _ _ _ _ _
   | exact ih5 _ _ _ _ _ _ _ _ _ _ _ _ _ _ _
   | exact ih6 _ _ _ _ _ _ _ _ _ _ _
   | exact ih7 _ _ _ _ _ _ _ _ _ _ _ _
   | exact ih8 _ _ _ _ _ _ _ _ _ _ _ _
   | exact heronrylaw21_awake.mono _
   | exact heronrylaw21_ours.mono _ _ _
   | exact heronryref21_Sane.mono _ _ _
   | exact sched_Pick.mono _ _ _ _
   | exact LeO.none _
   | refine LeO.ite ?_ ?_
   | refine LeO.bind ?_ (fun _ => ?_)
  ·intro y0 y1 y2 y3 y4 y5 y6 y7 y8 y9 y10 y11
   unfold heronrylaw21_SchedPicks.j7
   repeat' first
   | (with_reducible exact ih0 _ _ _ _ _)
   | (with_reducible exact ih1 _ _ _ _ _ _ _ _ _ _ _ _ _)
   | (with_reducible exact ih2 _ _ _ _ _ _ _ _ _ _ _ _ _ _ _)
   | (with_reducible exact ih3 _ _ _ _ _ _ _ _ _ _ _ _ _ _)
   | (with_reducible exact ih4 _ _ _ _ _ _ _ _ _ _ _ _ _ _)
   | (with_reducible exact ih5 _ _ _ _ _ _ _ _ _ _ _ _ _ _ _)
   | (with_reducible exact ih6 _ _ _ _ _ _ _ _ _ _ _)
   | (with_reducible exact ih7 _ _ _ _ _ _ _ _ _ _ _ _)
   | (with_reducible exact ih8 _ _ _ _ _ _ _ _ _ _ _ _)
   | (with_reducible exact heronrylaw21_awake.mono _)
   | (with_reducible exact heronrylaw21_ours.mono _ _ _)
   | (with_reducible exact heronryref21_Sane.mono _ _ _)
   | (with_reducible exact sched_Pick.mono _ _ _ _)
   | (with_reducible exact LeO.refl _)
   | (with_reducible exact LeO.none _)
   | (with_reducible refine LeO.ite ?_ ?_)
   | (with_reducible refine LeO.bind ?_ (fun _ => ?_))
   | exact ih0 _ _ _ _ _
   | exact ih1 _ _ _ _ _ _ _ _ _ _ _ _ _
   | exact ih2 _ _ _ _ _ _ _ _ _ _ _ _ _ _ _
   | exact ih3 _ _ _ _ _ _ _ _ _ _ _ _ _ _
   | exact ih4 _ _ _ _ _ _ _ _ _ _ _ _ _ _
   | exact ih5 _ _ _ _ _ _ _ _ _ _ _ _ _ _ _
   | exact ih6 _ _ _ _ _ _ _ _ _ _ _
   | exact ih7 _ _ _ _ _ _ _ _ _ _ _ _
   | exact ih8 _ _ _ _ _ _ _ _ _ _ _ _
   | exact heronrylaw21_awake.mono _
   | exact heronrylaw21_ours.mono _ _ _
   | exact heronryref21_Sane.mono _ _ _
   | exact sched_Pick.mono _ _ _ _
   | exact LeO.none _
   | refine LeO.ite ?_ ?_
   | refine LeO.bind ?_ (fun _ => ?_)
  ·intro y0 y1 y2 y3 y4 y5 y6 y7 y8 y9 y10 y11
   unfold heronrylaw21_SchedPicks.l3
   repeat' first
   | (with_reducible exact ih0 _ _ _ _ _)
   | (with_reducible exact ih1 _ _ _ _ _ _ _ _ _ _ _ _ _)
   | (with_reducible exact ih2 _ _ _ _ _ _ _ _ _ _ _ _ _ _ _)
   | (with_reducible exact ih3 _ _ _ _ _ _ _ _ _ _ _ _ _ _)
   | (with_reducible exact ih4 _ _ _ _ _ _ _ _ _ _ _ _ _ _)
   | (with_reducible exact ih5 _ _ _ _ _ _ _ _ _ _ _ _ _ _ _)
   | (with_reducible exact ih6 _ _ _ _ _ _ _ _ _ _ _)
   | (with_reducible exact ih7 _ _ _ _ _ _ _ _ _ _ _ _)
   | (with_reducible exact ih8 _ _ _ _ _ _ _ _ _ _ _ _)
   | (with_reducible exact heronrylaw21_awake.mono _)
   | (with_reducible exact heronrylaw21_ours.mono _ _ _)
   | (with_reducible exact heronryref21_Sane.mono _ _ _)
   | (with_reducible exact sched_Pick.mono _ _ _ _)
   | (with_reducible exact LeO.refl _)
   | (with_reducible exact LeO.none _)
   | (with_reducible refine LeO.ite ?_ ?_)
   | (with_reducible refine LeO.bind ?_ (fun _ => ?_))
   | exact ih0 _ _ _ _ _
   | exact ih1 _ _ _ _ _ _ _ _ _ _ _ _ _
   | exact ih2 _ _ _ _ _ _ _ _ _ _ _ _ _ _ _
   | exact ih3 _ _ _ _ _ _ _ _ _ _ _ _ _ _
   | exact ih4 _ _ _ _ _ _ _ _ _ _ _ _ _ _
   | exact ih5 _ _ _ _ _ _ _ _ _ _ _ _ _ _ _
   | exact ih6 _ _ _ _ _ _ _ _ _ _ _
   | exact ih7 _ _ _ _ _ _ _ _ _ _ _ _
   | exact ih8 _ _ _ _ _ _ _ _ _ _ _ _
   | exact heronrylaw21_awake.mono _
   | exact heronrylaw21_ours.mono _ _ _
   | exact heronryref21_Sane.mono _ _ _
   | exact sched_Pick.mono _ _ _ _
   | exact LeO.none _
   | refine LeO.ite ?_ ?_
   | refine LeO.bind ?_ (fun _ => ?_)
theorem heronrylaw21_SchedPicks.mono : ∀ a0 a1 a2 k, LeO (heronrylaw21_SchedPicks.f k a0 a1 a2) (heronrylaw21_SchedPicks.f (k + 1) a0 a1 a2) := by
 intro a0 a1 a2 k
 obtain ⟨ih0, ih1, ih2, ih3, ih4, ih5, ih6, ih7, ih8⟩ := heronrylaw21_SchedPicks.mono_l k
 unfold heronrylaw21_SchedPicks.f
 repeat' first
   | (with_reducible exact ih0 _ _ _ _ _)
   | (with_reducible exact ih1 _ _ _ _ _ _ _ _ _ _ _ _ _)
   | (with_reducible exact ih2 _ _ _ _ _ _ _ _ _ _ _ _ _ _ _)
   | (with_reducible exact ih3 _ _ _ _ _ _ _ _ _ _ _ _ _ _)
   | (with_reducible exact ih4 _ _ _ _ _ _ _ _ _ _ _ _ _ _)
   | (with_reducible exact ih5 _ _ _ _ _ _ _ _ _ _ _ _ _ _ _)
   | (with_reducible exact ih6 _ _ _ _ _ _ _ _ _ _ _)
   | (with_reducible exact ih7 _ _ _ _ _ _ _ _ _ _ _ _)
   | (with_reducible exact ih8 _ _ _ _ _ _ _ _ _ _ _ _)
   | (with_reducible exact heronrylaw21_awake.mono _)
   | (with_reducible exact heronrylaw21_ours.mono _ _ _)
   | (with_reducible exact heronryref21_Sane.mono _ _ _)
   | (with_reducible exact sched_Pick.mono _ _ _ _)
   | (with_reducible exact LeO.refl _)
   | (with_reducible exact LeO.none _)
   | (with_reducible refine LeO.ite ?_ ?_)
   | (with_reducible refine LeO.bind ?_ (fun _ => ?_))
   | exact ih0 _ _ _ _ _
   | exact ih1 _ _ _ _ _ _ _ _ _ _ _ _ _
   | exact ih2 _ _ _ _ _ _ _ _ _ _ _ _ _ _ _
   | exact ih3 _ _ _ _ _ _ _ _ _ _ _ _ _ _
   | exact ih4 _ _ _ _ _ _ _ _ _ _ _ _ _ _
   | exact ih5 _ _ _ _ _ _ _ _ _ _ _ _ _ _ _
   | exact ih6 _ _ _ _ _ _ _ _ _ _ _
   | exact ih7 _ _ _ _ _ _ _ _ _ _ _ _
   | exact ih8 _ _ _ _ _ _ _ _ _ _ _ _
   | exact heronrylaw21_awake.mono _
   | exact heronrylaw21_ours.mono _ _ _
   | exact heronryref21_Sane.mono _ _ _
   | exact sched_Pick.mono _ _ _ _
   | exact LeO.none _
   | refine LeO.ite ?_ ?_
   | refine LeO.bind ?_ (fun _ => ?_)
set_option maxHeartbeats 8000000 in
set_option maxRecDepth 100000 in
theorem heronrylaw21_SchedPicks.calls (k : Nat) (A0_0 : Option Addr) (c0_0 : Nat) (l0_0 : List (S43)) (a0_1 : Int) (A1 : Option Addr) (c1 : Nat) (l1 : List Int) (r : Bool) (w : World) (hT_ : Aside0 (r = true)) (hr0_0 : Kd.C k43 w A0_0 l0_0.length l0_0) (hc0_0 : l0_0.length ≤ c0_0) (hr1 : Kd.C (Kd.int .i64) w A1 l1.length l1) (hc1 : l1.length ≤ c1) (h : heronrylaw21_SchedPicks.f k l0_0 a0_1 l1 = some r) :
  Calls Try.prog 4 #[.agg #[.slice A0_0 l0_0.length c0_0, .int .i64 a0_1], .slice A1 l1.length c1] w fun e w' => e = .returned (.bool r) ∧ Below w.heap.size w w' := by
 have hu39 := Try.underlying39
 have hu26 := Try.underlying26
 have HR0_0 := Aside0.mk hr0_0
 have HC0_0 := Aside0.mk hc0_0
 clear hr0_0 hc0_0
 have HR1 := Aside0.mk hr1
 have HC1 := Aside0.mk hc1
 clear hr1 hc1
 have HB := Aside0.mk (Below.refl w.heap.size w)
 have H : ((heronrylaw21_awake.f k).bind fun t232 => (if (l0_0.length : Int) > 70 then (heronrylaw21_SchedPicks.j0 k l1 t232 true l0_0 a0_1) else (if (l1.length : Int) > 60 then (heronrylaw21_SchedPicks.j0 k l1 t232 true l0_0 a0_1) else ((heronryref21_Sane.f k l0_0 a0_1).bind fun t233 => (heronrylaw21_SchedPicks.j0 k l1 t232 (!t233) l0_0 a0_1))))) = some r := h
 clear h
 replace H := Option.bind_eq_some_iff.mp H
 obtain ⟨t232, A30, H⟩ := H
 replace H : (if (l0_0.length : Int) > 70 then (heronrylaw21_SchedPicks.j0 k l1 t232 true l0_0 a0_1) else (if (l1.length : Int) > 60 then (heronrylaw21_SchedPicks.j0 k l1 t232 true l0_0 a0_1) else ((heronryref21_Sane.f k l0_0 a0_1).bind fun t233 => (heronrylaw21_SchedPicks.j0 k l1 t232 (!t233) l0_0 a0_1)))) = some r := H
 have A3 := Aside0.mk A30
 clear A30
 have HC4 := Aside0.mk H
 clear H
 go_enter Try.func4, Try.ntmps4
 go_upto_region 2 with (first | ((with_reducible refine gate_dst (N := 2) rfl ?_); (try (refine gate_guard (by rfl) ?_; dsimp only)); refine box_event ?hg (N := 2) ?hd (cs := #[.slice A0_0 l0_0.length c0_0, .int .i64 a0_1]) (t := 39) ?hr ?_; (case hd => rfl); (case hg => rfl); (case hr => first | (go_simp; done) | (go_simp; rfl)); intro gb231 hg w5 hbox hb; have n0_ := Aside0.mk (below_step (by repeat (first | (with_reducible first | exact HB.out | apply below_alloc | apply pw_below_drewN | apply below_drew1) | exact HB.out)) hb); have n1_ := Aside0.mk (hbox); have n2_ := Aside0.mk ((by rw [hg]; exact (below_size (by repeat (first | (with_reducible first | exact HB.out | apply below_alloc | apply pw_below_drewN | apply below_drew1) | exact HB.out))) : w.heap.size ≤ gb231)); have n3_ := Aside0.mk ((by rw [hg]; exact (below_size (by repeat (first | (with_reducible first | exact HB.out | apply below_alloc | apply pw_below_drewN | apply below_drew1) | exact HB.out))) : w.heap.size ≤ gb231)); clear HB; have HB := n0_; have BK231 := n1_; have GW231 := n2_; have GE231 := n3_; clear n0_ n1_ n2_ n3_; clear hb hbox hg) | (go_at_call 8; (with_reducible refine (heronrylaw21_awake.calls k  t232 _ A3.out).mono ?_); rintro e w6 ⟨rfl, hb⟩; have n0_ := Aside0.mk (blk_below (g := gb231) (o := .cells #[.slice A0_0 l0_0.length c0_0, .int .i64 a0_1] 39 (0, 0)) (by (with_reducible repeat (first | refine blk_drewN ?_ _ | refine blk_drew ?_ | refine blk_alloc ?_ _)); exact BK231.out) hb); have n1_ := Aside0.mk (below_step (by repeat (first | (with_reducible first | exact HB.out | apply below_alloc | apply pw_below_drewN | apply below_drew1 | refine below_set ?_ GE231.out) | exact HB.out)) hb); clear BK231; clear HB; have BK231 := n0_; have HB := n1_; clear n0_ n1_; (try clear hb); (try clear hb2); (try clear hk); (try clear hi)))
 repeat (go_quiet (first | ((with_reducible refine gate_dst (N := 2) rfl ?_); (try (refine gate_guard (by rfl) ?_; dsimp only)); refine box_event ?hg (N := 2) ?hd (cs := #[.slice A0_0 l0_0.length c0_0, .int .i64 a0_1]) (t := 39) ?hr ?_; (case hd => rfl); (case hg => rfl); (case hr => first | (go_simp; done) | (go_simp; rfl)); intro gb231 hg w5 hbox hb; have n0_ := Aside0.mk (below_step (by repeat (first | (with_reducible first | exact HB.out | apply below_alloc | apply pw_below_drewN | apply below_drew1) | exact HB.out)) hb); have n1_ := Aside0.mk (hbox); have n2_ := Aside0.mk ((by rw [hg]; exact (below_size (by repeat (first | (with_reducible first | exact HB.out | apply below_alloc | apply pw_below_drewN | apply below_drew1) | exact HB.out))) : w.heap.size ≤ gb231)); have n3_ := Aside0.mk ((by rw [hg]; exact (below_size (by repeat (first | (with_reducible first | exact HB.out | apply below_alloc | apply pw_below_drewN | apply below_drew1) | exact HB.out))) : w.heap.size ≤ gb231)); clear HB; have HB := n0_; have BK231 := n1_; have GW231 := n2_; have GE231 := n3_; clear n0_ n1_ n2_ n3_; clear hb hbox hg) | (go_at_call 8; (with_reducible refine (heronrylaw21_awake.calls k  t232 _ A3.out).mono ?_); rintro e w6 ⟨rfl, hb⟩; have n0_ := Aside0.mk (blk_below (g := gb231) (o := .cells #[.slice A0_0 l0_0.length c0_0, .int .i64 a0_1] 39 (0, 0)) (by (with_reducible repeat (first | refine blk_drewN ?_ _ | refine blk_drew ?_ | refine blk_alloc ?_ _)); exact BK231.out) hb); have n1_ := Aside0.mk (below_step (by repeat (first | (with_reducible first | exact HB.out | apply below_alloc | apply pw_below_drewN | apply below_drew1 | refine below_set ?_ GE231.out) | exact HB.out)) hb); clear BK231; clear HB; have BK231 := n0_; have HB := n1_; clear n0_ n1_; (try clear hb); (try clear hb2); (try clear hk); (try clear hi))); go_upto_region 2 with (first | ((with_reducible refine gate_dst (N := 2) rfl ?_); (try (refine gate_guard (by rfl) ?_; dsimp only)); refine box_event ?hg (N := 2) ?hd (cs := #[.slice A0_0 l0_0.length c0_0, .int .i64 a0_1]) (t := 39) ?hr ?_; (case hd => rfl); (case hg => rfl); (case hr => first | (go_simp; done) | (go_simp; rfl)); intro gb231 hg w5 hbox hb; have n0_ := Aside0.mk (below_step (by repeat (first | (with_reducible first | exact HB.out | apply below_alloc | apply pw_below_drewN | apply below_drew1) | exact HB.out)) hb); have n1_ := Aside0.mk (hbox); have n2_ := Aside0.mk ((by rw [hg]; exact (below_size (by repeat (first | (with_reducible first | exact HB.out | apply below_alloc | apply pw_below_drewN | apply below_drew1) | exact HB.out))) : w.heap.size ≤ gb231)); have n3_ := Aside0.mk ((by rw [hg]; exact (below_size (by repeat (first | (with_reducible first | exact HB.out | apply below_alloc | apply pw_below_drewN | apply below_drew1) | exact HB.out))) : w.heap.size ≤ gb231)); clear HB; have HB := n0_; have BK231 := n1_; have GW231 := n2_; have GE231 := n3_; clear n0_ n1_ n2_ n3_; clear hb hbox hg) | (go_at_call 8; (with_reducible refine (heronrylaw21_awake.calls k  t232 _ A3.out).mono ?_); rintro e w6 ⟨rfl, hb⟩; have n0_ := Aside0.mk (blk_below (g := gb231) (o := .cells #[.slice A0_0 l0_0.length c0_0, .int .i64 a0_1] 39 (0, 0)) (by (with_reducible repeat (first | refine blk_drewN ?_ _ | refine blk_drew ?_ | refine blk_alloc ?_ _)); exact BK231.out) hb); have n1_ := Aside0.mk (below_step (by repeat (first | (with_reducible first | exact HB.out | apply below_alloc | apply pw_below_drewN | apply below_drew1 | refine below_set ?_ GE231.out) | exact HB.out)) hb); clear BK231; clear HB; have BK231 := n0_; have HB := n1_; clear n0_ n1_; (try clear hb); (try clear hb2); (try clear hk); (try clear hi))))
 (try simp only [Act.put, List.setIfInBounds_toArray, List.set_cons_zero, List.set_cons_succ])
 go_cut [33] (fun v33 wc => ∃ (kq : Nat) (x33_3 : Bool), v33 = .bool x33_3 ∧ Aside0 (heronrylaw21_SchedPicks.j0 kq l1 t232 x33_3 l0_0 a0_1 = some r) ∧ Aside0 (kq ≤ k) ∧ Aside0 (wc.heap[gb231]? = some (.cells #[(.slice A0_0 l0_0.length c0_0), .int .i64 a0_1] 39 (0, 0))) ∧ Aside0 (Below w.heap.size w wc))
 case first =>
  have H := HC4.out
  clear HC4
  by_cases c7 : (l0_0.length : Int) > 70
  ·rw [if_pos c7] at H
   have c7b0 : decide (70 < (l0_0.length : Int)) = true := decide_eq_true c7
   have c7b1 : decide (70 < l0_0.length) = true := decide_eq_true (by omega)
   clear c7
   (first | rw [c7b0] | (simp only [i64_w, i32_w]; rw [c7b0]) | skip)
   have H' := Aside0.mk H
   clear H
   have hcz8_0 : w6.cell? ⟨gb231, 0, none⟩ = some (.slice A0_0 l0_0.length c0_0) := (blk_cell BK231.out 0).trans rfl
   have hcz8_1 : w6.cell? ⟨gb231, 1, none⟩ = some (.int .i64 a0_1) := (blk_cell BK231.out 1).trans rfl
   have hfz8_0 := blk_frozen BK231.out 0
   have hfz8_1 := blk_frozen BK231.out 1
   go_wp2
   repeat (go_quiet (fail); try go_wp2)
   go_meet
   case rel => exact ⟨_, (true), (by first | rfl | (simp; done) | (simp [*]; done)), H', ⟨by first | omega | exact Nat.le_refl _⟩, ⟨by (with_reducible repeat (first | refine blk_drewN ?_ _ | refine blk_drew ?_ | refine blk_alloc ?_ _)); exact BK231.out⟩, ⟨by repeat (first | (with_reducible first | exact HB.out | apply below_alloc | apply pw_below_drewN | apply below_drew1 | refine below_set ?_ GE231.out) | exact HB.out)⟩⟩
  ·rw [if_neg c7] at H
   have c7b0 : decide (70 < (l0_0.length : Int)) = false := decide_eq_false c7
   have c7b1 : decide (70 < l0_0.length) = false := decide_eq_false (by omega)
   clear c7
   (first | rw [c7b0] | (simp only [i64_w, i32_w]; rw [c7b0]) | skip)
   by_cases c9 : (l1.length : Int) > 60
   ·rw [if_pos c9] at H
    have c9b0 : decide (60 < (l1.length : Int)) = true := decide_eq_true c9
    have c9b1 : decide (60 < l1.length) = true := decide_eq_true (by omega)
    clear c9
    have H' := Aside0.mk H
    clear H
    have hcz10_0 : w6.cell? ⟨gb231, 0, none⟩ = some (.slice A0_0 l0_0.length c0_0) := (blk_cell BK231.out 0).trans rfl
    have hcz10_1 : w6.cell? ⟨gb231, 1, none⟩ = some (.int .i64 a0_1) := (blk_cell BK231.out 1).trans rfl
    have hfz10_0 := blk_frozen BK231.out 0
    have hfz10_1 := blk_frozen BK231.out 1
    go_wp2
    repeat (go_quiet (fail); try go_wp2)
    go_meet
    case rel => exact ⟨_, (true), (by first | rfl | (simp; done) | (simp [*]; done)), H', ⟨by first | omega | exact Nat.le_refl _⟩, ⟨by (with_reducible repeat (first | refine blk_drewN ?_ _ | refine blk_drew ?_ | refine blk_alloc ?_ _)); exact BK231.out⟩, ⟨by repeat (first | (with_reducible first | exact HB.out | apply below_alloc | apply pw_below_drewN | apply below_drew1 | refine below_set ?_ GE231.out) | exact HB.out)⟩⟩
   ·rw [if_neg c9] at H
    have c9b0 : decide (60 < (l1.length : Int)) = false := decide_eq_false c9
    have c9b1 : decide (60 < l1.length) = false := decide_eq_false (by omega)
    clear c9
    replace H := Option.bind_eq_some_iff.mp H
    obtain ⟨t233, A110, H⟩ := H
    replace H : (heronrylaw21_SchedPicks.j0 k l1 t232 (!t233) l0_0 a0_1) = some r := H
    have A11 := Aside0.mk A110
    clear A110
    have H' := Aside0.mk H
    clear H
    have hcz12_0 : w6.cell? ⟨gb231, 0, none⟩ = some (.slice A0_0 l0_0.length c0_0) := (blk_cell BK231.out 0).trans rfl
    have hcz12_1 : w6.cell? ⟨gb231, 1, none⟩ = some (.int .i64 a0_1) := (blk_cell BK231.out 1).trans rfl
    have hfz12_0 := blk_frozen BK231.out 0
    have hfz12_1 := blk_frozen BK231.out 1
    go_wp2_with (first | (go_at_call 13; (with_reducible refine (heronryref21_Sane.calls k _ _ l0_0 a0_1 t233 _ ?side1 ?side2 A11.out).mono ?_); (case side1 => repeat (first | exact (Kd.C_below HR0_0.out HB.out) | (with_reducible refine Kd.C_alloc ?_ _) | (with_reducible refine Kd.C_drewN ?_ _) | (with_reducible refine Kd.C_drew ?_))); (case side2 => exact HC0_0.out); rintro e w13 ⟨rfl, hb⟩; have n0_ := Aside0.mk (blk_below (g := gb231) (o := .cells #[.slice A0_0 l0_0.length c0_0, .int .i64 a0_1] 39 (0, 0)) (by (with_reducible repeat (first | refine blk_drewN ?_ _ | refine blk_drew ?_ | refine blk_alloc ?_ _)); exact BK231.out) hb); have n1_ := Aside0.mk (below_step (by repeat (first | (with_reducible first | exact HB.out | apply below_alloc | apply pw_below_drewN | apply below_drew1 | refine below_set ?_ GE231.out) | exact HB.out)) hb); clear BK231; clear HB; have BK231 := n0_; have HB := n1_; clear n0_ n1_; (try clear hb); (try clear hb2); (try clear hk); (try clear hi)))
    repeat (go_quiet (first | (go_at_call 13; (with_reducible refine (heronryref21_Sane.calls k _ _ l0_0 a0_1 t233 _ ?side1 ?side2 A11.out).mono ?_); (case side1 => repeat (first | exact (Kd.C_below HR0_0.out HB.out) | (with_reducible refine Kd.C_alloc ?_ _) | (with_reducible refine Kd.C_drewN ?_ _) | (with_reducible refine Kd.C_drew ?_))); (case side2 => exact HC0_0.out); rintro e w13 ⟨rfl, hb⟩; have n0_ := Aside0.mk (blk_below (g := gb231) (o := .cells #[.slice A0_0 l0_0.length c0_0, .int .i64 a0_1] 39 (0, 0)) (by (with_reducible repeat (first | refine blk_drewN ?_ _ | refine blk_drew ?_ | refine blk_alloc ?_ _)); exact BK231.out) hb); have n1_ := Aside0.mk (below_step (by repeat (first | (with_reducible first | exact HB.out | apply below_alloc | apply pw_below_drewN | apply below_drew1 | refine below_set ?_ GE231.out) | exact HB.out)) hb); clear BK231; clear HB; have BK231 := n0_; have HB := n1_; clear n0_ n1_; (try clear hb); (try clear hb2); (try clear hk); (try clear hi))); try go_wp2_with (first | (go_at_call 13; (with_reducible refine (heronryref21_Sane.calls k _ _ l0_0 a0_1 t233 _ ?side1 ?side2 A11.out).mono ?_); (case side1 => repeat (first | exact (Kd.C_below HR0_0.out HB.out) | (with_reducible refine Kd.C_alloc ?_ _) | (with_reducible refine Kd.C_drewN ?_ _) | (with_reducible refine Kd.C_drew ?_))); (case side2 => exact HC0_0.out); rintro e w13 ⟨rfl, hb⟩; have n0_ := Aside0.mk (blk_below (g := gb231) (o := .cells #[.slice A0_0 l0_0.length c0_0, .int .i64 a0_1] 39 (0, 0)) (by (with_reducible repeat (first | refine blk_drewN ?_ _ | refine blk_drew ?_ | refine blk_alloc ?_ _)); exact BK231.out) hb); have n1_ := Aside0.mk (below_step (by repeat (first | (with_reducible first | exact HB.out | apply below_alloc | apply pw_below_drewN | apply below_drew1 | refine below_set ?_ GE231.out) | exact HB.out)) hb); clear BK231; clear HB; have BK231 := n0_; have HB := n1_; clear n0_ n1_; (try clear hb); (try clear hb2); (try clear hk); (try clear hi))))
    go_meet
    case rel => exact ⟨_, (!t233), (by first | rfl | (simp; done) | (simp [*]; done)), H', ⟨by first | omega | exact Nat.le_refl _⟩, ⟨by (with_reducible repeat (first | refine blk_drewN ?_ _ | refine blk_drew ?_ | refine blk_alloc ?_ _)); exact BK231.out⟩, ⟨by repeat (first | (with_reducible first | exact HB.out | apply below_alloc | apply pw_below_drewN | apply below_drew1 | refine below_set ?_ GE231.out) | exact HB.out)⟩⟩
 case rest =>
  clear HC4
  try clear c1
  try clear p2
  try clear c4
  try clear c7
  try clear c7b0
  try clear c7b1
  try clear c9
  try clear c9b0
  try clear c9b1
  try clear hcz10_0
  try clear hcz10_1
  try clear hcz12_0
  try clear hcz12_1
  try clear hcz8_0
  try clear hcz8_1
  try clear hfz10_0
  try clear hfz10_1
  try clear hfz12_0
  try clear hfz12_1
  try clear hfz8_0
  try clear hfz8_1
  obtain ⟨kq, x33_3, rfl, HA, HJ3, BK231, HB⟩ := hcut
  cases kq with
  | zero => exact absurd HA.out (by simp [heronrylaw21_SchedPicks.j0])
  | succ kj3 =>
   have H := HA.out
   clear HA
   simp only [heronrylaw21_SchedPicks.j0] at H
   by_cases c14 : x33_3 = true
   ·subst c14
    have H1 : (some t232) = some r := by rw [if_pos rfl] at H; exact H
    clear H
    have H := H1
    clear H1
    obtain rfl := Option.some.inj H
    go_wp2
    repeat (go_quiet (fail); try go_wp2)
    go_ret
    exact ⟨by first | rfl | (simp [errW_none, errW_some] <;> rfl) | (simp [*, errW_none, errW_some] <;> rfl), by repeat (first | (with_reducible first | exact HB.out | apply below_alloc | apply pw_below_drewN | apply below_drew1 | refine below_set ?_ GE231.out) | exact HB.out)⟩
   ·replace c14 := Bool.eq_false_iff.mpr c14
    subst c14
    have H1 : ((heronrylaw21_ours.f kj3 l0_0 a0_1).bind fun bt234 => ((sched_Pick.f kj3 bt234.1 bt234.2 l1).bind fun bt239 => (heronrylaw21_SchedPicks.l0 kj3 l1 t232 bt239.2.2.1 bt239.2.2.2 false false 0 0 0 l0_0 a0_1 bt239.1 bt239.2.1))) = some r := by rw [if_neg (show ¬ (false = true) by decide)] at H; exact H
    clear H
    have H := H1
    clear H1
    replace H := Option.bind_eq_some_iff.mp H
    obtain ⟨⟨t234, t237⟩, A150, H⟩ := H
    replace H : ((sched_Pick.f kj3 t234 t237 l1).bind fun bt239 => (heronrylaw21_SchedPicks.l0 kj3 l1 t232 bt239.2.2.1 bt239.2.2.2 false false 0 0 0 l0_0 a0_1 bt239.1 bt239.2.1)) = some r := H
    have A15 := Aside0.mk A150
    clear A150
    replace H := Option.bind_eq_some_iff.mp H
    obtain ⟨⟨t239, t242, t243, t244⟩, A160, H⟩ := H
    replace H : (heronrylaw21_SchedPicks.l0 kj3 l1 t232 t243 t244 false false 0 0 0 l0_0 a0_1 t239 t242) = some r := H
    have A16 := Aside0.mk A160
    clear A160
    have H' := Aside0.mk H
    clear H
    have hcz17_0 : wc.cell? ⟨gb231, 0, none⟩ = some (.slice A0_0 l0_0.length c0_0) := (blk_cell BK231.out 0).trans rfl
    have hcz17_1 : wc.cell? ⟨gb231, 1, none⟩ = some (.int .i64 a0_1) := (blk_cell BK231.out 1).trans rfl
    have hfz17_0 := blk_frozen BK231.out 0
    have hfz17_1 := blk_frozen BK231.out 1
    go_wp2_with (first | (go_at_call 14; (with_reducible refine (heronrylaw21_ours.calls kj3 _ _ l0_0 a0_1 t234 t237 _ ?side1 ?side2 A15.out).mono ?_); (case side1 => repeat (first | exact (Kd.C_below HR0_0.out HB.out) | (with_reducible refine Kd.C_alloc ?_ _) | (with_reducible refine Kd.C_drewN ?_ _) | (with_reducible refine Kd.C_drew ?_))); (case side2 => exact HC0_0.out); rintro e w18 ⟨v235, rfl, ho0, hb⟩; have n0_ := Aside0.mk (Kd.R_lower ho0 (below_size (by repeat (first | (with_reducible first | exact HB.out | apply below_alloc | apply pw_below_drewN | apply below_drew1 | refine below_set ?_ GE231.out) | exact HB.out)))); have n1_ := Aside0.mk (blk_below (g := gb231) (o := .cells #[.slice A0_0 l0_0.length c0_0, .int .i64 a0_1] 39 (0, 0)) (by (with_reducible repeat (first | refine blk_drewN ?_ _ | refine blk_drew ?_ | refine blk_alloc ?_ _)); exact BK231.out) hb); have n2_ := Aside0.mk (below_step (by repeat (first | (with_reducible first | exact HB.out | apply below_alloc | apply pw_below_drewN | apply below_drew1 | refine below_set ?_ GE231.out) | exact HB.out)) hb); clear BK231; clear HB; have HO236 := n0_; have BK231 := n1_; have HB := n2_; clear n0_ n1_ n2_; (try clear hb); (try clear hb2); (try clear hk); (try clear hi); (try clear ho0)) | ((with_reducible refine gate_dst (N := 6) rfl ?_); (try (refine gate_guard (by rfl) ?_; dsimp only)); refine box_event ?hg (N := 6) ?hd (cs := #[.slice none 0 0, .int .i64 0]) (t := 26) ?hr ?_; (case hd => rfl); (case hg => rfl); (case hr => first | (go_simp; done) | (go_simp; rfl)); intro gb238 hg w19 hbox hb; have n0_ := Aside0.mk (Kd.R_below (by (with_reducible repeat (first | apply Kd.R_alloc | apply Kd.R_drewN | apply Kd.R_drew)); exact HO236.out) hb); have n1_ := Aside0.mk (blk_below (g := gb231) (o := .cells #[.slice A0_0 l0_0.length c0_0, .int .i64 a0_1] 39 (0, 0)) (by (with_reducible repeat (first | refine blk_drewN ?_ _ | refine blk_drew ?_ | refine blk_alloc ?_ _)); exact BK231.out) hb); have n2_ := Aside0.mk (below_step (by repeat (first | (with_reducible first | exact HB.out | apply below_alloc | apply pw_below_drewN | apply below_drew1 | refine below_set ?_ GE231.out) | exact HB.out)) hb); have n3_ := Aside0.mk (hbox); have n4_ := Aside0.mk ((by rw [hg]; exact (below_size (by repeat (first | (with_reducible first | exact HB.out | apply below_alloc | apply pw_below_drewN | apply below_drew1 | refine below_set ?_ GE231.out) | exact HB.out))) : w.heap.size ≤ gb238)); have n5_ := Aside0.mk ((by rw [hg]; exact (below_size (by repeat (first | (with_reducible first | exact HB.out | apply below_alloc | apply pw_below_drewN | apply below_drew1 | refine below_set ?_ GE231.out) | exact HB.out))) : w.heap.size ≤ gb238)); have n6_ := Aside0.mk ((by rw [hg]; exact Nat.ne_of_lt (blk_lt (g := gb231) (o := .cells #[.slice A0_0 l0_0.length c0_0, .int .i64 a0_1] 39 (0, 0)) (by (with_reducible repeat (first | refine blk_drewN ?_ _ | refine blk_drew ?_ | refine blk_alloc ?_ _)); exact BK231.out)) : gb231 ≠ gb238)); have n7_ := Aside0.mk ((by rw [hg]; exact Nat.ne_of_gt (blk_lt (g := gb231) (o := .cells #[.slice A0_0 l0_0.length c0_0, .int .i64 a0_1] 39 (0, 0)) (by (with_reducible repeat (first | refine blk_drewN ?_ _ | refine blk_drew ?_ | refine blk_alloc ?_ _)); exact BK231.out)) : gb238 ≠ gb231)); clear HO236; clear BK231; clear HB; have HO236 := n0_; have BK231 := n1_; have HB := n2_; have BK238 := n3_; have GW238 := n4_; have GE238 := n5_; have NB231_238 := n6_; have NB238_231 := n7_; clear n0_ n1_ n2_ n3_ n4_ n5_ n6_ n7_; clear hb hbox hg; obtain ⟨Ao20, co20, eo20⟩ := Kd.R_slice HO236.out; subst eo20; have hnb21 := NB238_231.out; have hnc21 := NB231_238.out; have hcz22_0 : w19.cell? ⟨gb238, 0, none⟩ = some (.slice none 0 0) := (blk_cell BK238.out 0).trans rfl; have hcz22_1 : w19.cell? ⟨gb238, 1, none⟩ = some (.int .i64 0) := (blk_cell BK238.out 1).trans rfl; have hfz22_0 := blk_frozen BK238.out 0; have hfz22_1 := blk_frozen BK238.out 1) | (go_at_call 11; (with_reducible refine (sched_Pick.calls kj3 _ _ t234 t237 _ _ l1 t239 t242 t243 t244 _ ?side1 ?side2 ?side3 ?side4 A16.out).mono ?_); (case side1 => refine (Kd.R_reads' (e := 44) (base := w.heap.size) (ok := fun k_ => True) (n := t234.length) (c := co20) ?_).2.2; exact (by (with_reducible repeat (first | apply Kd.R_alloc | apply Kd.R_drewN | apply Kd.R_drew)); exact (Kd.R_mono (Kd.R_far (p := ⟨gb238, 1, none⟩) (Kd.R_far (p := ⟨gb238, 0, none⟩) (Kd.R_types HO236.out BK238.out (by decide)) (fun _ hk => hk.2) (.slice Ao20 t234.length co20)) (fun _ hk => hk.2) (.int .i64 t237)) (fun _ h_ => h_.1)))); (case side2 => exact (Kd.R_reads' HO236.out).2.1); (case side3 => exact Kd.C_below HR1.out (by repeat (first | (with_reducible first | exact HB.out | apply below_alloc | apply pw_below_drewN | apply below_drew1 | refine below_set ?_ GE231.out | refine below_set ?_ GE238.out) | exact HB.out))); (case side4 => exact HC1.out); rintro e w23 ⟨v240, rfl, ho0, hb⟩; have n0_ := Aside0.mk (Kd.R_elder' (by (with_reducible repeat (first | apply Kd.R_alloc | apply Kd.R_drewN | apply Kd.R_drew)); exact (Kd.R_mono (Kd.R_far (p := ⟨gb238, 1, none⟩) (Kd.R_far (p := ⟨gb238, 0, none⟩) (Kd.R_types HO236.out BK238.out (by decide)) (fun _ hk => hk.2) (.slice Ao20 t234.length co20)) (fun _ hk => hk.2) (.int .i64 t237)) (fun _ h_ => h_.1))) (Kd.R_base ho0) hb); have n1_ := Aside0.mk (Kd.R_lower (Kd.R_new' ho0 (Kd.R_lt (by (with_reducible repeat (first | apply Kd.R_alloc | apply Kd.R_drewN | apply Kd.R_drew)); exact (Kd.R_mono (Kd.R_far (p := ⟨gb238, 1, none⟩) (Kd.R_far (p := ⟨gb238, 0, none⟩) (Kd.R_types HO236.out BK238.out (by decide)) (fun _ hk => hk.2) (.slice Ao20 t234.length co20)) (fun _ hk => hk.2) (.int .i64 t237)) (fun _ h_ => h_.1))))) (below_size (by repeat (first | (with_reducible first | exact HB.out | apply below_alloc | apply pw_below_drewN | apply below_drew1 | refine below_set ?_ GE231.out | refine below_set ?_ GE238.out) | exact HB.out)))); have n2_ := Aside0.mk (blk_below (g := gb231) (o := .cells #[.slice A0_0 l0_0.length c0_0, .int .i64 a0_1] 39 (0, 0)) (by (with_reducible repeat (first | refine blk_drewN ?_ _ | refine blk_drew ?_ | refine blk_alloc ?_ _)); refine blk_far ?_ NB231_238.out _; (with_reducible repeat (first | refine blk_drewN ?_ _ | refine blk_drew ?_ | refine blk_alloc ?_ _)); refine blk_far ?_ NB231_238.out _; (with_reducible repeat (first | refine blk_drewN ?_ _ | refine blk_drew ?_ | refine blk_alloc ?_ _)); exact BK231.out) hb); have n3_ := Aside0.mk (blk_below (g := gb238) (o := .cells #[.slice Ao20 t234.length co20, .int .i64 t237] 26 (0, 0)) (by (with_reducible repeat (first | refine blk_drewN ?_ _ | refine blk_drew ?_ | refine blk_alloc ?_ _)); refine blk_put (cs := #[.slice Ao20 t234.length co20, .int .i64 0]) ?_ 1 _ rfl; (with_reducible repeat (first | refine blk_drewN ?_ _ | refine blk_drew ?_ | refine blk_alloc ?_ _)); refine blk_put (cs := #[.slice none 0 0, .int .i64 0]) ?_ 0 _ rfl; (with_reducible repeat (first | refine blk_drewN ?_ _ | refine blk_drew ?_ | refine blk_alloc ?_ _)); exact BK238.out) hb); have n4_ := Aside0.mk (below_step (by repeat (first | (with_reducible first | exact HB.out | apply below_alloc | apply pw_below_drewN | apply below_drew1 | refine below_set ?_ GE231.out | refine below_set ?_ GE238.out) | exact HB.out)) hb); clear HO236; clear BK231; clear BK238; clear HB; have HO236 := n0_; have HO241 := n1_; have BK231 := n2_; have BK238 := n3_; have HB := n4_; clear n0_ n1_ n2_ n3_ n4_; (try clear hb); (try clear hb2); (try clear hk); (try clear hi); (try clear ho0)) | ((with_reducible refine gate_dst (N := 7) rfl ?_); (try (refine gate_guard (by rfl) ?_; dsimp only)); refine box_event ?hg (N := 7) ?hd (cs := #[.slice none 0 0, .int .i64 0]) (t := 26) ?hr ?_; (case hd => rfl); (case hg => rfl); (case hr => first | (go_simp; done) | (go_simp; rfl)); intro gb245 hg w24 hbox hb; have n0_ := Aside0.mk (Kd.R_below (by (with_reducible repeat (first | apply Kd.R_alloc | apply Kd.R_drewN | apply Kd.R_drew)); exact HO236.out) hb); have n1_ := Aside0.mk (Kd.R_below (by (with_reducible repeat (first | apply Kd.R_alloc | apply Kd.R_drewN | apply Kd.R_drew)); exact HO241.out) hb); have n2_ := Aside0.mk (blk_below (g := gb231) (o := .cells #[.slice A0_0 l0_0.length c0_0, .int .i64 a0_1] 39 (0, 0)) (by (with_reducible repeat (first | refine blk_drewN ?_ _ | refine blk_drew ?_ | refine blk_alloc ?_ _)); exact BK231.out) hb); have n3_ := Aside0.mk (blk_below (g := gb238) (o := .cells #[.slice Ao20 t234.length co20, .int .i64 t237] 26 (0, 0)) (by (with_reducible repeat (first | refine blk_drewN ?_ _ | refine blk_drew ?_ | refine blk_alloc ?_ _)); exact BK238.out) hb); have n4_ := Aside0.mk (below_step (by repeat (first | (with_reducible first | exact HB.out | apply below_alloc | apply pw_below_drewN | apply below_drew1 | refine below_set ?_ GE231.out | refine below_set ?_ GE238.out) | exact HB.out)) hb); have n5_ := Aside0.mk (hbox); have n6_ := Aside0.mk ((by rw [hg]; exact (below_size (by repeat (first | (with_reducible first | exact HB.out | apply below_alloc | apply pw_below_drewN | apply below_drew1 | refine below_set ?_ GE231.out | refine below_set ?_ GE238.out) | exact HB.out))) : w.heap.size ≤ gb245)); have n7_ := Aside0.mk ((by rw [hg]; exact (below_size (by repeat (first | (with_reducible first | exact HB.out | apply below_alloc | apply pw_below_drewN | apply below_drew1 | refine below_set ?_ GE231.out | refine below_set ?_ GE238.out) | exact HB.out))) : w.heap.size ≤ gb245)); have n8_ := Aside0.mk ((by rw [hg]; exact Nat.ne_of_lt (blk_lt (g := gb231) (o := .cells #[.slice A0_0 l0_0.length c0_0, .int .i64 a0_1] 39 (0, 0)) (by (with_reducible repeat (first | refine blk_drewN ?_ _ | refine blk_drew ?_ | refine blk_alloc ?_ _)); exact BK231.out)) : gb231 ≠ gb245)); have n9_ := Aside0.mk ((by rw [hg]; exact Nat.ne_of_gt (blk_lt (g := gb231) (o := .cells #[.slice A0_0 l0_0.length c0_0, .int .i64 a0_1] 39 (0, 0)) (by (with_reducible repeat (first | refine blk_drewN ?_ _ | refine blk_drew ?_ | refine blk_alloc ?_ _)); exact BK231.out)) : gb245 ≠ gb231)); have n10_ := Aside0.mk ((by rw [hg]; exact Nat.ne_of_lt (blk_lt (g := gb238) (o := .cells #[.slice Ao20 t234.length co20, .int .i64 t237] 26 (0, 0)) (by (with_reducible repeat (first | refine blk_drewN ?_ _ | refine blk_drew ?_ | refine blk_alloc ?_ _)); exact BK238.out)) : gb238 ≠ gb245)); have n11_ := Aside0.mk ((by rw [hg]; exact Nat.ne_of_gt (blk_lt (g := gb238) (o := .cells #[.slice Ao20 t234.length co20, .int .i64 t237] 26 (0, 0)) (by (with_reducible repeat (first | refine blk_drewN ?_ _ | refine blk_drew ?_ | refine blk_alloc ?_ _)); exact BK238.out)) : gb245 ≠ gb238)); clear HO236; clear HO241; clear BK231; clear BK238; clear HB; have HO236 := n0_; have HO241 := n1_; have BK231 := n2_; have BK238 := n3_; have HB := n4_; have BK245 := n5_; have GW245 := n6_; have GE245 := n7_; have NB231_245 := n8_; have NB245_231 := n9_; have NB238_245 := n10_; have NB245_238 := n11_; clear n0_ n1_ n2_ n3_ n4_ n5_ n6_ n7_ n8_ n9_ n10_ n11_; clear hb hbox hg; obtain ⟨Ao25, co25, eo25⟩ := Kd.R_slice HO241.out; subst eo25; have hnb26 := NB245_231.out; have hnc26 := NB231_245.out; have hnb27 := NB245_238.out; have hnc27 := NB238_245.out; have hcz28_0 : w24.cell? ⟨gb245, 0, none⟩ = some (.slice none 0 0) := (blk_cell BK245.out 0).trans rfl; have hcz28_1 : w24.cell? ⟨gb245, 1, none⟩ = some (.int .i64 0) := (blk_cell BK245.out 1).trans rfl; have hfz28_0 := blk_frozen BK245.out 0; have hfz28_1 := blk_frozen BK245.out 1))
    repeat (go_quiet (first | (go_at_call 14; (with_reducible refine (heronrylaw21_ours.calls kj3 _ _ l0_0 a0_1 t234 t237 _ ?side1 ?side2 A15.out).mono ?_); (case side1 => repeat (first | exact (Kd.C_below HR0_0.out HB.out) | (with_reducible refine Kd.C_alloc ?_ _) | (with_reducible refine Kd.C_drewN ?_ _) | (with_reducible refine Kd.C_drew ?_))); (case side2 => exact HC0_0.out); rintro e w18 ⟨v235, rfl, ho0, hb⟩; have n0_ := Aside0.mk (Kd.R_lower ho0 (below_size (by repeat (first | (with_reducible first | exact HB.out | apply below_alloc | apply pw_below_drewN | apply below_drew1 | refine below_set ?_ GE231.out) | exact HB.out)))); have n1_ := Aside0.mk (blk_below (g := gb231) (o := .cells #[.slice A0_0 l0_0.length c0_0, .int .i64 a0_1] 39 (0, 0)) (by (with_reducible repeat (first | refine blk_drewN ?_ _ | refine blk_drew ?_ | refine blk_alloc ?_ _)); exact BK231.out) hb); have n2_ := Aside0.mk (below_step (by repeat (first | (with_reducible first | exact HB.out | apply below_alloc | apply pw_below_drewN | apply below_drew1 | refine below_set ?_ GE231.out) | exact HB.out)) hb); clear BK231; clear HB; have HO236 := n0_; have BK231 := n1_; have HB := n2_; clear n0_ n1_ n2_; (try clear hb); (try clear hb2); (try clear hk); (try clear hi); (try clear ho0)) | ((with_reducible refine gate_dst (N := 6) rfl ?_); (try (refine gate_guard (by rfl) ?_; dsimp only)); refine box_event ?hg (N := 6) ?hd (cs := #[.slice none 0 0, .int .i64 0]) (t := 26) ?hr ?_; (case hd => rfl); (case hg => rfl); (case hr => first | (go_simp; done) | (go_simp; rfl)); intro gb238 hg w19 hbox hb; have n0_ := Aside0.mk (Kd.R_below (by (with_reducible repeat (first | apply Kd.R_alloc | apply Kd.R_drewN | apply Kd.R_drew)); exact HO236.out) hb); have n1_ := Aside0.mk (blk_below (g := gb231) (o := .cells #[.slice A0_0 l0_0.length c0_0, .int .i64 a0_1] 39 (0, 0)) (by (with_reducible repeat (first | refine blk_drewN ?_ _ | refine blk_drew ?_ | refine blk_alloc ?_ _)); exact BK231.out) hb); have n2_ := Aside0.mk (below_step (by repeat (first | (with_reducible first | exact HB.out | apply below_alloc | apply pw_below_drewN | apply below_drew1 | refine below_set ?_ GE231.out) | exact HB.out)) hb); have n3_ := Aside0.mk (hbox); have n4_ := Aside0.mk ((by rw [hg]; exact (below_size (by repeat (first | (with_reducible first | exact HB.out | apply below_alloc | apply pw_below_drewN | apply below_drew1 | refine below_set ?_ GE231.out) | exact HB.out))) : w.heap.size ≤ gb238)); have n5_ := Aside0.mk ((by rw [hg]; exact (below_size (by repeat (first | (with_reducible first | exact HB.out | apply below_alloc | apply pw_below_drewN | apply below_drew1 | refine below_set ?_ GE231.out) | exact HB.out))) : w.heap.size ≤ gb238)); have n6_ := Aside0.mk ((by rw [hg]; exact Nat.ne_of_lt (blk_lt (g := gb231) (o := .cells #[.slice A0_0 l0_0.length c0_0, .int .i64 a0_1] 39 (0, 0)) (by (with_reducible repeat (first | refine blk_drewN ?_ _ | refine blk_drew ?_ | refine blk_alloc ?_ _)); exact BK231.out)) : gb231 ≠ gb238)); have n7_ := Aside0.mk ((by rw [hg]; exact Nat.ne_of_gt (blk_lt (g := gb231) (o := .cells #[.slice A0_0 l0_0.length c0_0, .int .i64 a0_1] 39 (0, 0)) (by (with_reducible repeat (first | refine blk_drewN ?_ _ | refine blk_drew ?_ | refine blk_alloc ?_ _)); exact BK231.out)) : gb238 ≠ gb231)); clear HO236; clear BK231; clear HB; have HO236 := n0_; have BK231 := n1_; have HB := n2_; have BK238 := n3_; have GW238 := n4_; have GE238 := n5_; have NB231_238 := n6_; have NB238_231 := n7_; clear n0_ n1_ n2_ n3_ n4_ n5_ n6_ n7_; clear hb hbox hg; obtain ⟨Ao20, co20, eo20⟩ := Kd.R_slice HO236.out; subst eo20; have hnb21 := NB238_231.out; have hnc21 := NB231_238.out; have hcz22_0 : w19.cell? ⟨gb238, 0, none⟩ = some (.slice none 0 0) := (blk_cell BK238.out 0).trans rfl; have hcz22_1 : w19.cell? ⟨gb238, 1, none⟩ = some (.int .i64 0) := (blk_cell BK238.out 1).trans rfl; have hfz22_0 := blk_frozen BK238.out 0; have hfz22_1 := blk_frozen BK238.out 1) | (go_at_call 11; (with_reducible refine (sched_Pick.calls kj3 _ _ t234 t237 _ _ l1 t239 t242 t243 t244 _ ?side1 ?side2 ?side3 ?side4 A16.out).mono ?_); (case side1 => refine (Kd.R_reads' (e := 44) (base := w.heap.size) (ok := fun k_ => True) (n := t234.length) (c := co20) ?_).2.2; exact (by (with_reducible repeat (first | apply Kd.R_alloc | apply Kd.R_drewN | apply Kd.R_drew)); exact (Kd.R_mono (Kd.R_far (p := ⟨gb238, 1, none⟩) (Kd.R_far (p := ⟨gb238, 0, none⟩) (Kd.R_types HO236.out BK238.out (by decide)) (fun _ hk => hk.2) (.slice Ao20 t234.length co20)) (fun _ hk => hk.2) (.int .i64 t237)) (fun _ h_ => h_.1)))); (case side2 => exact (Kd.R_reads' HO236.out).2.1); (case side3 => exact Kd.C_below HR1.out (by repeat (first | (with_reducible first | exact HB.out | apply below_alloc | apply pw_below_drewN | apply below_drew1 | refine below_set ?_ GE231.out | refine below_set ?_ GE238.out) | exact HB.out))); (case side4 => exact HC1.out); rintro e w23 ⟨v240, rfl, ho0, hb⟩; have n0_ := Aside0.mk (Kd.R_elder' (by (with_reducible repeat (first | apply Kd.R_alloc | apply Kd.R_drewN | apply Kd.R_drew)); exact (Kd.R_mono (Kd.R_far (p := ⟨gb238, 1, none⟩) (Kd.R_far (p := ⟨gb238, 0, none⟩) (Kd.R_types HO236.out BK238.out (by decide)) (fun _ hk => hk.2) (.slice Ao20 t234.length co20)) (fun _ hk => hk.2) (.int .i64 t237)) (fun _ h_ => h_.1))) (Kd.R_base ho0) hb); have n1_ := Aside0.mk (Kd.R_lower (Kd.R_new' ho0 (Kd.R_lt (by (with_reducible repeat (first | apply Kd.R_alloc | apply Kd.R_drewN | apply Kd.R_drew)); exact (Kd.R_mono (Kd.R_far (p := ⟨gb238, 1, none⟩) (Kd.R_far (p := ⟨gb238, 0, none⟩) (Kd.R_types HO236.out BK238.out (by decide)) (fun _ hk => hk.2) (.slice Ao20 t234.length co20)) (fun _ hk => hk.2) (.int .i64 t237)) (fun _ h_ => h_.1))))) (below_size (by repeat (first | (with_reducible first | exact HB.out | apply below_alloc | apply pw_below_drewN | apply below_drew1 | refine below_set ?_ GE231.out | refine below_set ?_ GE238.out) | exact HB.out)))); have n2_ := Aside0.mk (blk_below (g := gb231) (o := .cells #[.slice A0_0 l0_0.length c0_0, .int .i64 a0_1] 39 (0, 0)) (by (with_reducible repeat (first | refine blk_drewN ?_ _ | refine blk_drew ?_ | refine blk_alloc ?_ _)); refine blk_far ?_ NB231_238.out _; (with_reducible repeat (first | refine blk_drewN ?_ _ | refine blk_drew ?_ | refine blk_alloc ?_ _)); refine blk_far ?_ NB231_238.out _; (with_reducible repeat (first | refine blk_drewN ?_ _ | refine blk_drew ?_ | refine blk_alloc ?_ _)); exact BK231.out) hb); have n3_ := Aside0.mk (blk_below (g := gb238) (o := .cells #[.slice Ao20 t234.length co20, .int .i64 t237] 26 (0, 0)) (by (with_reducible repeat (first | refine blk_drewN ?_ _ | refine blk_drew ?_ | refine blk_alloc ?_ _)); refine blk_put (cs := #[.slice Ao20 t234.length co20, .int .i64 0]) ?_ 1 _ rfl; (with_reducible repeat (first | refine blk_drewN ?_ _ | refine blk_drew ?_ | refine blk_alloc ?_ _)); refine blk_put (cs := #[.slice none 0 0, .int .i64 0]) ?_ 0 _ rfl; (with_reducible repeat (first | refine blk_drewN ?_ _ | refine blk_drew ?_ | refine blk_alloc ?_ _)); exact BK238.out) hb); have n4_ := Aside0.mk (below_step (by repeat (first | (with_reducible first | exact HB.out | apply below_alloc | apply pw_below_drewN | apply below_drew1 | refine below_set ?_ GE231.out | refine below_set ?_ GE238.out) | exact HB.out)) hb); clear HO236; clear BK231; clear BK238; clear HB; have HO236 := n0_; have HO241 := n1_; have BK231 := n2_; have BK238 := n3_; have HB := n4_; clear n0_ n1_ n2_ n3_ n4_; (try clear hb); (try clear hb2); (try clear hk); (try clear hi); (try clear ho0)) | ((with_reducible refine gate_dst (N := 7) rfl ?_); (try (refine gate_guard (by rfl) ?_; dsimp only)); refine box_event ?hg (N := 7) ?hd (cs := #[.slice none 0 0, .int .i64 0]) (t := 26) ?hr ?_; (case hd => rfl); (case hg => rfl); (case hr => first | (go_simp; done) | (go_simp; rfl)); intro gb245 hg w24 hbox hb; have n0_ := Aside0.mk (Kd.R_below (by (with_reducible repeat (first | apply Kd.R_alloc | apply Kd.R_drewN | apply Kd.R_drew)); exact HO236.out) hb); have n1_ := Aside0.mk (Kd.R_below (by (with_reducible repeat (first | apply Kd.R_alloc | apply Kd.R_drewN | apply Kd.R_drew)); exact HO241.out) hb); have n2_ := Aside0.mk (blk_below (g := gb231) (o := .cells #[.slice A0_0 l0_0.length c0_0, .int .i64 a0_1] 39 (0, 0)) (by (with_reducible repeat (first | refine blk_drewN ?_ _ | refine blk_drew ?_ | refine blk_alloc ?_ _)); exact BK231.out) hb); have n3_ := Aside0.mk (blk_below (g := gb238) (o := .cells #[.slice Ao20 t234.length co20, .int .i64 t237] 26 (0, 0)) (by (with_reducible repeat (first | refine blk_drewN ?_ _ | refine blk_drew ?_ | refine blk_alloc ?_ _)); exact BK238.out) hb); have n4_ := Aside0.mk (below_step (by repeat (first | (with_reducible first | exact HB.out | apply below_alloc | apply pw_below_drewN | apply below_drew1 | refine below_set ?_ GE231.out | refine below_set ?_ GE238.out) | exact HB.out)) hb); have n5_ := Aside0.mk (hbox); have n6_ := Aside0.mk ((by rw [hg]; exact (below_size (by repeat (first | (with_reducible first | exact HB.out | apply below_alloc | apply pw_below_drewN | apply below_drew1 | refine below_set ?_ GE231.out | refine below_set ?_ GE238.out) | exact HB.out))) : w.heap.size ≤ gb245)); have n7_ := Aside0.mk ((by rw [hg]; exact (below_size (by repeat (first | (with_reducible first | exact HB.out | apply below_alloc | apply pw_below_drewN | apply below_drew1 | refine below_set ?_ GE231.out | refine below_set ?_ GE238.out) | exact HB.out))) : w.heap.size ≤ gb245)); have n8_ := Aside0.mk ((by rw [hg]; exact Nat.ne_of_lt (blk_lt (g := gb231) (o := .cells #[.slice A0_0 l0_0.length c0_0, .int .i64 a0_1] 39 (0, 0)) (by (with_reducible repeat (first | refine blk_drewN ?_ _ | refine blk_drew ?_ | refine blk_alloc ?_ _)); exact BK231.out)) : gb231 ≠ gb245)); have n9_ := Aside0.mk ((by rw [hg]; exact Nat.ne_of_gt (blk_lt (g := gb231) (o := .cells #[.slice A0_0 l0_0.length c0_0, .int .i64 a0_1] 39 (0, 0)) (by (with_reducible repeat (first | refine blk_drewN ?_ _ | refine blk_drew ?_ | refine blk_alloc ?_ _)); exact BK231.out)) : gb245 ≠ gb231)); have n10_ := Aside0.mk ((by rw [hg]; exact Nat.ne_of_lt (blk_lt (g := gb238) (o := .cells #[.slice Ao20 t234.length co20, .int .i64 t237] 26 (0, 0)) (by (with_reducible repeat (first | refine blk_drewN ?_ _ | refine blk_drew ?_ | refine blk_alloc ?_ _)); exact BK238.out)) : gb238 ≠ gb245)); have n11_ := Aside0.mk ((by rw [hg]; exact Nat.ne_of_gt (blk_lt (g := gb238) (o := .cells #[.slice Ao20 t234.length co20, .int .i64 t237] 26 (0, 0)) (by (with_reducible repeat (first | refine blk_drewN ?_ _ | refine blk_drew ?_ | refine blk_alloc ?_ _)); exact BK238.out)) : gb245 ≠ gb238)); clear HO236; clear HO241; clear BK231; clear BK238; clear HB; have HO236 := n0_; have HO241 := n1_; have BK231 := n2_; have BK238 := n3_; have HB := n4_; have BK245 := n5_; have GW245 := n6_; have GE245 := n7_; have NB231_245 := n8_; have NB245_231 := n9_; have NB238_245 := n10_; have NB245_238 := n11_; clear n0_ n1_ n2_ n3_ n4_ n5_ n6_ n7_ n8_ n9_ n10_ n11_; clear hb hbox hg; obtain ⟨Ao25, co25, eo25⟩ := Kd.R_slice HO241.out; subst eo25; have hnb26 := NB245_231.out; have hnc26 := NB231_245.out; have hnb27 := NB245_238.out; have hnc27 := NB238_245.out; have hcz28_0 : w24.cell? ⟨gb245, 0, none⟩ = some (.slice none 0 0) := (blk_cell BK245.out 0).trans rfl; have hcz28_1 : w24.cell? ⟨gb245, 1, none⟩ = some (.int .i64 0) := (blk_cell BK245.out 1).trans rfl; have hfz28_0 := blk_frozen BK245.out 0; have hfz28_1 := blk_frozen BK245.out 1)); try go_wp2_with (first | (go_at_call 14; (with_reducible refine (heronrylaw21_ours.calls kj3 _ _ l0_0 a0_1 t234 t237 _ ?side1 ?side2 A15.out).mono ?_); (case side1 => repeat (first | exact (Kd.C_below HR0_0.out HB.out) | (with_reducible refine Kd.C_alloc ?_ _) | (with_reducible refine Kd.C_drewN ?_ _) | (with_reducible refine Kd.C_drew ?_))); (case side2 => exact HC0_0.out); rintro e w18 ⟨v235, rfl, ho0, hb⟩; have n0_ := Aside0.mk (Kd.R_lower ho0 (below_size (by repeat (first | (with_reducible first | exact HB.out | apply below_alloc | apply pw_below_drewN | apply below_drew1 | refine below_set ?_ GE231.out) | exact HB.out)))); have n1_ := Aside0.mk (blk_below (g := gb231) (o := .cells #[.slice A0_0 l0_0.length c0_0, .int .i64 a0_1] 39 (0, 0)) (by (with_reducible repeat (first | refine blk_drewN ?_ _ | refine blk_drew ?_ | refine blk_alloc ?_ _)); exact BK231.out) hb); have n2_ := Aside0.mk (below_step (by repeat (first | (with_reducible first | exact HB.out | apply below_alloc | apply pw_below_drewN | apply below_drew1 | refine below_set ?_ GE231.out) | exact HB.out)) hb); clear BK231; clear HB; have HO236 := n0_; have BK231 := n1_; have HB := n2_; clear n0_ n1_ n2_; (try clear hb); (try clear hb2); (try clear hk); (try clear hi); (try clear ho0)) | ((with_reducible refine gate_dst (N := 6) rfl ?_); (try (refine gate_guard (by rfl) ?_; dsimp only)); refine box_event ?hg (N := 6) ?hd (cs := #[.slice none 0 0, .int .i64 0]) (t := 26) ?hr ?_; (case hd => rfl); (case hg => rfl); (case hr => first | (go_simp; done) | (go_simp; rfl)); intro gb238 hg w19 hbox hb; have n0_ := Aside0.mk (Kd.R_below (by (with_reducible repeat (first | apply Kd.R_alloc | apply Kd.R_drewN | apply Kd.R_drew)); exact HO236.out) hb); have n1_ := Aside0.mk (blk_below (g := gb231) (o := .cells #[.slice A0_0 l0_0.length c0_0, .int .i64 a0_1] 39 (0, 0)) (by (with_reducible repeat (first | refine blk_drewN ?_ _ | refine blk_drew ?_ | refine blk_alloc ?_ _)); exact BK231.out) hb); have n2_ := Aside0.mk (below_step (by repeat (first | (with_reducible first | exact HB.out | apply below_alloc | apply pw_below_drewN | apply below_drew1 | refine below_set ?_ GE231.out) | exact HB.out)) hb); have n3_ := Aside0.mk (hbox); have n4_ := Aside0.mk ((by rw [hg]; exact (below_size (by repeat (first | (with_reducible first | exact HB.out | apply below_alloc | apply pw_below_drewN | apply below_drew1 | refine below_set ?_ GE231.out) | exact HB.out))) : w.heap.size ≤ gb238)); have n5_ := Aside0.mk ((by rw [hg]; exact (below_size (by repeat (first | (with_reducible first | exact HB.out | apply below_alloc | apply pw_below_drewN | apply below_drew1 | refine below_set ?_ GE231.out) | exact HB.out))) : w.heap.size ≤ gb238)); have n6_ := Aside0.mk ((by rw [hg]; exact Nat.ne_of_lt (blk_lt (g := gb231) (o := .cells #[.slice A0_0 l0_0.length c0_0, .int .i64 a0_1] 39 (0, 0)) (by (with_reducible repeat (first | refine blk_drewN ?_ _ | refine blk_drew ?_ | refine blk_alloc ?_ _)); exact BK231.out)) : gb231 ≠ gb238)); have n7_ := Aside0.mk ((by rw [hg]; exact Nat.ne_of_gt (blk_lt (g := gb231) (o := .cells #[.slice A0_0 l0_0.length c0_0, .int .i64 a0_1] 39 (0, 0)) (by (with_reducible repeat (first | refine blk_drewN ?_ _ | refine blk_drew ?_ | refine blk_alloc ?_ _)); exact BK231.out)) : gb238 ≠ gb231)); clear HO236; clear BK231; clear HB; have HO236 := n0_; have BK231 := n1_; have HB := n2_; have BK238 := n3_; have GW238 := n4_; have GE238 := n5_; have NB231_238 := n6_; have NB238_231 := n7_; clear n0_ n1_ n2_ n3_ n4_ n5_ n6_ n7_; clear hb hbox hg; obtain ⟨Ao20, co20, eo20⟩ := Kd.R_slice HO236.out; subst eo20; have hnb21 := NB238_231.out; have hnc21 := NB231_238.out; have hcz22_0 : w19.cell? ⟨gb238, 0, none⟩ = some (.slice none 0 0) := (blk_cell BK238.out 0).trans rfl; have hcz22_1 : w19.cell? ⟨gb238, 1, none⟩ = some (.int .i64 0) := (blk_cell BK238.out 1).trans rfl; have hfz22_0 := blk_frozen BK238.out 0; have hfz22_1 := blk_frozen BK238.out 1) | (go_at_call 11; (with_reducible refine (sched_Pick.calls kj3 _ _ t234 t237 _ _ l1 t239 t242 t243 t244 _ ?side1 ?side2 ?side3 ?side4 A16.out).mono ?_); (case side1 => refine (Kd.R_reads' (e := 44) (base := w.heap.size) (ok := fun k_ => True) (n := t234.length) (c := co20) ?_).2.2; exact (by (with_reducible repeat (first | apply Kd.R_alloc | apply Kd.R_drewN | apply Kd.R_drew)); exact (Kd.R_mono (Kd.R_far (p := ⟨gb238, 1, none⟩) (Kd.R_far (p := ⟨gb238, 0, none⟩) (Kd.R_types HO236.out BK238.out (by decide)) (fun _ hk => hk.2) (.slice Ao20 t234.length co20)) (fun _ hk => hk.2) (.int .i64 t237)) (fun _ h_ => h_.1)))); (case side2 => exact (Kd.R_reads' HO236.out).2.1); (case side3 => exact Kd.C_below HR1.out (by repeat (first | (with_reducible first | exact HB.out | apply below_alloc | apply pw_below_drewN | apply below_drew1 | refine below_set ?_ GE231.out | refine below_set ?_ GE238.out) | exact HB.out))); (case side4 => exact HC1.out); rintro e w23 ⟨v240, rfl, ho0, hb⟩; have n0_ := Aside0.mk (Kd.R_elder' (by (with_reducible repeat (first | apply Kd.R_alloc | apply Kd.R_drewN | apply Kd.R_drew)); exact (Kd.R_mono (Kd.R_far (p := ⟨gb238, 1, none⟩) (Kd.R_far (p := ⟨gb238, 0, none⟩) (Kd.R_types HO236.out BK238.out (by decide)) (fun _ hk => hk.2) (.slice Ao20 t234.length co20)) (fun _ hk => hk.2) (.int .i64 t237)) (fun _ h_ => h_.1))) (Kd.R_base ho0) hb); have n1_ := Aside0.mk (Kd.R_lower (Kd.R_new' ho0 (Kd.R_lt (by (with_reducible repeat (first | apply Kd.R_alloc | apply Kd.R_drewN | apply Kd.R_drew)); exact (Kd.R_mono (Kd.R_far (p := ⟨gb238, 1, none⟩) (Kd.R_far (p := ⟨gb238, 0, none⟩) (Kd.R_types HO236.out BK238.out (by decide)) (fun _ hk => hk.2) (.slice Ao20 t234.length co20)) (fun _ hk => hk.2) (.int .i64 t237)) (fun _ h_ => h_.1))))) (below_size (by repeat (first | (with_reducible first | exact HB.out | apply below_alloc | apply pw_below_drewN | apply below_drew1 | refine below_set ?_ GE231.out | refine below_set ?_ GE238.out) | exact HB.out)))); have n2_ := Aside0.mk (blk_below (g := gb231) (o := .cells #[.slice A0_0 l0_0.length c0_0, .int .i64 a0_1] 39 (0, 0)) (by (with_reducible repeat (first | refine blk_drewN ?_ _ | refine blk_drew ?_ | refine blk_alloc ?_ _)); refine blk_far ?_ NB231_238.out _; (with_reducible repeat (first | refine blk_drewN ?_ _ | refine blk_drew ?_ | refine blk_alloc ?_ _)); refine blk_far ?_ NB231_238.out _; (with_reducible repeat (first | refine blk_drewN ?_ _ | refine blk_drew ?_ | refine blk_alloc ?_ _)); exact BK231.out) hb); have n3_ := Aside0.mk (blk_below (g := gb238) (o := .cells #[.slice Ao20 t234.length co20, .int .i64 t237] 26 (0, 0)) (by (with_reducible repeat (first | refine blk_drewN ?_ _ | refine blk_drew ?_ | refine blk_alloc ?_ _)); refine blk_put (cs := #[.slice Ao20 t234.length co20, .int .i64 0]) ?_ 1 _ rfl; (with_reducible repeat (first | refine blk_drewN ?_ _ | refine blk_drew ?_ | refine blk_alloc ?_ _)); refine blk_put (cs := #[.slice none 0 0, .int .i64 0]) ?_ 0 _ rfl; (with_reducible repeat (first | refine blk_drewN ?_ _ | refine blk_drew ?_ | refine blk_alloc ?_ _)); exact BK238.out) hb); have n4_ := Aside0.mk (below_step (by repeat (first | (with_reducible first | exact HB.out | apply below_alloc | apply pw_below_drewN | apply below_drew1 | refine below_set ?_ GE231.out | refine below_set ?_ GE238.out) | exact HB.out)) hb); clear HO236; clear BK231; clear BK238; clear HB; have HO236 := n0_; have HO241 := n1_; have BK231 := n2_; have BK238 := n3_; have HB := n4_; clear n0_ n1_ n2_ n3_ n4_; (try clear hb); (try clear hb2); (try clear hk); (try clear hi); (try clear ho0)) | ((with_reducible refine gate_dst (N := 7) rfl ?_); (try (refine gate_guard (by rfl) ?_; dsimp only)); refine box_event ?hg (N := 7) ?hd (cs := #[.slice none 0 0, .int .i64 0]) (t := 26) ?hr ?_; (case hd => rfl); (case hg => rfl); (case hr => first | (go_simp; done) | (go_simp; rfl)); intro gb245 hg w24 hbox hb; have n0_ := Aside0.mk (Kd.R_below (by (with_reducible repeat (first | apply Kd.R_alloc | apply Kd.R_drewN | apply Kd.R_drew)); exact HO236.out) hb); have n1_ := Aside0.mk (Kd.R_below (by (with_reducible repeat (first | apply Kd.R_alloc | apply Kd.R_drewN | apply Kd.R_drew)); exact HO241.out) hb); have n2_ := Aside0.mk (blk_below (g := gb231) (o := .cells #[.slice A0_0 l0_0.length c0_0, .int .i64 a0_1] 39 (0, 0)) (by (with_reducible repeat (first | refine blk_drewN ?_ _ | refine blk_drew ?_ | refine blk_alloc ?_ _)); exact BK231.out) hb); have n3_ := Aside0.mk (blk_below (g := gb238) (o := .cells #[.slice Ao20 t234.length co20, .int .i64 t237] 26 (0, 0)) (by (with_reducible repeat (first | refine blk_drewN ?_ _ | refine blk_drew ?_ | refine blk_alloc ?_ _)); exact BK238.out) hb); have n4_ := Aside0.mk (below_step (by repeat (first | (with_reducible first | exact HB.out | apply below_alloc | apply pw_below_drewN | apply below_drew1 | refine below_set ?_ GE231.out | refine below_set ?_ GE238.out) | exact HB.out)) hb); have n5_ := Aside0.mk (hbox); have n6_ := Aside0.mk ((by rw [hg]; exact (below_size (by repeat (first | (with_reducible first | exact HB.out | apply below_alloc | apply pw_below_drewN | apply below_drew1 | refine below_set ?_ GE231.out | refine below_set ?_ GE238.out) | exact HB.out))) : w.heap.size ≤ gb245)); have n7_ := Aside0.mk ((by rw [hg]; exact (below_size (by repeat (first | (with_reducible first | exact HB.out | apply below_alloc | apply pw_below_drewN | apply below_drew1 | refine below_set ?_ GE231.out | refine below_set ?_ GE238.out) | exact HB.out))) : w.heap.size ≤ gb245)); have n8_ := Aside0.mk ((by rw [hg]; exact Nat.ne_of_lt (blk_lt (g := gb231) (o := .cells #[.slice A0_0 l0_0.length c0_0, .int .i64 a0_1] 39 (0, 0)) (by (with_reducible repeat (first | refine blk_drewN ?_ _ | refine blk_drew ?_ | refine blk_alloc ?_ _)); exact BK231.out)) : gb231 ≠ gb245)); have n9_ := Aside0.mk ((by rw [hg]; exact Nat.ne_of_gt (blk_lt (g := gb231) (o := .cells #[.slice A0_0 l0_0.length c0_0, .int .i64 a0_1] 39 (0, 0)) (by (with_reducible repeat (first | refine blk_drewN ?_ _ | refine blk_drew ?_ | refine blk_alloc ?_ _)); exact BK231.out)) : gb245 ≠ gb231)); have n10_ := Aside0.mk ((by rw [hg]; exact Nat.ne_of_lt (blk_lt (g := gb238) (o := .cells #[.slice Ao20 t234.length co20, .int .i64 t237] 26 (0, 0)) (by (with_reducible repeat (first | refine blk_drewN ?_ _ | refine blk_drew ?_ | refine blk_alloc ?_ _)); exact BK238.out)) : gb238 ≠ gb245)); have n11_ := Aside0.mk ((by rw [hg]; exact Nat.ne_of_gt (blk_lt (g := gb238) (o := .cells #[.slice Ao20 t234.length co20, .int .i64 t237] 26 (0, 0)) (by (with_reducible repeat (first | refine blk_drewN ?_ _ | refine blk_drew ?_ | refine blk_alloc ?_ _)); exact BK238.out)) : gb245 ≠ gb238)); clear HO236; clear HO241; clear BK231; clear BK238; clear HB; have HO236 := n0_; have HO241 := n1_; have BK231 := n2_; have BK238 := n3_; have HB := n4_; have BK245 := n5_; have GW245 := n6_; have GE245 := n7_; have NB231_245 := n8_; have NB245_231 := n9_; have NB238_245 := n10_; have NB245_238 := n11_; clear n0_ n1_ n2_ n3_ n4_ n5_ n6_ n7_ n8_ n9_ n10_ n11_; clear hb hbox hg; obtain ⟨Ao25, co25, eo25⟩ := Kd.R_slice HO241.out; subst eo25; have hnb26 := NB245_231.out; have hnc26 := NB231_245.out; have hnb27 := NB245_238.out; have hnc27 := NB238_245.out; have hcz28_0 : w24.cell? ⟨gb245, 0, none⟩ = some (.slice none 0 0) := (blk_cell BK245.out 0).trans rfl; have hcz28_1 : w24.cell? ⟨gb245, 1, none⟩ = some (.int .i64 0) := (blk_cell BK245.out 1).trans rfl; have hfz28_0 := blk_frozen BK245.out 0; have hfz28_1 := blk_frozen BK245.out 1)))
    go_loopg [10, 11, 12, 13, 14] kj3 (fun kq v10 v11 v12 v13 v14 w' => ∃ (x10_2 : Bool) (x11_2 : Bool) (x12_2 : Int) (x13_2 : Int) (x14_2 : Int), v10 = .bool x10_2 ∧ v11 = .bool x11_2 ∧ v12 = .int .u64 x12_2 ∧ v13 = .int .i64 x13_2 ∧ v14 = .int .i64 x14_2 ∧ Aside0 (heronrylaw21_SchedPicks.l0 kq l1 t232 t243 t244 x10_2 x11_2 x12_2 x13_2 x14_2 l0_0 a0_1 t239 t242 = some r) ∧ Aside0 (kq ≤ kj3) ∧ Aside0 (Kd.R k44 44 w' w.heap.size (fun k_ => some k_ ≠ ((.slice Ao25 t239.length co25) : Value).ownBlock) (.slice Ao20 t234.length co20) t234) ∧ Aside0 (Kd.R k44 44 w' w.heap.size (fun k_ => some k_ ≠ ((.slice Ao20 t234.length co20) : Value).ownBlock) (.slice Ao25 t239.length co25) t239) ∧ Aside0 (w'.heap[gb231]? = some (.cells #[(.slice A0_0 l0_0.length c0_0), .int .i64 a0_1] 39 (0, 0))) ∧ Aside0 (w'.heap[gb238]? = some (.cells #[(.slice Ao20 t234.length co20), .int .i64 t237] 26 (0, 0))) ∧ Aside0 (w'.heap[gb245]? = some (.cells #[(.slice Ao25 t239.length co25), .int .i64 t242] 26 (0, 0))) ∧ Aside0 (Below w.heap.size w w'))
    case atStart => exact ⟨(false), (false), (0), (0), (0), (by first | rfl | (simp; done) | (simp [*]; done)), (by first | rfl | (simp; done) | (simp [*]; done)), (by first | rfl | (simp; done) | (simp [*]; done)), (by first | rfl | (simp; done) | (simp [*]; done)), (by first | rfl | (simp; done) | (simp [*]; done)), H', ⟨Nat.le_refl _⟩, ⟨by (with_reducible repeat (first | apply Kd.R_alloc | apply Kd.R_drewN | apply Kd.R_drew)); exact Kd.R_mono (Kd.R_far (p := ⟨gb245, 1, none⟩) (Kd.R_far (p := ⟨gb245, 0, none⟩) (Kd.R_types HO236.out BK245.out (by decide)) (fun _ hk => hk.2) (.slice Ao25 t239.length co25)) (fun _ hk => hk.2) (.int .i64 t242)) (fun _ hk => hk.1.2)⟩, ⟨by (with_reducible repeat (first | apply Kd.R_alloc | apply Kd.R_drewN | apply Kd.R_drew)); exact Kd.R_mono (Kd.R_far (p := ⟨gb245, 1, none⟩) (Kd.R_far (p := ⟨gb245, 0, none⟩) (Kd.R_types HO241.out BK245.out (by decide)) (fun _ hk => hk.2) (.slice Ao25 t239.length co25)) (fun _ hk => hk.2) (.int .i64 t242)) (fun _ hk => hk.1.2)⟩, ⟨by (with_reducible repeat (first | refine blk_drewN ?_ _ | refine blk_drew ?_ | refine blk_alloc ?_ _)); refine blk_far ?_ NB231_245.out _; (with_reducible repeat (first | refine blk_drewN ?_ _ | refine blk_drew ?_ | refine blk_alloc ?_ _)); refine blk_far ?_ NB231_245.out _; (with_reducible repeat (first | refine blk_drewN ?_ _ | refine blk_drew ?_ | refine blk_alloc ?_ _)); exact BK231.out⟩, ⟨by (with_reducible repeat (first | refine blk_drewN ?_ _ | refine blk_drew ?_ | refine blk_alloc ?_ _)); refine blk_far ?_ NB238_245.out _; (with_reducible repeat (first | refine blk_drewN ?_ _ | refine blk_drew ?_ | refine blk_alloc ?_ _)); refine blk_far ?_ NB238_245.out _; (with_reducible repeat (first | refine blk_drewN ?_ _ | refine blk_drew ?_ | refine blk_alloc ?_ _)); exact BK238.out⟩, ⟨by (with_reducible repeat (first | refine blk_drewN ?_ _ | refine blk_drew ?_ | refine blk_alloc ?_ _)); refine blk_put (cs := #[.slice Ao25 t239.length co25, .int .i64 0]) ?_ 1 _ rfl; (with_reducible repeat (first | refine blk_drewN ?_ _ | refine blk_drew ?_ | refine blk_alloc ?_ _)); refine blk_put (cs := #[.slice none 0 0, .int .i64 0]) ?_ 0 _ rfl; (with_reducible repeat (first | refine blk_drewN ?_ _ | refine blk_drew ?_ | refine blk_alloc ?_ _)); exact BK245.out⟩, ⟨by repeat (first | (with_reducible first | exact HB.out | apply below_alloc | apply pw_below_drewN | apply below_drew1 | refine below_set ?_ GE231.out | refine below_set ?_ GE238.out | refine below_set ?_ GE245.out) | exact HB.out)⟩⟩
    case round =>
     clear H'
     try clear c1
     try clear c2
     try clear p2
     try clear c4
     try clear c7
     try clear c7b0
     try clear c7b1
     try clear c9
     try clear c9b0
     try clear c9b1
     try clear c14
     try clear c21
     try clear c26
     try clear c27
     try clear hcz10_0
     try clear hcz10_1
     try clear hcz12_0
     try clear hcz12_1
     try clear hcz17_0
     try clear hcz17_1
     try clear hcz22_0
     try clear hcz22_1
     try clear hcz28_0
     try clear hcz28_1
     try clear hcz8_0
     try clear hcz8_1
     try clear hfz10_0
     try clear hfz10_1
     try clear hfz12_0
     try clear hfz12_1
     try clear hfz17_0
     try clear hfz17_1
     try clear hfz22_0
     try clear hfz22_1
     try clear hfz28_0
     try clear hfz28_1
     try clear hfz8_0
     try clear hfz8_1
     try clear p2
     obtain ⟨x10_2, x11_2, x12_2, x13_2, x14_2, rfl, rfl, rfl, rfl, rfl, HA, HK2, HO_239000, HO_246000, BK231, BK238, BK245, HB⟩ := hrel
     cases gk with
     | zero => exact absurd HA.out (by simp [heronrylaw21_SchedPicks.l0])
     | succ k2 =>
      have H := HA.out
      clear HA
      simp only [heronrylaw21_SchedPicks.l0] at H
      by_cases c29 : x14_2 < (l0_0.length : Int)
      ·rw [if_pos c29] at H
       have c29b0 : decide (x14_2 < (l0_0.length : Int)) = true := decide_eq_true c29
       clear c29
       have H' := Aside0.mk H
       clear H
       have hnb30 := NB231_238.out
       have hnc30 := NB238_231.out
       have hnb31 := NB231_245.out
       have hnc31 := NB245_231.out
       have hcz32_0 : wr.cell? ⟨gb231, 0, none⟩ = some (.slice A0_0 l0_0.length c0_0) := (blk_cell BK231.out 0).trans rfl
       have hcz32_1 : wr.cell? ⟨gb231, 1, none⟩ = some (.int .i64 a0_1) := (blk_cell BK231.out 1).trans rfl
       have hfz32_0 := blk_frozen BK231.out 0
       have hfz32_1 := blk_frozen BK231.out 1
       go_wp2
       repeat (go_quiet (fail); try go_wp2)
       go_loopg [15, 16] k2 (fun kq v15 v16 w' => ∃ (x15_3 : Bool) (x16_3 : Int), v15 = .bool x15_3 ∧ v16 = .int .i64 x16_3 ∧ Aside0 (heronrylaw21_SchedPicks.l1 kq l1 t232 t243 t244 x10_2 x11_2 x12_2 x13_2 x14_2 x15_3 x16_3 l0_0 a0_1 t239 t242 = some r) ∧ Aside0 (kq ≤ k2) ∧ Aside0 (Kd.R k44 44 w' w.heap.size (fun k_ => some k_ ≠ ((.slice Ao25 t239.length co25) : Value).ownBlock) (.slice Ao20 t234.length co20) t234) ∧ Aside0 (Kd.R k44 44 w' w.heap.size (fun k_ => some k_ ≠ ((.slice Ao20 t234.length co20) : Value).ownBlock) (.slice Ao25 t239.length co25) t239) ∧ Aside0 (w'.heap[gb231]? = some (.cells #[(.slice A0_0 l0_0.length c0_0), .int .i64 a0_1] 39 (0, 0))) ∧ Aside0 (w'.heap[gb238]? = some (.cells #[(.slice Ao20 t234.length co20), .int .i64 t237] 26 (0, 0))) ∧ Aside0 (w'.heap[gb245]? = some (.cells #[(.slice Ao25 t239.length co25), .int .i64 t242] 26 (0, 0))) ∧ Aside0 (Below w.heap.size w w'))
       case atStart => exact ⟨(false), (0), (by first | rfl | (simp; done) | (simp [*]; done)), (by first | rfl | (simp; done) | (simp [*]; done)), H', ⟨Nat.le_refl _⟩, ⟨by (with_reducible repeat (first | apply Kd.R_alloc | apply Kd.R_drewN | apply Kd.R_drew)); exact HO_239000.out⟩, ⟨by (with_reducible repeat (first | apply Kd.R_alloc | apply Kd.R_drewN | apply Kd.R_drew)); exact HO_246000.out⟩, ⟨by (with_reducible repeat (first | refine blk_drewN ?_ _ | refine blk_drew ?_ | refine blk_alloc ?_ _)); exact BK231.out⟩, ⟨by (with_reducible repeat (first | refine blk_drewN ?_ _ | refine blk_drew ?_ | refine blk_alloc ?_ _)); exact BK238.out⟩, ⟨by (with_reducible repeat (first | refine blk_drewN ?_ _ | refine blk_drew ?_ | refine blk_alloc ?_ _)); exact BK245.out⟩, ⟨by repeat (first | (with_reducible first | exact HB.out | apply below_alloc | apply pw_below_drewN | apply below_drew1 | refine below_set ?_ GE231.out | refine below_set ?_ GE238.out | refine below_set ?_ GE245.out) | exact HB.out)⟩⟩
       case round =>
        clear H'
        try clear c1
        try clear c2
        try clear p2
        try clear c3
        try clear c4
        try clear c7
        try clear c7b0
        try clear c7b1
        try clear c9
        try clear c9b0
        try clear c9b1
        try clear c14
        try clear c21
        try clear c26
        try clear c27
        try clear c29
        try clear c29b0
        try clear c30
        try clear c31
        try clear hcz10_0
        try clear hcz10_1
        try clear hcz12_0
        try clear hcz12_1
        try clear hcz17_0
        try clear hcz17_1
        try clear hcz22_0
        try clear hcz22_1
        try clear hcz28_0
        try clear hcz28_1
        try clear hcz32_0
        try clear hcz32_1
        try clear hcz8_0
        try clear hcz8_1
        try clear hfz10_0
        try clear hfz10_1
        try clear hfz12_0
        try clear hfz12_1
        try clear hfz17_0
        try clear hfz17_1
        try clear hfz22_0
        try clear hfz22_1
        try clear hfz28_0
        try clear hfz28_1
        try clear hfz32_0
        try clear hfz32_1
        try clear hfz8_0
        try clear hfz8_1
        try clear p2
        obtain ⟨x15_3, x16_3, rfl, rfl, HA, HK3, HO_239000, HO_246000, BK231, BK238, BK245, HB⟩ := hrel
        cases gk with
        | zero => exact absurd HA.out (by simp [heronrylaw21_SchedPicks.l1])
        | succ k3 =>
         have H := HA.out
         clear HA
         simp only [heronrylaw21_SchedPicks.l1] at H
         by_cases c33 : x16_3 < (l1.length : Int)
         ·rw [if_pos c33] at H
          have c33b0 : decide (x16_3 < (l1.length : Int)) = true := decide_eq_true c33
          clear c33
          by_cases c34 : x15_3 = true
          ·subst c34
           have H1 : (heronrylaw21_SchedPicks.l1 k3 l1 t232 t243 t244 x10_2 x11_2 x12_2 x13_2 x14_2 true (wrap64 (x16_3 + 1)) l0_0 a0_1 t239 t242) = some r := by rw [if_pos rfl] at H; exact H
           clear H
           have H := H1
           clear H1
           have H' := Aside0.mk H
           clear H
           go_wp2
           repeat (go_quiet (fail); try go_wp2)
           go_roundg k3
           case measure => have := HJ3.out; have := HK2.out; have := HK3.out; omega
           case rel => exact ⟨(true), (wrap64 (x16_3 + 1)), (by first | rfl | (simp; done) | (simp [*]; done)), (by first | rfl | (simp; done) | (simp [*]; done)), H', ⟨by have := HJ3.out; have := HK2.out; have := HK3.out; omega⟩, ⟨by (with_reducible repeat (first | apply Kd.R_alloc | apply Kd.R_drewN | apply Kd.R_drew)); exact HO_239000.out⟩, ⟨by (with_reducible repeat (first | apply Kd.R_alloc | apply Kd.R_drewN | apply Kd.R_drew)); exact HO_246000.out⟩, ⟨by (with_reducible repeat (first | refine blk_drewN ?_ _ | refine blk_drew ?_ | refine blk_alloc ?_ _)); exact BK231.out⟩, ⟨by (with_reducible repeat (first | refine blk_drewN ?_ _ | refine blk_drew ?_ | refine blk_alloc ?_ _)); exact BK238.out⟩, ⟨by (with_reducible repeat (first | refine blk_drewN ?_ _ | refine blk_drew ?_ | refine blk_alloc ?_ _)); exact BK245.out⟩, ⟨by repeat (first | (with_reducible first | exact HB.out | apply below_alloc | apply pw_below_drewN | apply below_drew1 | refine below_set ?_ GE231.out | refine below_set ?_ GE238.out | refine below_set ?_ GE245.out) | exact HB.out)⟩⟩
          ·replace c34 := Bool.eq_false_iff.mpr c34
           subst c34
           have H1 : (if 0 ≤ x16_3 then (if 0 ≤ x14_2 then (if x14_2 < (l0_0.length : Int) then (heronrylaw21_SchedPicks.l1 k3 l1 t232 t243 t244 x10_2 x11_2 x12_2 x13_2 x14_2 ((rd l1 x16_3) == ((rd_T43 l0_0 x14_2).f0)) (wrap64 (x16_3 + 1)) l0_0 a0_1 t239 t242) else (none)) else (none)) else (none)) = some r := by rw [if_neg (show ¬ (false = true) by decide)] at H; exact H
           clear H
           have H := H1
           clear H1
           by_cases c35 : 0 ≤ x16_3
           ·rw [if_pos c35] at H
            have c35b0 : decide (0 ≤ x16_3) = true := decide_eq_true c35
            clear c35
            by_cases c36 : 0 ≤ x14_2
            ·rw [if_pos c36] at H
             have c36b0 : decide (0 ≤ x14_2) = true := decide_eq_true c36
             clear c36
             by_cases c37 : x14_2 < (l0_0.length : Int)
             ·rw [if_pos c37] at H
              have c37b0 : decide (x14_2 < (l0_0.length : Int)) = true := decide_eq_true c37
              clear c37
              have H' := Aside0.mk H
              clear H
              have p246 : 0 ≤ (x16_3 : Int) := of_decide_eq_true (by first | (with_reducible assumption) | assumption)
              have q246 : x16_3 < (l1.length : Int) := of_decide_eq_true (by first | (with_reducible assumption) | assumption)
              obtain ⟨ad246, e246, hx246_0⟩ := Kd.at_int HR1.out x16_3 p246 q246
              cases e246
              replace hx246_0 := (HB.out.cell (World.block_lt_of_cell? w _ hx246_0)).trans hx246_0
              replace p246 := eq_true p246
              replace q246 := eq_true q246
              have hnb38 := NB231_238.out
              have hnc38 := NB238_231.out
              have hnb39 := NB231_245.out
              have hnc39 := NB245_231.out
              have hcz40_0 : wr.cell? ⟨gb231, 0, none⟩ = some (.slice A0_0 l0_0.length c0_0) := (blk_cell BK231.out 0).trans rfl
              have hcz40_1 : wr.cell? ⟨gb231, 1, none⟩ = some (.int .i64 a0_1) := (blk_cell BK231.out 1).trans rfl
              have hfz40_0 := blk_frozen BK231.out 0
              have hfz40_1 := blk_frozen BK231.out 1
              have p247 : 0 ≤ (x14_2 : Int) := of_decide_eq_true (by first | (with_reducible assumption) | assumption)
              have q247 : x14_2 < (l0_0.length : Int) := of_decide_eq_true (by first | (with_reducible assumption) | assumption)
              obtain ⟨ad247, e247, hx247_0, hx247_1, hx247_2⟩ := at_T43 HR0_0.out x14_2 p247 q247
              cases e247
              replace hx247_0 := (HB.out.cell (World.block_lt_of_cell? w _ hx247_0)).trans hx247_0
              replace hx247_1 := (HB.out.cell (World.block_lt_of_cell? w _ hx247_1)).trans hx247_1
              replace hx247_2 := (HB.out.cell (World.block_lt_of_cell? w _ hx247_2)).trans hx247_2
              replace p247 := eq_true p247
              replace q247 := eq_true q247
              go_wp2
              repeat (go_quiet (fail); try go_wp2)
              go_roundg k3
              case measure => have := HJ3.out; have := HK2.out; have := HK3.out; omega
              case rel => exact ⟨(((rd l1 x16_3) == ((rd_T43 l0_0 x14_2).f0))), (wrap64 (x16_3 + 1)), (by first | rfl | (simp; done) | (simp [*]; done)), (by first | rfl | (simp; done) | (simp [*]; done)), H', ⟨by have := HJ3.out; have := HK2.out; have := HK3.out; omega⟩, ⟨by (with_reducible repeat (first | apply Kd.R_alloc | apply Kd.R_drewN | apply Kd.R_drew)); exact HO_239000.out⟩, ⟨by (with_reducible repeat (first | apply Kd.R_alloc | apply Kd.R_drewN | apply Kd.R_drew)); exact HO_246000.out⟩, ⟨by (with_reducible repeat (first | refine blk_drewN ?_ _ | refine blk_drew ?_ | refine blk_alloc ?_ _)); exact BK231.out⟩, ⟨by (with_reducible repeat (first | refine blk_drewN ?_ _ | refine blk_drew ?_ | refine blk_alloc ?_ _)); exact BK238.out⟩, ⟨by (with_reducible repeat (first | refine blk_drewN ?_ _ | refine blk_drew ?_ | refine blk_alloc ?_ _)); exact BK245.out⟩, ⟨by repeat (first | (with_reducible first | exact HB.out | apply below_alloc | apply pw_below_drewN | apply below_drew1 | refine below_set ?_ GE231.out | refine below_set ?_ GE238.out | refine below_set ?_ GE245.out) | exact HB.out)⟩⟩
             ·rw [if_neg c37] at H
              exact absurd H (by simp)
            ·rw [if_neg c36] at H
             exact absurd H (by simp)
           ·rw [if_neg c35] at H
            exact absurd H (by simp)
         ·rw [if_neg c33] at H
          have c33b0 : decide (x16_3 < (l1.length : Int)) = false := decide_eq_false c33
          clear c33
          have HC41 := Aside0.mk H
          clear H
          go_upto_region 18 with (fail)
          repeat (go_quiet (fail); go_upto_region 18 with (fail))
          as_aux_lemma =>
           go_cut [10] (fun v10 wc => ∃ (kq : Nat) (x10_40 : Bool), v10 = .bool x10_40 ∧ Aside0 (heronrylaw21_SchedPicks.j3 kq l1 t232 t243 t244 x10_40 x11_2 x12_2 x13_2 x14_2 x15_3 l0_0 a0_1 t239 t242 = some r) ∧ Aside0 (kq ≤ k3) ∧ Aside0 (Kd.R k44 44 wc w.heap.size (fun k_ => some k_ ≠ ((.slice Ao25 t239.length co25) : Value).ownBlock) (.slice Ao20 t234.length co20) t234) ∧ Aside0 (Kd.R k44 44 wc w.heap.size (fun k_ => some k_ ≠ ((.slice Ao20 t234.length co20) : Value).ownBlock) (.slice Ao25 t239.length co25) t239) ∧ Aside0 (wc.heap[gb231]? = some (.cells #[(.slice A0_0 l0_0.length c0_0), .int .i64 a0_1] 39 (0, 0))) ∧ Aside0 (wc.heap[gb238]? = some (.cells #[(.slice Ao20 t234.length co20), .int .i64 t237] 26 (0, 0))) ∧ Aside0 (wc.heap[gb245]? = some (.cells #[(.slice Ao25 t239.length co25), .int .i64 t242] 26 (0, 0))) ∧ Aside0 (Below w.heap.size w wc))
           case first =>
            have H := HC41.out
            clear HC41
            by_cases c42 : x10_2 = true
            ·subst c42
             have H1 : (heronrylaw21_SchedPicks.j3 k3 l1 t232 t243 t244 true x11_2 x12_2 x13_2 x14_2 x15_3 l0_0 a0_1 t239 t242) = some r := by rw [if_pos rfl] at H; exact H
             clear H
             have H := H1
             clear H1
             have H' := Aside0.mk H
             clear H
             go_wp2
             repeat (go_quiet (fail); try go_wp2)
             go_meet
             case rel => exact ⟨_, (true), (by first | rfl | (simp; done) | (simp [*]; done)), H', ⟨by have := HJ3.out; have := HK2.out; have := HK3.out; first | omega | exact Nat.le_refl _⟩, ⟨by (with_reducible repeat (first | apply Kd.R_alloc | apply Kd.R_drewN | apply Kd.R_drew)); exact HO_239000.out⟩, ⟨by (with_reducible repeat (first | apply Kd.R_alloc | apply Kd.R_drewN | apply Kd.R_drew)); exact HO_246000.out⟩, ⟨by (with_reducible repeat (first | refine blk_drewN ?_ _ | refine blk_drew ?_ | refine blk_alloc ?_ _)); exact BK231.out⟩, ⟨by (with_reducible repeat (first | refine blk_drewN ?_ _ | refine blk_drew ?_ | refine blk_alloc ?_ _)); exact BK238.out⟩, ⟨by (with_reducible repeat (first | refine blk_drewN ?_ _ | refine blk_drew ?_ | refine blk_alloc ?_ _)); exact BK245.out⟩, ⟨by repeat (first | (with_reducible first | exact HB.out | apply below_alloc | apply pw_below_drewN | apply below_drew1 | refine below_set ?_ GE231.out | refine below_set ?_ GE238.out | refine below_set ?_ GE245.out) | exact HB.out)⟩⟩
            ·replace c42 := Bool.eq_false_iff.mpr c42
             subst c42
             have H1 : (heronrylaw21_SchedPicks.j3 k3 l1 t232 t243 t244 x15_3 x11_2 x12_2 x13_2 x14_2 x15_3 l0_0 a0_1 t239 t242) = some r := by rw [if_neg (show ¬ (false = true) by decide)] at H; exact H
             clear H
             have H := H1
             clear H1
             have H' := Aside0.mk H
             clear H
             go_wp2
             repeat (go_quiet (fail); try go_wp2)
             go_meet
             case rel => exact ⟨_, (x15_3), (by first | rfl | (simp; done) | (simp [*]; done)), H', ⟨by have := HJ3.out; have := HK2.out; have := HK3.out; first | omega | exact Nat.le_refl _⟩, ⟨by (with_reducible repeat (first | apply Kd.R_alloc | apply Kd.R_drewN | apply Kd.R_drew)); exact HO_239000.out⟩, ⟨by (with_reducible repeat (first | apply Kd.R_alloc | apply Kd.R_drewN | apply Kd.R_drew)); exact HO_246000.out⟩, ⟨by (with_reducible repeat (first | refine blk_drewN ?_ _ | refine blk_drew ?_ | refine blk_alloc ?_ _)); exact BK231.out⟩, ⟨by (with_reducible repeat (first | refine blk_drewN ?_ _ | refine blk_drew ?_ | refine blk_alloc ?_ _)); exact BK238.out⟩, ⟨by (with_reducible repeat (first | refine blk_drewN ?_ _ | refine blk_drew ?_ | refine blk_alloc ?_ _)); exact BK245.out⟩, ⟨by repeat (first | (with_reducible first | exact HB.out | apply below_alloc | apply pw_below_drewN | apply below_drew1 | refine below_set ?_ GE231.out | refine below_set ?_ GE238.out | refine below_set ?_ GE245.out) | exact HB.out)⟩⟩
           case rest =>
            clear HC41
            try clear c1
            try clear c2
            try clear p2
            try clear q2
            try clear hx2
            try clear c3
            try clear c4
            try clear p6
            try clear c7
            try clear c7b0
            try clear c7b1
            try clear c9
            try clear c9b0
            try clear c9b1
            try clear c14
            try clear c21
            try clear p24
            try clear q24
            try clear hx24
            try clear c26
            try clear c27
            try clear c29
            try clear c29b0
            try clear c30
            try clear c31
            try clear c33
            try clear c33b0
            try clear c34
            try clear c35
            try clear c35b0
            try clear c36
            try clear c36b0
            try clear c37
            try clear c37b0
            try clear c38
            try clear c39
            try clear c42
            try clear hcz10_0
            try clear hcz10_1
            try clear hcz12_0
            try clear hcz12_1
            try clear hcz17_0
            try clear hcz17_1
            try clear hcz22_0
            try clear hcz22_1
            try clear hcz28_0
            try clear hcz28_1
            try clear hcz32_0
            try clear hcz32_1
            try clear hcz40_0
            try clear hcz40_1
            try clear hcz8_0
            try clear hcz8_1
            try clear hfz10_0
            try clear hfz10_1
            try clear hfz12_0
            try clear hfz12_1
            try clear hfz17_0
            try clear hfz17_1
            try clear hfz22_0
            try clear hfz22_1
            try clear hfz28_0
            try clear hfz28_1
            try clear hfz32_0
            try clear hfz32_1
            try clear hfz40_0
            try clear hfz40_1
            try clear hfz8_0
            try clear hfz8_1
            try clear hx246_0
            try clear hx247_0
            try clear hx247_1
            try clear hx247_2
            try clear p2
            try clear p246
            try clear p247
            try clear q246
            try clear q247
            obtain ⟨kq, x10_40, rfl, HA, HJ40, HO_239000, HO_246000, BK231, BK238, BK245, HB⟩ := hcut
            cases kq with
            | zero => exact absurd HA.out (by simp [heronrylaw21_SchedPicks.j3])
            | succ kj40 =>
             have H := HA.out
             clear HA
             simp only [heronrylaw21_SchedPicks.j3] at H
             have HC43 := Aside0.mk H
             clear H
             go_upto_region 19 with (fail)
             repeat (go_quiet (fail); go_upto_region 19 with (fail))
             go_cut [11] (fun v11 wc => ∃ (kq : Nat) (x11_42 : Bool), v11 = .bool x11_42 ∧ Aside0 (heronrylaw21_SchedPicks.j4 kq l1 t232 t243 t244 x10_40 x11_42 x12_2 x13_2 x14_2 x15_3 l0_0 a0_1 t239 t242 = some r) ∧ Aside0 (kq ≤ kj40) ∧ Aside0 (Kd.R k44 44 wc w.heap.size (fun k_ => some k_ ≠ ((.slice Ao25 t239.length co25) : Value).ownBlock) (.slice Ao20 t234.length co20) t234) ∧ Aside0 (Kd.R k44 44 wc w.heap.size (fun k_ => some k_ ≠ ((.slice Ao20 t234.length co20) : Value).ownBlock) (.slice Ao25 t239.length co25) t239) ∧ Aside0 (wc.heap[gb231]? = some (.cells #[(.slice A0_0 l0_0.length c0_0), .int .i64 a0_1] 39 (0, 0))) ∧ Aside0 (wc.heap[gb238]? = some (.cells #[(.slice Ao20 t234.length co20), .int .i64 t237] 26 (0, 0))) ∧ Aside0 (wc.heap[gb245]? = some (.cells #[(.slice Ao25 t239.length co25), .int .i64 t242] 26 (0, 0))) ∧ Aside0 (Below w.heap.size w wc))
             case first =>
              have H := HC43.out
              clear HC43
              by_cases c44 : x11_2 = true
              ·subst c44
               have H1 : (heronrylaw21_SchedPicks.j4 kj40 l1 t232 t243 t244 x10_40 true x12_2 x13_2 x14_2 x15_3 l0_0 a0_1 t239 t242) = some r := by rw [if_pos rfl] at H; exact H
               clear H
               have H := H1
               clear H1
               have H' := Aside0.mk H
               clear H
               go_wp2
               repeat (go_quiet (fail); try go_wp2)
               go_meet
               case rel => exact ⟨_, (true), (by first | rfl | (simp; done) | (simp [*]; done)), H', ⟨by have := HJ3.out; have := HK2.out; have := HK3.out; have := HJ40.out; first | omega | exact Nat.le_refl _⟩, ⟨by (with_reducible repeat (first | apply Kd.R_alloc | apply Kd.R_drewN | apply Kd.R_drew)); exact HO_239000.out⟩, ⟨by (with_reducible repeat (first | apply Kd.R_alloc | apply Kd.R_drewN | apply Kd.R_drew)); exact HO_246000.out⟩, ⟨by (with_reducible repeat (first | refine blk_drewN ?_ _ | refine blk_drew ?_ | refine blk_alloc ?_ _)); exact BK231.out⟩, ⟨by (with_reducible repeat (first | refine blk_drewN ?_ _ | refine blk_drew ?_ | refine blk_alloc ?_ _)); exact BK238.out⟩, ⟨by (with_reducible repeat (first | refine blk_drewN ?_ _ | refine blk_drew ?_ | refine blk_alloc ?_ _)); exact BK245.out⟩, ⟨by repeat (first | (with_reducible first | exact HB.out | apply below_alloc | apply pw_below_drewN | apply below_drew1 | refine below_set ?_ GE231.out | refine below_set ?_ GE238.out | refine below_set ?_ GE245.out) | exact HB.out)⟩⟩
              ·replace c44 := Bool.eq_false_iff.mpr c44
               subst c44
               have H1 : (if x15_3 = true then (if 0 ≤ x14_2 then (if x14_2 < (l0_0.length : Int) then (heronrylaw21_SchedPicks.j4 kj40 l1 t232 t243 t244 x10_40 (decide (((rd_T43 l0_0 x14_2).f2) ≥ a0_1)) x12_2 x13_2 x14_2 x15_3 l0_0 a0_1 t239 t242) else (none)) else (none)) else (heronrylaw21_SchedPicks.j4 kj40 l1 t232 t243 t244 x10_40 false x12_2 x13_2 x14_2 x15_3 l0_0 a0_1 t239 t242)) = some r := by rw [if_neg (show ¬ (false = true) by decide)] at H; exact H
               clear H
               have H := H1
               clear H1
               by_cases c45 : x15_3 = true
               ·subst c45
                have H1 : (if 0 ≤ x14_2 then (if x14_2 < (l0_0.length : Int) then (heronrylaw21_SchedPicks.j4 kj40 l1 t232 t243 t244 x10_40 (decide (((rd_T43 l0_0 x14_2).f2) ≥ a0_1)) x12_2 x13_2 x14_2 true l0_0 a0_1 t239 t242) else (none)) else (none)) = some r := by rw [if_pos rfl] at H; exact H
                clear H
                have H := H1
                clear H1
                by_cases c46 : 0 ≤ x14_2
                ·rw [if_pos c46] at H
                 have c46b0 : decide (0 ≤ x14_2) = true := decide_eq_true c46
                 clear c46
                 (first | rw [c46b0] | (simp only [i64_w, i32_w]; rw [c46b0]) | skip)
                 by_cases c47 : x14_2 < (l0_0.length : Int)
                 ·rw [if_pos c47] at H
                  have c47b0 : decide (x14_2 < (l0_0.length : Int)) = true := decide_eq_true c47
                  clear c47
                  have H' := Aside0.mk H
                  clear H
                  have hnb48 := NB231_238.out
                  have hnc48 := NB238_231.out
                  have hnb49 := NB231_245.out
                  have hnc49 := NB245_231.out
                  have hcz50_0 : wc.cell? ⟨gb231, 0, none⟩ = some (.slice A0_0 l0_0.length c0_0) := (blk_cell BK231.out 0).trans rfl
                  have hcz50_1 : wc.cell? ⟨gb231, 1, none⟩ = some (.int .i64 a0_1) := (blk_cell BK231.out 1).trans rfl
                  have hfz50_0 := blk_frozen BK231.out 0
                  have hfz50_1 := blk_frozen BK231.out 1
                  have p248 : 0 ≤ (x14_2 : Int) := of_decide_eq_true (by first | (with_reducible assumption) | assumption)
                  have q248 : x14_2 < (l0_0.length : Int) := of_decide_eq_true (by first | (with_reducible assumption) | assumption)
                  obtain ⟨ad248, e248, hx248_0, hx248_1, hx248_2⟩ := at_T43 HR0_0.out x14_2 p248 q248
                  cases e248
                  replace hx248_0 := (HB.out.cell (World.block_lt_of_cell? w _ hx248_0)).trans hx248_0
                  replace hx248_1 := (HB.out.cell (World.block_lt_of_cell? w _ hx248_1)).trans hx248_1
                  replace hx248_2 := (HB.out.cell (World.block_lt_of_cell? w _ hx248_2)).trans hx248_2
                  replace p248 := eq_true p248
                  replace q248 := eq_true q248
                  go_wp2
                  repeat (go_quiet (fail); try go_wp2)
                  go_meet
                  case rel => exact ⟨_, (decide (((rd_T43 l0_0 x14_2).f2) ≥ a0_1)), (by first | rfl | (simp; done) | (simp [*]; done)), H', ⟨by have := HJ3.out; have := HK2.out; have := HK3.out; have := HJ40.out; first | omega | exact Nat.le_refl _⟩, ⟨by (with_reducible repeat (first | apply Kd.R_alloc | apply Kd.R_drewN | apply Kd.R_drew)); exact HO_239000.out⟩, ⟨by (with_reducible repeat (first | apply Kd.R_alloc | apply Kd.R_drewN | apply Kd.R_drew)); exact HO_246000.out⟩, ⟨by (with_reducible repeat (first | refine blk_drewN ?_ _ | refine blk_drew ?_ | refine blk_alloc ?_ _)); exact BK231.out⟩, ⟨by (with_reducible repeat (first | refine blk_drewN ?_ _ | refine blk_drew ?_ | refine blk_alloc ?_ _)); exact BK238.out⟩, ⟨by (with_reducible repeat (first | refine blk_drewN ?_ _ | refine blk_drew ?_ | refine blk_alloc ?_ _)); exact BK245.out⟩, ⟨by repeat (first | (with_reducible first | exact HB.out | apply below_alloc | apply pw_below_drewN | apply below_drew1 | refine below_set ?_ GE231.out | refine below_set ?_ GE238.out | refine below_set ?_ GE245.out) | exact HB.out)⟩⟩
                 ·rw [if_neg c47] at H
                  exact absurd H (by simp)
                ·rw [if_neg c46] at H
                 exact absurd H (by simp)
               ·replace c45 := Bool.eq_false_iff.mpr c45
                subst c45
                have H1 : (heronrylaw21_SchedPicks.j4 kj40 l1 t232 t243 t244 x10_40 false x12_2 x13_2 x14_2 false l0_0 a0_1 t239 t242) = some r := by rw [if_neg (show ¬ (false = true) by decide)] at H; exact H
                clear H
                have H := H1
                clear H1
                have H' := Aside0.mk H
                clear H
                go_wp2
                repeat (go_quiet (fail); try go_wp2)
                go_meet
                case rel => exact ⟨_, (false), (by first | rfl | (simp; done) | (simp [*]; done)), H', ⟨by have := HJ3.out; have := HK2.out; have := HK3.out; have := HJ40.out; first | omega | exact Nat.le_refl _⟩, ⟨by (with_reducible repeat (first | apply Kd.R_alloc | apply Kd.R_drewN | apply Kd.R_drew)); exact HO_239000.out⟩, ⟨by (with_reducible repeat (first | apply Kd.R_alloc | apply Kd.R_drewN | apply Kd.R_drew)); exact HO_246000.out⟩, ⟨by (with_reducible repeat (first | refine blk_drewN ?_ _ | refine blk_drew ?_ | refine blk_alloc ?_ _)); exact BK231.out⟩, ⟨by (with_reducible repeat (first | refine blk_drewN ?_ _ | refine blk_drew ?_ | refine blk_alloc ?_ _)); exact BK238.out⟩, ⟨by (with_reducible repeat (first | refine blk_drewN ?_ _ | refine blk_drew ?_ | refine blk_alloc ?_ _)); exact BK245.out⟩, ⟨by repeat (first | (with_reducible first | exact HB.out | apply below_alloc | apply pw_below_drewN | apply below_drew1 | refine below_set ?_ GE231.out | refine below_set ?_ GE238.out | refine below_set ?_ GE245.out) | exact HB.out)⟩⟩
             case rest =>
              clear HC43
              try clear c1
              try clear c2
              try clear p2
              try clear q2
              try clear hx2
              try clear c3
              try clear c4
              try clear p6
              try clear c7
              try clear c7b0
              try clear c7b1
              try clear c9
              try clear c9b0
              try clear c9b1
              try clear c14
              try clear c21
              try clear p24
              try clear q24
              try clear hx24
              try clear c26
              try clear c27
              try clear c29
              try clear c29b0
              try clear c30
              try clear c31
              try clear c33
              try clear c33b0
              try clear c34
              try clear c35
              try clear c35b0
              try clear c36
              try clear c36b0
              try clear c37
              try clear c37b0
              try clear c38
              try clear c39
              try clear c42
              try clear c44
              try clear c45
              try clear c46
              try clear c46b0
              try clear c47
              try clear c47b0
              try clear c48
              try clear c49
              try clear hcz10_0
              try clear hcz10_1
              try clear hcz12_0
              try clear hcz12_1
              try clear hcz17_0
              try clear hcz17_1
              try clear hcz22_0
              try clear hcz22_1
              try clear hcz28_0
              try clear hcz28_1
              try clear hcz32_0
              try clear hcz32_1
              try clear hcz40_0
              try clear hcz40_1
              try clear hcz50_0
              try clear hcz50_1
              try clear hcz8_0
              try clear hcz8_1
              try clear hfz10_0
              try clear hfz10_1
              try clear hfz12_0
              try clear hfz12_1
              try clear hfz17_0
              try clear hfz17_1
              try clear hfz22_0
              try clear hfz22_1
              try clear hfz28_0
              try clear hfz28_1
              try clear hfz32_0
              try clear hfz32_1
              try clear hfz40_0
              try clear hfz40_1
              try clear hfz50_0
              try clear hfz50_1
              try clear hfz8_0
              try clear hfz8_1
              try clear hx246_0
              try clear hx247_0
              try clear hx247_1
              try clear hx247_2
              try clear hx248_0
              try clear hx248_1
              try clear hx248_2
              try clear p2
              try clear p24
              try clear p246
              try clear p247
              try clear p248
              try clear p6
              try clear q2
              try clear q24
              try clear q246
              try clear q247
              try clear q248
              obtain ⟨kq, x11_42, rfl, HA, HJ42, HO_239000, HO_246000, BK231, BK238, BK245, HB⟩ := hcut
              cases kq with
              | zero => exact absurd HA.out (by simp [heronrylaw21_SchedPicks.j4])
              | succ kj42 =>
               have H := HA.out
               clear HA
               simp only [heronrylaw21_SchedPicks.j4] at H
               have HC51 := Aside0.mk H
               clear H
               go_upto_region 20 with (fail)
               repeat (go_quiet (fail); go_upto_region 20 with (fail))
               go_cut [101] (fun v101 wc => ∃ (kq : Nat) (x101_50 : Bool), v101 = .bool x101_50 ∧ Aside0 (heronrylaw21_SchedPicks.j5 kq l1 t232 t243 t244 x10_40 x11_42 x12_2 x13_2 x14_2 x15_3 x101_50 l0_0 a0_1 t239 t242 = some r) ∧ Aside0 (kq ≤ kj42) ∧ Aside0 (Kd.R k44 44 wc w.heap.size (fun k_ => some k_ ≠ ((.slice Ao25 t239.length co25) : Value).ownBlock) (.slice Ao20 t234.length co20) t234) ∧ Aside0 (Kd.R k44 44 wc w.heap.size (fun k_ => some k_ ≠ ((.slice Ao20 t234.length co20) : Value).ownBlock) (.slice Ao25 t239.length co25) t239) ∧ Aside0 (wc.heap[gb231]? = some (.cells #[(.slice A0_0 l0_0.length c0_0), .int .i64 a0_1] 39 (0, 0))) ∧ Aside0 (wc.heap[gb238]? = some (.cells #[(.slice Ao20 t234.length co20), .int .i64 t237] 26 (0, 0))) ∧ Aside0 (wc.heap[gb245]? = some (.cells #[(.slice Ao25 t239.length co25), .int .i64 t242] 26 (0, 0))) ∧ Aside0 (Below w.heap.size w wc))
               case first =>
                have H := HC51.out
                clear HC51
                by_cases c52 : t244 = 0
                ·rw [if_pos c52] at H
                 have c52b0 : (t244 == 0) = true := beq_iff_eq.mpr c52
                 have c52b1 : (t244 != 0) = false := bne_eq_false_iff_eq.mpr c52
                 clear c52
                 (first | rw [c52b0] | (simp only [i64_w, i32_w]; rw [c52b0]) | skip)
                 by_cases c53 : 0 ≤ x14_2
                 ·rw [if_pos c53] at H
                  have c53b0 : decide (0 ≤ x14_2) = true := decide_eq_true c53
                  clear c53
                  by_cases c54 : x14_2 < (l0_0.length : Int)
                  ·rw [if_pos c54] at H
                   have c54b0 : decide (x14_2 < (l0_0.length : Int)) = true := decide_eq_true c54
                   clear c54
                   have H' := Aside0.mk H
                   clear H
                   have hnb55 := NB231_238.out
                   have hnc55 := NB238_231.out
                   have hnb56 := NB231_245.out
                   have hnc56 := NB245_231.out
                   have hcz57_0 : wc.cell? ⟨gb231, 0, none⟩ = some (.slice A0_0 l0_0.length c0_0) := (blk_cell BK231.out 0).trans rfl
                   have hcz57_1 : wc.cell? ⟨gb231, 1, none⟩ = some (.int .i64 a0_1) := (blk_cell BK231.out 1).trans rfl
                   have hfz57_0 := blk_frozen BK231.out 0
                   have hfz57_1 := blk_frozen BK231.out 1
                   have p249 : 0 ≤ (x14_2 : Int) := of_decide_eq_true (by first | (with_reducible assumption) | assumption)
                   have q249 : x14_2 < (l0_0.length : Int) := of_decide_eq_true (by first | (with_reducible assumption) | assumption)
                   obtain ⟨ad249, e249, hx249_0, hx249_1, hx249_2⟩ := at_T43 HR0_0.out x14_2 p249 q249
                   cases e249
                   replace hx249_0 := (HB.out.cell (World.block_lt_of_cell? w _ hx249_0)).trans hx249_0
                   replace hx249_1 := (HB.out.cell (World.block_lt_of_cell? w _ hx249_1)).trans hx249_1
                   replace hx249_2 := (HB.out.cell (World.block_lt_of_cell? w _ hx249_2)).trans hx249_2
                   replace p249 := eq_true p249
                   replace q249 := eq_true q249
                   go_wp2
                   repeat (go_quiet (fail); try go_wp2)
                   go_meet
                   case rel => exact ⟨_, ((((rd_T43 l0_0 x14_2).f0) == t243)), (by first | rfl | (simp; done) | (simp [*]; done)), H', ⟨by have := HJ3.out; have := HK2.out; have := HK3.out; have := HJ40.out; have := HJ42.out; first | omega | exact Nat.le_refl _⟩, ⟨by (with_reducible repeat (first | apply Kd.R_alloc | apply Kd.R_drewN | apply Kd.R_drew)); exact HO_239000.out⟩, ⟨by (with_reducible repeat (first | apply Kd.R_alloc | apply Kd.R_drewN | apply Kd.R_drew)); exact HO_246000.out⟩, ⟨by (with_reducible repeat (first | refine blk_drewN ?_ _ | refine blk_drew ?_ | refine blk_alloc ?_ _)); exact BK231.out⟩, ⟨by (with_reducible repeat (first | refine blk_drewN ?_ _ | refine blk_drew ?_ | refine blk_alloc ?_ _)); exact BK238.out⟩, ⟨by (with_reducible repeat (first | refine blk_drewN ?_ _ | refine blk_drew ?_ | refine blk_alloc ?_ _)); exact BK245.out⟩, ⟨by repeat (first | (with_reducible first | exact HB.out | apply below_alloc | apply pw_below_drewN | apply below_drew1 | refine below_set ?_ GE231.out | refine below_set ?_ GE238.out | refine below_set ?_ GE245.out) | exact HB.out)⟩⟩
                  ·rw [if_neg c54] at H
                   exact absurd H (by simp)
                 ·rw [if_neg c53] at H
                  exact absurd H (by simp)
                ·rw [if_neg c52] at H
                 have c52b0 : (t244 == 0) = false := beq_eq_false_iff_ne.mpr c52
                 have c52b1 : (t244 != 0) = true := bne_iff_ne.mpr c52
                 (first | rw [c52b0] | (simp only [i64_w, i32_w]; rw [c52b0]) | skip)
                 have H' := Aside0.mk H
                 clear H
                 go_wp2
                 repeat (go_quiet (fail); try go_wp2)
                 go_meet
                 case rel => exact ⟨_, (false), (by first | rfl | (simp; done) | (simp [*]; done)), H', ⟨by have := HJ3.out; have := HK2.out; have := HK3.out; have := HJ40.out; have := HJ42.out; first | omega | exact Nat.le_refl _⟩, ⟨by (with_reducible repeat (first | apply Kd.R_alloc | apply Kd.R_drewN | apply Kd.R_drew)); exact HO_239000.out⟩, ⟨by (with_reducible repeat (first | apply Kd.R_alloc | apply Kd.R_drewN | apply Kd.R_drew)); exact HO_246000.out⟩, ⟨by (with_reducible repeat (first | refine blk_drewN ?_ _ | refine blk_drew ?_ | refine blk_alloc ?_ _)); exact BK231.out⟩, ⟨by (with_reducible repeat (first | refine blk_drewN ?_ _ | refine blk_drew ?_ | refine blk_alloc ?_ _)); exact BK238.out⟩, ⟨by (with_reducible repeat (first | refine blk_drewN ?_ _ | refine blk_drew ?_ | refine blk_alloc ?_ _)); exact BK245.out⟩, ⟨by repeat (first | (with_reducible first | exact HB.out | apply below_alloc | apply pw_below_drewN | apply below_drew1 | refine below_set ?_ GE231.out | refine below_set ?_ GE238.out | refine below_set ?_ GE245.out) | exact HB.out)⟩⟩
               case rest =>
                clear HC51
                try clear c1
                try clear c2
                try clear p2
                try clear q2
                try clear hx2
                try clear c3
                try clear c4
                try clear c5
                try clear p6
                try clear c7
                try clear c7b0
                try clear c7b1
                try clear c9
                try clear c9b0
                try clear c9b1
                try clear c14
                try clear c21
                try clear p24
                try clear q24
                try clear hx24
                try clear c26
                try clear c27
                try clear c29
                try clear c29b0
                try clear c30
                try clear c31
                try clear c33
                try clear c33b0
                try clear c34
                try clear c35
                try clear c35b0
                try clear c36
                try clear c36b0
                try clear c37
                try clear c37b0
                try clear c38
                try clear c39
                try clear c42
                try clear c44
                try clear c45
                try clear c46
                try clear c46b0
                try clear c47
                try clear c47b0
                try clear c48
                try clear c49
                try clear c52
                try clear c52b0
                try clear c52b1
                try clear c53
                try clear c53b0
                try clear c54
                try clear c54b0
                try clear c55
                try clear c56
                try clear hcz10_0
                try clear hcz10_1
                try clear hcz12_0
                try clear hcz12_1
                try clear hcz17_0
                try clear hcz17_1
                try clear hcz22_0
                try clear hcz22_1
                try clear hcz28_0
                try clear hcz28_1
                try clear hcz32_0
                try clear hcz32_1
                try clear hcz40_0
                try clear hcz40_1
                try clear hcz50_0
                try clear hcz50_1
                try clear hcz57_0
                try clear hcz57_1
                try clear hcz8_0
                try clear hcz8_1
                try clear hfz10_0
                try clear hfz10_1
                try clear hfz12_0
                try clear hfz12_1
                try clear hfz17_0
                try clear hfz17_1
                try clear hfz22_0
                try clear hfz22_1
                try clear hfz28_0
                try clear hfz28_1
                try clear hfz32_0
                try clear hfz32_1
                try clear hfz40_0
                try clear hfz40_1
                try clear hfz50_0
                try clear hfz50_1
                try clear hfz57_0
                try clear hfz57_1
                try clear hfz8_0
                try clear hfz8_1
                try clear hx246_0
                try clear hx247_0
                try clear hx247_1
                try clear hx247_2
                try clear hx248_0
                try clear hx248_1
                try clear hx248_2
                try clear hx249_0
                try clear hx249_1
                try clear hx249_2
                try clear p2
                try clear p24
                try clear p246
                try clear p247
                try clear p248
                try clear p249
                try clear p6
                try clear q2
                try clear q24
                try clear q246
                try clear q247
                try clear q248
                try clear q249
                obtain ⟨kq, x101_50, rfl, HA, HJ50, HO_239000, HO_246000, BK231, BK238, BK245, HB⟩ := hcut
                cases kq with
                | zero => exact absurd HA.out (by simp [heronrylaw21_SchedPicks.j5])
                | succ kj50 =>
                 have H := HA.out
                 clear HA
                 simp only [heronrylaw21_SchedPicks.j5] at H
                 by_cases c58 : x101_50 = true
                 ·subst c58
                  have H1 : (if 0 ≤ x14_2 then (if x14_2 < (l0_0.length : Int) then (if x15_3 = true then (heronrylaw21_SchedPicks.l0 kj50 l1 t232 t243 t244 x10_40 x11_42 ((rd_T43 l0_0 x14_2).f1) x13_2 (wrap64 (x14_2 + 1)) l0_0 a0_1 t239 t242) else (none)) else (none)) else (none)) = some r := by rw [if_pos rfl] at H; exact H
                  clear H
                  have H := H1
                  clear H1
                  by_cases c59 : 0 ≤ x14_2
                  ·rw [if_pos c59] at H
                   have c59b0 : decide (0 ≤ x14_2) = true := decide_eq_true c59
                   clear c59
                   by_cases c60 : x14_2 < (l0_0.length : Int)
                   ·rw [if_pos c60] at H
                    have c60b0 : decide (x14_2 < (l0_0.length : Int)) = true := decide_eq_true c60
                    clear c60
                    by_cases c61 : x15_3 = true
                    ·subst c61
                     have H1 : (heronrylaw21_SchedPicks.l0 kj50 l1 t232 t243 t244 x10_40 x11_42 ((rd_T43 l0_0 x14_2).f1) x13_2 (wrap64 (x14_2 + 1)) l0_0 a0_1 t239 t242) = some r := by rw [if_pos rfl] at H; exact H
                     clear H
                     have H := H1
                     clear H1
                     have H' := Aside0.mk H
                     clear H
                     have hnb62 := NB231_238.out
                     have hnc62 := NB238_231.out
                     have hnb63 := NB231_245.out
                     have hnc63 := NB245_231.out
                     have hcz64_0 : wc.cell? ⟨gb231, 0, none⟩ = some (.slice A0_0 l0_0.length c0_0) := (blk_cell BK231.out 0).trans rfl
                     have hcz64_1 : wc.cell? ⟨gb231, 1, none⟩ = some (.int .i64 a0_1) := (blk_cell BK231.out 1).trans rfl
                     have hfz64_0 := blk_frozen BK231.out 0
                     have hfz64_1 := blk_frozen BK231.out 1
                     have p250 : 0 ≤ (x14_2 : Int) := of_decide_eq_true (by first | (with_reducible assumption) | assumption)
                     have q250 : x14_2 < (l0_0.length : Int) := of_decide_eq_true (by first | (with_reducible assumption) | assumption)
                     obtain ⟨ad250, e250, hx250_0, hx250_1, hx250_2⟩ := at_T43 HR0_0.out x14_2 p250 q250
                     cases e250
                     replace hx250_0 := (HB.out.cell (World.block_lt_of_cell? w _ hx250_0)).trans hx250_0
                     replace hx250_1 := (HB.out.cell (World.block_lt_of_cell? w _ hx250_1)).trans hx250_1
                     replace hx250_2 := (HB.out.cell (World.block_lt_of_cell? w _ hx250_2)).trans hx250_2
                     replace p250 := eq_true p250
                     replace q250 := eq_true q250
                     go_wp2
                     repeat (go_quiet (fail); try go_wp2)
                     go_roundg kj50
                     case measure => have := HJ3.out; have := HK2.out; have := HK3.out; have := HJ40.out; have := HJ42.out; have := HJ50.out; omega
                     case rel => exact ⟨(x10_40), (x11_42), ((rd_T43 l0_0 x14_2).f1), (x13_2), (wrap64 (x14_2 + 1)), (by first | rfl | (simp; done) | (simp [*]; done)), (by first | rfl | (simp; done) | (simp [*]; done)), (by first | rfl | (simp; done) | (simp [*]; done)), (by first | rfl | (simp; done) | (simp [*]; done)), (by first | rfl | (simp; done) | (simp [*]; done)), H', ⟨by have := HJ3.out; have := HK2.out; have := HK3.out; have := HJ40.out; have := HJ42.out; have := HJ50.out; omega⟩, ⟨by (with_reducible repeat (first | apply Kd.R_alloc | apply Kd.R_drewN | apply Kd.R_drew)); exact HO_239000.out⟩, ⟨by (with_reducible repeat (first | apply Kd.R_alloc | apply Kd.R_drewN | apply Kd.R_drew)); exact HO_246000.out⟩, ⟨by (with_reducible repeat (first | refine blk_drewN ?_ _ | refine blk_drew ?_ | refine blk_alloc ?_ _)); exact BK231.out⟩, ⟨by (with_reducible repeat (first | refine blk_drewN ?_ _ | refine blk_drew ?_ | refine blk_alloc ?_ _)); exact BK238.out⟩, ⟨by (with_reducible repeat (first | refine blk_drewN ?_ _ | refine blk_drew ?_ | refine blk_alloc ?_ _)); exact BK245.out⟩, ⟨by repeat (first | (with_reducible first | exact HB.out | apply below_alloc | apply pw_below_drewN | apply below_drew1 | refine below_set ?_ GE231.out | refine below_set ?_ GE238.out | refine below_set ?_ GE245.out) | exact HB.out)⟩⟩
                    ·replace c61 := Bool.eq_false_iff.mpr c61
                     subst c61
                     have H1 : (none) = some r := by rw [if_neg (show ¬ (false = true) by decide)] at H; exact H
                     clear H
                     have H := H1
                     clear H1
                     exact absurd H (by simp)
                   ·rw [if_neg c60] at H
                    exact absurd H (by simp)
                  ·rw [if_neg c59] at H
                   exact absurd H (by simp)
                 ·replace c58 := Bool.eq_false_iff.mpr c58
                  subst c58
                  have H1 : (if t244 = 0 then (if x13_2 ≥ (t239.length : Int) then (none) else (if 0 ≤ x13_2 then (if x13_2 < (t239.length : Int) then (if 0 ≤ x14_2 then (if x14_2 < (l0_0.length : Int) then (if ((rd_T44 t239 x13_2).f0) = ((rd_T43 l0_0 x14_2).f0) then (if ((rd_T44 t239 x13_2).f1) = ((rd_T43 l0_0 x14_2).f1) then (heronrylaw21_SchedPicks.l0 kj50 l1 t232 t243 t244 x10_40 x11_42 x12_2 (wrap64 (x13_2 + 1)) (wrap64 (x14_2 + 1)) l0_0 a0_1 t239 t242) else (none)) else (none)) else (none)) else (none)) else (none)) else (none))) else (heronrylaw21_SchedPicks.l0 kj50 l1 t232 t243 t244 x10_40 x11_42 x12_2 x13_2 (wrap64 (x14_2 + 1)) l0_0 a0_1 t239 t242)) = some r := by rw [if_neg (show ¬ (false = true) by decide)] at H; exact H
                  clear H
                  have H := H1
                  clear H1
                  by_cases c65 : t244 = 0
                  ·rw [if_pos c65] at H
                   have c65b0 : (t244 == 0) = true := beq_iff_eq.mpr c65
                   have c65b1 : (t244 != 0) = false := bne_eq_false_iff_eq.mpr c65
                   clear c65
                   by_cases c66 : x13_2 ≥ (t239.length : Int)
                   ·rw [if_pos c66] at H
                    exact absurd H (by simp)
                   ·rw [if_neg c66] at H
                    have c66b0 : decide ((t239.length : Int) ≤ x13_2) = false := decide_eq_false c66
                    clear c66
                    by_cases c67 : 0 ≤ x13_2
                    ·rw [if_pos c67] at H
                     have c67b0 : decide (0 ≤ x13_2) = true := decide_eq_true c67
                     clear c67
                     by_cases c68 : x13_2 < (t239.length : Int)
                     ·rw [if_pos c68] at H
                      have c68b0 : decide (x13_2 < (t239.length : Int)) = true := decide_eq_true c68
                      clear c68
                      by_cases c69 : 0 ≤ x14_2
                      ·rw [if_pos c69] at H
                       have c69b0 : decide (0 ≤ x14_2) = true := decide_eq_true c69
                       clear c69
                       by_cases c70 : x14_2 < (l0_0.length : Int)
                       ·rw [if_pos c70] at H
                        have c70b0 : decide (x14_2 < (l0_0.length : Int)) = true := decide_eq_true c70
                        clear c70
                        by_cases c71 : ((rd_T44 t239 x13_2).f0) = ((rd_T43 l0_0 x14_2).f0)
                        ·rw [if_pos c71] at H
                         have c71b0 : (((rd_T44 t239 x13_2).f0) == ((rd_T43 l0_0 x14_2).f0)) = true := beq_iff_eq.mpr c71
                         have c71b1 : (((rd_T44 t239 x13_2).f0) != ((rd_T43 l0_0 x14_2).f0)) = false := bne_eq_false_iff_eq.mpr c71
                         clear c71
                         by_cases c72 : ((rd_T44 t239 x13_2).f1) = ((rd_T43 l0_0 x14_2).f1)
                         ·rw [if_pos c72] at H
                          have c72b0 : (((rd_T44 t239 x13_2).f1) == ((rd_T43 l0_0 x14_2).f1)) = true := beq_iff_eq.mpr c72
                          have c72b1 : (((rd_T44 t239 x13_2).f1) != ((rd_T43 l0_0 x14_2).f1)) = false := bne_eq_false_iff_eq.mpr c72
                          clear c72
                          have H' := Aside0.mk H
                          clear H
                          have hnb73 := NB245_231.out
                          have hnc73 := NB231_245.out
                          have hnb74 := NB245_238.out
                          have hnc74 := NB238_245.out
                          have hcz75_0 : wc.cell? ⟨gb245, 0, none⟩ = some (.slice Ao25 t239.length co25) := (blk_cell BK245.out 0).trans rfl
                          have hcz75_1 : wc.cell? ⟨gb245, 1, none⟩ = some (.int .i64 t242) := (blk_cell BK245.out 1).trans rfl
                          have hfz75_0 := blk_frozen BK245.out 0
                          have hfz75_1 := blk_frozen BK245.out 1
                          have p251 : 0 ≤ (x13_2 : Int) := of_decide_eq_true (by first | (with_reducible assumption) | assumption)
                          have q251 : x13_2 < (t239.length : Int) := of_decide_eq_true (by first | (with_reducible assumption) | assumption)
                          obtain ⟨ad251, e251, hx251_0, hx251_1, hx251_2⟩ := at_T44 (Kd.R_reads' HO_246000.out).2.2 x13_2 p251 q251
                          cases e251
                          replace p251 := eq_true p251
                          replace q251 := eq_true q251
                          have hnb76 := NB231_238.out
                          have hnc76 := NB238_231.out
                          have hcz77_0 : wc.cell? ⟨gb231, 0, none⟩ = some (.slice A0_0 l0_0.length c0_0) := (blk_cell BK231.out 0).trans rfl
                          have hcz77_1 : wc.cell? ⟨gb231, 1, none⟩ = some (.int .i64 a0_1) := (blk_cell BK231.out 1).trans rfl
                          have hfz77_0 := blk_frozen BK231.out 0
                          have hfz77_1 := blk_frozen BK231.out 1
                          have p252 : 0 ≤ (x14_2 : Int) := of_decide_eq_true (by first | (with_reducible assumption) | assumption)
                          have q252 : x14_2 < (l0_0.length : Int) := of_decide_eq_true (by first | (with_reducible assumption) | assumption)
                          obtain ⟨ad252, e252, hx252_0, hx252_1, hx252_2⟩ := at_T43 HR0_0.out x14_2 p252 q252
                          cases e252
                          replace hx252_0 := (HB.out.cell (World.block_lt_of_cell? w _ hx252_0)).trans hx252_0
                          replace hx252_1 := (HB.out.cell (World.block_lt_of_cell? w _ hx252_1)).trans hx252_1
                          replace hx252_2 := (HB.out.cell (World.block_lt_of_cell? w _ hx252_2)).trans hx252_2
                          replace p252 := eq_true p252
                          replace q252 := eq_true q252
                          have p253 : 0 ≤ (x13_2 : Int) := of_decide_eq_true (by first | (with_reducible assumption) | assumption)
                          have q253 : x13_2 < (t239.length : Int) := of_decide_eq_true (by first | (with_reducible assumption) | assumption)
                          obtain ⟨ad253, e253, hx253_0, hx253_1, hx253_2⟩ := at_T44 (Kd.R_reads' HO_246000.out).2.2 x13_2 p253 q253
                          obtain rfl : ad251 = ad253 := (by injection e253)
                          replace p253 := eq_true p253
                          replace q253 := eq_true q253
                          have p254 : 0 ≤ (x14_2 : Int) := of_decide_eq_true (by first | (with_reducible assumption) | assumption)
                          have q254 : x14_2 < (l0_0.length : Int) := of_decide_eq_true (by first | (with_reducible assumption) | assumption)
                          obtain ⟨ad254, e254, hx254_0, hx254_1, hx254_2⟩ := at_T43 HR0_0.out x14_2 p254 q254
                          obtain rfl : ad252 = ad254 := (by injection e254)
                          replace hx254_0 := (HB.out.cell (World.block_lt_of_cell? w _ hx254_0)).trans hx254_0
                          replace hx254_1 := (HB.out.cell (World.block_lt_of_cell? w _ hx254_1)).trans hx254_1
                          replace hx254_2 := (HB.out.cell (World.block_lt_of_cell? w _ hx254_2)).trans hx254_2
                          replace p254 := eq_true p254
                          replace q254 := eq_true q254
                          go_wp2
                          repeat (go_quiet (fail); try go_wp2)
                          go_roundg kj50
                          case measure => have := HJ3.out; have := HK2.out; have := HK3.out; have := HJ40.out; have := HJ42.out; have := HJ50.out; omega
                          case rel => exact ⟨(x10_40), (x11_42), (x12_2), (wrap64 (x13_2 + 1)), (wrap64 (x14_2 + 1)), (by first | rfl | (simp; done) | (simp [*]; done)), (by first | rfl | (simp; done) | (simp [*]; done)), (by first | rfl | (simp; done) | (simp [*]; done)), (by first | rfl | (simp; done) | (simp [*]; done)), (by first | rfl | (simp; done) | (simp [*]; done)), H', ⟨by have := HJ3.out; have := HK2.out; have := HK3.out; have := HJ40.out; have := HJ42.out; have := HJ50.out; omega⟩, ⟨by (with_reducible repeat (first | apply Kd.R_alloc | apply Kd.R_drewN | apply Kd.R_drew)); exact HO_239000.out⟩, ⟨by (with_reducible repeat (first | apply Kd.R_alloc | apply Kd.R_drewN | apply Kd.R_drew)); exact HO_246000.out⟩, ⟨by (with_reducible repeat (first | refine blk_drewN ?_ _ | refine blk_drew ?_ | refine blk_alloc ?_ _)); exact BK231.out⟩, ⟨by (with_reducible repeat (first | refine blk_drewN ?_ _ | refine blk_drew ?_ | refine blk_alloc ?_ _)); exact BK238.out⟩, ⟨by (with_reducible repeat (first | refine blk_drewN ?_ _ | refine blk_drew ?_ | refine blk_alloc ?_ _)); exact BK245.out⟩, ⟨by repeat (first | (with_reducible first | exact HB.out | apply below_alloc | apply pw_below_drewN | apply below_drew1 | refine below_set ?_ GE231.out | refine below_set ?_ GE238.out | refine below_set ?_ GE245.out) | exact HB.out)⟩⟩
                         ·rw [if_neg c72] at H
                          exact absurd H (by simp)
                        ·rw [if_neg c71] at H
                         exact absurd H (by simp)
                       ·rw [if_neg c70] at H
                        exact absurd H (by simp)
                      ·rw [if_neg c69] at H
                       exact absurd H (by simp)
                     ·rw [if_neg c68] at H
                      exact absurd H (by simp)
                    ·rw [if_neg c67] at H
                     exact absurd H (by simp)
                  ·rw [if_neg c65] at H
                   have c65b0 : (t244 == 0) = false := beq_eq_false_iff_ne.mpr c65
                   have c65b1 : (t244 != 0) = true := bne_iff_ne.mpr c65
                   have H' := Aside0.mk H
                   clear H
                   go_wp2
                   repeat (go_quiet (fail); try go_wp2)
                   go_roundg kj50
                   case measure => have := HJ3.out; have := HK2.out; have := HK3.out; have := HJ40.out; have := HJ42.out; have := HJ50.out; omega
                   case rel => exact ⟨(x10_40), (x11_42), (x12_2), (x13_2), (wrap64 (x14_2 + 1)), (by first | rfl | (simp; done) | (simp [*]; done)), (by first | rfl | (simp; done) | (simp [*]; done)), (by first | rfl | (simp; done) | (simp [*]; done)), (by first | rfl | (simp; done) | (simp [*]; done)), (by first | rfl | (simp; done) | (simp [*]; done)), H', ⟨by have := HJ3.out; have := HK2.out; have := HK3.out; have := HJ40.out; have := HJ42.out; have := HJ50.out; omega⟩, ⟨by (with_reducible repeat (first | apply Kd.R_alloc | apply Kd.R_drewN | apply Kd.R_drew)); exact HO_239000.out⟩, ⟨by (with_reducible repeat (first | apply Kd.R_alloc | apply Kd.R_drewN | apply Kd.R_drew)); exact HO_246000.out⟩, ⟨by (with_reducible repeat (first | refine blk_drewN ?_ _ | refine blk_drew ?_ | refine blk_alloc ?_ _)); exact BK231.out⟩, ⟨by (with_reducible repeat (first | refine blk_drewN ?_ _ | refine blk_drew ?_ | refine blk_alloc ?_ _)); exact BK238.out⟩, ⟨by (with_reducible repeat (first | refine blk_drewN ?_ _ | refine blk_drew ?_ | refine blk_alloc ?_ _)); exact BK245.out⟩, ⟨by repeat (first | (with_reducible first | exact HB.out | apply below_alloc | apply pw_below_drewN | apply below_drew1 | refine below_set ?_ GE231.out | refine below_set ?_ GE238.out | refine below_set ?_ GE245.out) | exact HB.out)⟩⟩
      ·rw [if_neg c29] at H
       have c29b0 : decide (x14_2 < (l0_0.length : Int)) = false := decide_eq_false c29
       clear c29
       by_cases c78 : t244 = 0
       ·rw [if_pos c78] at H
        have c78b0 : (t244 == 0) = true := beq_iff_eq.mpr c78
        have c78b1 : (t244 != 0) = false := bne_eq_false_iff_eq.mpr c78
        clear c78
        have H' := Aside0.mk H
        clear H
        have hnb79 := NB231_238.out
        have hnc79 := NB238_231.out
        have hnb80 := NB231_245.out
        have hnc80 := NB245_231.out
        have hcz81_0 : wr.cell? ⟨gb231, 0, none⟩ = some (.slice A0_0 l0_0.length c0_0) := (blk_cell BK231.out 0).trans rfl
        have hcz81_1 : wr.cell? ⟨gb231, 1, none⟩ = some (.int .i64 a0_1) := (blk_cell BK231.out 1).trans rfl
        have hfz81_0 := blk_frozen BK231.out 0
        have hfz81_1 := blk_frozen BK231.out 1
        go_wp2
        repeat (go_quiet (fail); try go_wp2)
        as_aux_lemma =>
         go_loopg [17] k2 (fun kq v17 w' => ∃ (x17_3 : Int), v17 = .int .i64 x17_3 ∧ Aside0 (heronrylaw21_SchedPicks.l2 kq l1 t232 x10_2 x11_2 x12_2 x13_2 x17_3 l0_0 a0_1 t239 t242 = some r) ∧ Aside0 (kq ≤ k2) ∧ Aside0 (Kd.R k44 44 w' w.heap.size (fun k_ => some k_ ≠ ((.slice Ao25 t239.length co25) : Value).ownBlock) (.slice Ao20 t234.length co20) t234) ∧ Aside0 (Kd.R k44 44 w' w.heap.size (fun k_ => some k_ ≠ ((.slice Ao20 t234.length co20) : Value).ownBlock) (.slice Ao25 t239.length co25) t239) ∧ Aside0 (w'.heap[gb231]? = some (.cells #[(.slice A0_0 l0_0.length c0_0), .int .i64 a0_1] 39 (0, 0))) ∧ Aside0 (w'.heap[gb238]? = some (.cells #[(.slice Ao20 t234.length co20), .int .i64 t237] 26 (0, 0))) ∧ Aside0 (w'.heap[gb245]? = some (.cells #[(.slice Ao25 t239.length co25), .int .i64 t242] 26 (0, 0))) ∧ Aside0 (Below w.heap.size w w'))
         case atStart => exact ⟨(0), (by first | rfl | (simp; done) | (simp [*]; done)), H', ⟨Nat.le_refl _⟩, ⟨by (with_reducible repeat (first | apply Kd.R_alloc | apply Kd.R_drewN | apply Kd.R_drew)); exact HO_239000.out⟩, ⟨by (with_reducible repeat (first | apply Kd.R_alloc | apply Kd.R_drewN | apply Kd.R_drew)); exact HO_246000.out⟩, ⟨by (with_reducible repeat (first | refine blk_drewN ?_ _ | refine blk_drew ?_ | refine blk_alloc ?_ _)); exact BK231.out⟩, ⟨by (with_reducible repeat (first | refine blk_drewN ?_ _ | refine blk_drew ?_ | refine blk_alloc ?_ _)); exact BK238.out⟩, ⟨by (with_reducible repeat (first | refine blk_drewN ?_ _ | refine blk_drew ?_ | refine blk_alloc ?_ _)); exact BK245.out⟩, ⟨by repeat (first | (with_reducible first | exact HB.out | apply below_alloc | apply pw_below_drewN | apply below_drew1 | refine below_set ?_ GE231.out | refine below_set ?_ GE238.out | refine below_set ?_ GE245.out) | exact HB.out)⟩⟩
         case round =>
          clear H'
          try clear c1
          try clear c2
          try clear p2
          try clear q2
          try clear hx2
          try clear c3
          try clear c4
          try clear c5
          try clear c6
          try clear p6
          try clear c7
          try clear c7b0
          try clear c7b1
          try clear c8
          try clear c9
          try clear c9b0
          try clear c9b1
          try clear c14
          try clear c21
          try clear p24
          try clear q24
          try clear hx24
          try clear p25
          try clear q25
          try clear hx25
          try clear c26
          try clear c27
          try clear c29
          try clear c29b0
          try clear c30
          try clear c31
          try clear c33
          try clear c33b0
          try clear c34
          try clear c35
          try clear c35b0
          try clear c36
          try clear c36b0
          try clear c37
          try clear c37b0
          try clear c38
          try clear c39
          try clear c42
          try clear c44
          try clear c45
          try clear c46
          try clear c46b0
          try clear c47
          try clear c47b0
          try clear c48
          try clear c49
          try clear c52
          try clear c52b0
          try clear c52b1
          try clear c53
          try clear c53b0
          try clear c54
          try clear c54b0
          try clear c55
          try clear c56
          try clear c58
          try clear c59
          try clear c59b0
          try clear c60
          try clear c60b0
          try clear c61
          try clear c62
          try clear c63
          try clear p64
          try clear c65
          try clear c65b0
          try clear c65b1
          try clear c66
          try clear c66b0
          try clear c67
          try clear c67b0
          try clear c68
          try clear c68b0
          try clear c69
          try clear c69b0
          try clear c70
          try clear c70b0
          try clear c71
          try clear c71b0
          try clear c71b1
          try clear c72
          try clear c72b0
          try clear c72b1
          try clear c73
          try clear c74
          try clear c76
          try clear c78
          try clear c78b0
          try clear c78b1
          try clear c79
          try clear c80
          try clear hcz10_0
          try clear hcz10_1
          try clear hcz12_0
          try clear hcz12_1
          try clear hcz17_0
          try clear hcz17_1
          try clear hcz22_0
          try clear hcz22_1
          try clear hcz28_0
          try clear hcz28_1
          try clear hcz32_0
          try clear hcz32_1
          try clear hcz40_0
          try clear hcz40_1
          try clear hcz50_0
          try clear hcz50_1
          try clear hcz57_0
          try clear hcz57_1
          try clear hcz64_0
          try clear hcz64_1
          try clear hcz75_0
          try clear hcz75_1
          try clear hcz77_0
          try clear hcz77_1
          try clear hcz81_0
          try clear hcz81_1
          try clear hcz8_0
          try clear hcz8_1
          try clear hfz10_0
          try clear hfz10_1
          try clear hfz12_0
          try clear hfz12_1
          try clear hfz17_0
          try clear hfz17_1
          try clear hfz22_0
          try clear hfz22_1
          try clear hfz28_0
          try clear hfz28_1
          try clear hfz32_0
          try clear hfz32_1
          try clear hfz40_0
          try clear hfz40_1
          try clear hfz50_0
          try clear hfz50_1
          try clear hfz57_0
          try clear hfz57_1
          try clear hfz64_0
          try clear hfz64_1
          try clear hfz75_0
          try clear hfz75_1
          try clear hfz77_0
          try clear hfz77_1
          try clear hfz81_0
          try clear hfz81_1
          try clear hfz8_0
          try clear hfz8_1
          try clear hx246_0
          try clear hx247_0
          try clear hx247_1
          try clear hx247_2
          try clear hx248_0
          try clear hx248_1
          try clear hx248_2
          try clear hx249_0
          try clear hx249_1
          try clear hx249_2
          try clear hx250_0
          try clear hx250_1
          try clear hx250_2
          try clear hx251_0
          try clear hx251_1
          try clear hx251_2
          try clear hx252_0
          try clear hx252_1
          try clear hx252_2
          try clear hx253_0
          try clear hx253_1
          try clear hx253_2
          try clear hx254_0
          try clear hx254_1
          try clear hx254_2
          try clear p2
          try clear p24
          try clear p246
          try clear p247
          try clear p248
          try clear p249
          try clear p250
          try clear p251
          try clear p252
          try clear p253
          try clear p254
          try clear p6
          try clear q2
          try clear q24
          try clear q246
          try clear q247
          try clear q248
          try clear q249
          try clear q250
          try clear q251
          try clear q252
          try clear q253
          try clear q254
          obtain ⟨x17_3, rfl, HA, HK3, HO_239000, HO_246000, BK231, BK238, BK245, HB⟩ := hrel
          cases gk with
          | zero => exact absurd HA.out (by simp [heronrylaw21_SchedPicks.l2])
          | succ k3 =>
           have H := HA.out
           clear HA
           simp only [heronrylaw21_SchedPicks.l2] at H
           have HC82 := Aside0.mk H
           clear H
           go_upto_region 31 with (fail)
           repeat (go_quiet (fail); go_upto_region 31 with (fail))
           go_cut [168] (fun v168 wc => ∃ (kq : Nat) (x168_81 : Bool), v168 = .bool x168_81 ∧ Aside0 (heronrylaw21_SchedPicks.j7 kq l1 t232 x10_2 x11_2 x12_2 x13_2 x17_3 x168_81 l0_0 a0_1 t239 t242 = some r) ∧ Aside0 (kq ≤ k3) ∧ Aside0 (Kd.R k44 44 wc w.heap.size (fun k_ => some k_ ≠ ((.slice Ao25 t239.length co25) : Value).ownBlock) (.slice Ao20 t234.length co20) t234) ∧ Aside0 (Kd.R k44 44 wc w.heap.size (fun k_ => some k_ ≠ ((.slice Ao20 t234.length co20) : Value).ownBlock) (.slice Ao25 t239.length co25) t239) ∧ Aside0 (wc.heap[gb231]? = some (.cells #[(.slice A0_0 l0_0.length c0_0), .int .i64 a0_1] 39 (0, 0))) ∧ Aside0 (wc.heap[gb238]? = some (.cells #[(.slice Ao20 t234.length co20), .int .i64 t237] 26 (0, 0))) ∧ Aside0 (wc.heap[gb245]? = some (.cells #[(.slice Ao25 t239.length co25), .int .i64 t242] 26 (0, 0))) ∧ Aside0 (Below w.heap.size w wc))
           case first =>
            have H := HC82.out
            clear HC82
            by_cases c83 : x17_3 < (l0_0.length : Int)
            ·rw [if_pos c83] at H
             have c83b0 : decide (x17_3 < (l0_0.length : Int)) = true := decide_eq_true c83
             clear c83
             (first | rw [c83b0] | (simp only [i64_w, i32_w]; rw [c83b0]) | skip)
             have H' := Aside0.mk H
             clear H
             have hnb84 := NB231_238.out
             have hnc84 := NB238_231.out
             have hnb85 := NB231_245.out
             have hnc85 := NB245_231.out
             have hcz86_0 : wr.cell? ⟨gb231, 0, none⟩ = some (.slice A0_0 l0_0.length c0_0) := (blk_cell BK231.out 0).trans rfl
             have hcz86_1 : wr.cell? ⟨gb231, 1, none⟩ = some (.int .i64 a0_1) := (blk_cell BK231.out 1).trans rfl
             have hfz86_0 := blk_frozen BK231.out 0
             have hfz86_1 := blk_frozen BK231.out 1
             go_wp2
             repeat (go_quiet (fail); try go_wp2)
             go_meet
             case rel => exact ⟨_, (!x11_2), (by first | rfl | (simp; done) | (simp [*]; done)), H', ⟨by have := HJ3.out; have := HK2.out; have := HK3.out; first | omega | exact Nat.le_refl _⟩, ⟨by (with_reducible repeat (first | apply Kd.R_alloc | apply Kd.R_drewN | apply Kd.R_drew)); exact HO_239000.out⟩, ⟨by (with_reducible repeat (first | apply Kd.R_alloc | apply Kd.R_drewN | apply Kd.R_drew)); exact HO_246000.out⟩, ⟨by (with_reducible repeat (first | refine blk_drewN ?_ _ | refine blk_drew ?_ | refine blk_alloc ?_ _)); exact BK231.out⟩, ⟨by (with_reducible repeat (first | refine blk_drewN ?_ _ | refine blk_drew ?_ | refine blk_alloc ?_ _)); exact BK238.out⟩, ⟨by (with_reducible repeat (first | refine blk_drewN ?_ _ | refine blk_drew ?_ | refine blk_alloc ?_ _)); exact BK245.out⟩, ⟨by repeat (first | (with_reducible first | exact HB.out | apply below_alloc | apply pw_below_drewN | apply below_drew1 | refine below_set ?_ GE231.out | refine below_set ?_ GE238.out | refine below_set ?_ GE245.out) | exact HB.out)⟩⟩
            ·rw [if_neg c83] at H
             have c83b0 : decide (x17_3 < (l0_0.length : Int)) = false := decide_eq_false c83
             clear c83
             (first | rw [c83b0] | (simp only [i64_w, i32_w]; rw [c83b0]) | skip)
             have H' := Aside0.mk H
             clear H
             have hnb87 := NB231_238.out
             have hnc87 := NB238_231.out
             have hnb88 := NB231_245.out
             have hnc88 := NB245_231.out
             have hcz89_0 : wr.cell? ⟨gb231, 0, none⟩ = some (.slice A0_0 l0_0.length c0_0) := (blk_cell BK231.out 0).trans rfl
             have hcz89_1 : wr.cell? ⟨gb231, 1, none⟩ = some (.int .i64 a0_1) := (blk_cell BK231.out 1).trans rfl
             have hfz89_0 := blk_frozen BK231.out 0
             have hfz89_1 := blk_frozen BK231.out 1
             go_wp2
             repeat (go_quiet (fail); try go_wp2)
             go_meet
             case rel => exact ⟨_, (false), (by first | rfl | (simp; done) | (simp [*]; done)), H', ⟨by have := HJ3.out; have := HK2.out; have := HK3.out; first | omega | exact Nat.le_refl _⟩, ⟨by (with_reducible repeat (first | apply Kd.R_alloc | apply Kd.R_drewN | apply Kd.R_drew)); exact HO_239000.out⟩, ⟨by (with_reducible repeat (first | apply Kd.R_alloc | apply Kd.R_drewN | apply Kd.R_drew)); exact HO_246000.out⟩, ⟨by (with_reducible repeat (first | refine blk_drewN ?_ _ | refine blk_drew ?_ | refine blk_alloc ?_ _)); exact BK231.out⟩, ⟨by (with_reducible repeat (first | refine blk_drewN ?_ _ | refine blk_drew ?_ | refine blk_alloc ?_ _)); exact BK238.out⟩, ⟨by (with_reducible repeat (first | refine blk_drewN ?_ _ | refine blk_drew ?_ | refine blk_alloc ?_ _)); exact BK245.out⟩, ⟨by repeat (first | (with_reducible first | exact HB.out | apply below_alloc | apply pw_below_drewN | apply below_drew1 | refine below_set ?_ GE231.out | refine below_set ?_ GE238.out | refine below_set ?_ GE245.out) | exact HB.out)⟩⟩
           case rest =>
            clear HC82
            try clear c1
            try clear c2
            try clear p2
            try clear q2
            try clear hx2
            try clear c3
            try clear c4
            try clear c5
            try clear c6
            try clear p6
            try clear c7
            try clear c7b0
            try clear c7b1
            try clear c8
            try clear c9
            try clear c9b0
            try clear c9b1
            try clear c14
            try clear c21
            try clear p24
            try clear q24
            try clear hx24
            try clear p25
            try clear q25
            try clear hx25
            try clear c26
            try clear c27
            try clear c29
            try clear c29b0
            try clear c30
            try clear c31
            try clear c33
            try clear c33b0
            try clear c34
            try clear c35
            try clear c35b0
            try clear c36
            try clear c36b0
            try clear c37
            try clear c37b0
            try clear c38
            try clear c39
            try clear c42
            try clear c44
            try clear c45
            try clear c46
            try clear c46b0
            try clear c47
            try clear c47b0
            try clear c48
            try clear c49
            try clear c52
            try clear c52b0
            try clear c52b1
            try clear c53
            try clear c53b0
            try clear c54
            try clear c54b0
            try clear c55
            try clear c56
            try clear c58
            try clear c59
            try clear c59b0
            try clear c60
            try clear c60b0
            try clear c61
            try clear c62
            try clear c63
            try clear p64
            try clear c65
            try clear c65b0
            try clear c65b1
            try clear c66
            try clear c66b0
            try clear c67
            try clear c67b0
            try clear c68
            try clear c68b0
            try clear c69
            try clear c69b0
            try clear c70
            try clear c70b0
            try clear c71
            try clear c71b0
            try clear c71b1
            try clear c72
            try clear c72b0
            try clear c72b1
            try clear c73
            try clear c74
            try clear c76
            try clear c78
            try clear c78b0
            try clear c78b1
            try clear c79
            try clear c80
            try clear c83
            try clear c83b0
            try clear c84
            try clear c85
            try clear c87
            try clear c88
            try clear hcz10_0
            try clear hcz10_1
            try clear hcz12_0
            try clear hcz12_1
            try clear hcz17_0
            try clear hcz17_1
            try clear hcz22_0
            try clear hcz22_1
            try clear hcz28_0
            try clear hcz28_1
            try clear hcz32_0
            try clear hcz32_1
            try clear hcz40_0
            try clear hcz40_1
            try clear hcz50_0
            try clear hcz50_1
            try clear hcz57_0
            try clear hcz57_1
            try clear hcz64_0
            try clear hcz64_1
            try clear hcz75_0
            try clear hcz75_1
            try clear hcz77_0
            try clear hcz77_1
            try clear hcz81_0
            try clear hcz81_1
            try clear hcz86_0
            try clear hcz86_1
            try clear hcz89_0
            try clear hcz89_1
            try clear hcz8_0
            try clear hcz8_1
            try clear hfz10_0
            try clear hfz10_1
            try clear hfz12_0
            try clear hfz12_1
            try clear hfz17_0
            try clear hfz17_1
            try clear hfz22_0
            try clear hfz22_1
            try clear hfz28_0
            try clear hfz28_1
            try clear hfz32_0
            try clear hfz32_1
            try clear hfz40_0
            try clear hfz40_1
            try clear hfz50_0
            try clear hfz50_1
            try clear hfz57_0
            try clear hfz57_1
            try clear hfz64_0
            try clear hfz64_1
            try clear hfz75_0
            try clear hfz75_1
            try clear hfz77_0
            try clear hfz77_1
            try clear hfz81_0
            try clear hfz81_1
            try clear hfz86_0
            try clear hfz86_1
            try clear hfz89_0
            try clear hfz89_1
            try clear hfz8_0
            try clear hfz8_1
            try clear hx246_0
            try clear hx247_0
            try clear hx247_1
            try clear hx247_2
            try clear hx248_0
            try clear hx248_1
            try clear hx248_2
            try clear hx249_0
            try clear hx249_1
            try clear hx249_2
            try clear hx250_0
            try clear hx250_1
            try clear hx250_2
            try clear hx251_0
            try clear hx251_1
            try clear hx251_2
            try clear hx252_0
            try clear hx252_1
            try clear hx252_2
            try clear hx253_0
            try clear hx253_1
            try clear hx253_2
            try clear hx254_0
            try clear hx254_1
            try clear hx254_2
            try clear p2
            try clear p24
            try clear p246
            try clear p247
            try clear p248
            try clear p249
            try clear p25
            try clear p250
            try clear p251
            try clear p252
            try clear p253
            try clear p254
            try clear p6
            try clear p64
            try clear q2
            try clear q24
            try clear q246
            try clear q247
            try clear q248
            try clear q249
            try clear q25
            try clear q250
            try clear q251
            try clear q252
            try clear q253
            try clear q254
            obtain ⟨kq, x168_81, rfl, HA, HJ81, HO_239000, HO_246000, BK231, BK238, BK245, HB⟩ := hcut
            cases kq with
            | zero => exact absurd HA.out (by simp [heronrylaw21_SchedPicks.j7])
            | succ kj81 =>
             have H := HA.out
             clear HA
             simp only [heronrylaw21_SchedPicks.j7] at H
             by_cases c90 : x168_81 = true
             ·subst c90
              have H1 : (heronrylaw21_SchedPicks.l3 kj81 l1 t232 x10_2 x11_2 x12_2 x13_2 x17_3 0 l0_0 a0_1 t239 t242) = some r := by rw [if_pos rfl] at H; exact H
              clear H
              have H := H1
              clear H1
              have H' := Aside0.mk H
              clear H
              go_wp2
              repeat (go_quiet (fail); try go_wp2)
              go_loopg [18] kj81 (fun kq v18 w' => ∃ (x18_5 : Int), v18 = .int .i64 x18_5 ∧ Aside0 (heronrylaw21_SchedPicks.l3 kq l1 t232 x10_2 x11_2 x12_2 x13_2 x17_3 x18_5 l0_0 a0_1 t239 t242 = some r) ∧ Aside0 (kq ≤ kj81) ∧ Aside0 (Kd.R k44 44 w' w.heap.size (fun k_ => some k_ ≠ ((.slice Ao25 t239.length co25) : Value).ownBlock) (.slice Ao20 t234.length co20) t234) ∧ Aside0 (Kd.R k44 44 w' w.heap.size (fun k_ => some k_ ≠ ((.slice Ao20 t234.length co20) : Value).ownBlock) (.slice Ao25 t239.length co25) t239) ∧ Aside0 (w'.heap[gb231]? = some (.cells #[(.slice A0_0 l0_0.length c0_0), .int .i64 a0_1] 39 (0, 0))) ∧ Aside0 (w'.heap[gb238]? = some (.cells #[(.slice Ao20 t234.length co20), .int .i64 t237] 26 (0, 0))) ∧ Aside0 (w'.heap[gb245]? = some (.cells #[(.slice Ao25 t239.length co25), .int .i64 t242] 26 (0, 0))) ∧ Aside0 (Below w.heap.size w w'))
              case atStart => exact ⟨(0), (by first | rfl | (simp; done) | (simp [*]; done)), H', ⟨Nat.le_refl _⟩, ⟨by (with_reducible repeat (first | apply Kd.R_alloc | apply Kd.R_drewN | apply Kd.R_drew)); exact HO_239000.out⟩, ⟨by (with_reducible repeat (first | apply Kd.R_alloc | apply Kd.R_drewN | apply Kd.R_drew)); exact HO_246000.out⟩, ⟨by (with_reducible repeat (first | refine blk_drewN ?_ _ | refine blk_drew ?_ | refine blk_alloc ?_ _)); exact BK231.out⟩, ⟨by (with_reducible repeat (first | refine blk_drewN ?_ _ | refine blk_drew ?_ | refine blk_alloc ?_ _)); exact BK238.out⟩, ⟨by (with_reducible repeat (first | refine blk_drewN ?_ _ | refine blk_drew ?_ | refine blk_alloc ?_ _)); exact BK245.out⟩, ⟨by repeat (first | (with_reducible first | exact HB.out | apply below_alloc | apply pw_below_drewN | apply below_drew1 | refine below_set ?_ GE231.out | refine below_set ?_ GE238.out | refine below_set ?_ GE245.out) | exact HB.out)⟩⟩
              case round =>
               clear H'
               try clear c1
               try clear c2
               try clear p2
               try clear q2
               try clear hx2
               try clear c3
               try clear c4
               try clear c5
               try clear c6
               try clear p6
               try clear c7
               try clear c7b0
               try clear c7b1
               try clear c8
               try clear c9
               try clear c9b0
               try clear c9b1
               try clear c14
               try clear c21
               try clear p24
               try clear q24
               try clear hx24
               try clear p25
               try clear q25
               try clear hx25
               try clear c26
               try clear c27
               try clear c29
               try clear c29b0
               try clear c30
               try clear c31
               try clear c33
               try clear c33b0
               try clear c34
               try clear c35
               try clear c35b0
               try clear c36
               try clear c36b0
               try clear c37
               try clear c37b0
               try clear c38
               try clear c39
               try clear c42
               try clear c44
               try clear c45
               try clear c46
               try clear c46b0
               try clear c47
               try clear c47b0
               try clear c48
               try clear c49
               try clear c52
               try clear c52b0
               try clear c52b1
               try clear c53
               try clear c53b0
               try clear c54
               try clear c54b0
               try clear c55
               try clear c56
               try clear c58
               try clear c59
               try clear c59b0
               try clear c60
               try clear c60b0
               try clear c61
               try clear c62
               try clear c63
               try clear p64
               try clear c65
               try clear c65b0
               try clear c65b1
               try clear c66
               try clear c66b0
               try clear c67
               try clear c67b0
               try clear c68
               try clear c68b0
               try clear c69
               try clear c69b0
               try clear c70
               try clear c70b0
               try clear c71
               try clear c71b0
               try clear c71b1
               try clear c72
               try clear c72b0
               try clear c72b1
               try clear c73
               try clear c74
               try clear c76
               try clear c78
               try clear c78b0
               try clear c78b1
               try clear c79
               try clear c80
               try clear c83
               try clear c83b0
               try clear c84
               try clear c85
               try clear c87
               try clear c88
               try clear c90
               try clear hcz10_0
               try clear hcz10_1
               try clear hcz12_0
               try clear hcz12_1
               try clear hcz17_0
               try clear hcz17_1
               try clear hcz22_0
               try clear hcz22_1
               try clear hcz28_0
               try clear hcz28_1
               try clear hcz32_0
               try clear hcz32_1
               try clear hcz40_0
               try clear hcz40_1
               try clear hcz50_0
               try clear hcz50_1
               try clear hcz57_0
               try clear hcz57_1
               try clear hcz64_0
               try clear hcz64_1
               try clear hcz75_0
               try clear hcz75_1
               try clear hcz77_0
               try clear hcz77_1
               try clear hcz81_0
               try clear hcz81_1
               try clear hcz86_0
               try clear hcz86_1
               try clear hcz89_0
               try clear hcz89_1
               try clear hcz8_0
               try clear hcz8_1
               try clear hfz10_0
               try clear hfz10_1
               try clear hfz12_0
               try clear hfz12_1
               try clear hfz17_0
               try clear hfz17_1
               try clear hfz22_0
               try clear hfz22_1
               try clear hfz28_0
               try clear hfz28_1
               try clear hfz32_0
               try clear hfz32_1
               try clear hfz40_0
               try clear hfz40_1
               try clear hfz50_0
               try clear hfz50_1
               try clear hfz57_0
               try clear hfz57_1
               try clear hfz64_0
               try clear hfz64_1
               try clear hfz75_0
               try clear hfz75_1
               try clear hfz77_0
               try clear hfz77_1
               try clear hfz81_0
               try clear hfz81_1
               try clear hfz86_0
               try clear hfz86_1
               try clear hfz89_0
               try clear hfz89_1
               try clear hfz8_0
               try clear hfz8_1
               try clear hx246_0
               try clear hx247_0
               try clear hx247_1
               try clear hx247_2
               try clear hx248_0
               try clear hx248_1
               try clear hx248_2
               try clear hx249_0
               try clear hx249_1
               try clear hx249_2
               try clear hx250_0
               try clear hx250_1
               try clear hx250_2
               try clear hx251_0
               try clear hx251_1
               try clear hx251_2
               try clear hx252_0
               try clear hx252_1
               try clear hx252_2
               try clear hx253_0
               try clear hx253_1
               try clear hx253_2
               try clear hx254_0
               try clear hx254_1
               try clear hx254_2
               try clear p2
               try clear p24
               try clear p246
               try clear p247
               try clear p248
               try clear p249
               try clear p25
               try clear p250
               try clear p251
               try clear p252
               try clear p253
               try clear p254
               try clear p6
               try clear p64
               try clear q2
               try clear q24
               try clear q246
               try clear q247
               try clear q248
               try clear q249
               try clear q25
               try clear q250
               try clear q251
               try clear q252
               try clear q253
               try clear q254
               obtain ⟨x18_5, rfl, HA, HK5, HO_239000, HO_246000, BK231, BK238, BK245, HB⟩ := hrel
               cases gk with
               | zero => exact absurd HA.out (by simp [heronrylaw21_SchedPicks.l3])
               | succ k5 =>
                have H := HA.out
                clear HA
                simp only [heronrylaw21_SchedPicks.l3] at H
                by_cases c91 : x18_5 < (l1.length : Int)
                ·rw [if_pos c91] at H
                 have c91b0 : decide (x18_5 < (l1.length : Int)) = true := decide_eq_true c91
                 clear c91
                 by_cases c92 : 0 ≤ x18_5
                 ·rw [if_pos c92] at H
                  have c92b0 : decide (0 ≤ x18_5) = true := decide_eq_true c92
                  clear c92
                  by_cases c93 : 0 ≤ x17_3
                  ·rw [if_pos c93] at H
                   have c93b0 : decide (0 ≤ x17_3) = true := decide_eq_true c93
                   clear c93
                   by_cases c94 : x17_3 < (l0_0.length : Int)
                   ·rw [if_pos c94] at H
                    have c94b0 : decide (x17_3 < (l0_0.length : Int)) = true := decide_eq_true c94
                    clear c94
                    by_cases c95 : (rd l1 x18_5) = ((rd_T43 l0_0 x17_3).f0)
                    ·rw [if_pos c95] at H
                     have c95b0 : ((rd l1 x18_5) == ((rd_T43 l0_0 x17_3).f0)) = true := beq_iff_eq.mpr c95
                     have c95b1 : ((rd l1 x18_5) != ((rd_T43 l0_0 x17_3).f0)) = false := bne_eq_false_iff_eq.mpr c95
                     clear c95
                     replace H := Option.bind_eq_some_iff.mp H
                     obtain ⟨t258, A960, H⟩ := H
                     replace H : (if t258 = true then (none) else (heronrylaw21_SchedPicks.l3 k5 l1 t232 x10_2 x11_2 x12_2 x13_2 x17_3 (wrap64 (x18_5 + 1)) l0_0 a0_1 t239 t242)) = some r := H
                     have A96 := Aside0.mk A960
                     clear A960
                     by_cases c97 : t258 = true
                     ·subst c97
                      have H1 : (none) = some r := by rw [if_pos rfl] at H; exact H
                      clear H
                      have H := H1
                      clear H1
                      exact absurd H (by simp)
                     ·replace c97 := Bool.eq_false_iff.mpr c97
                      subst c97
                      have H1 : (heronrylaw21_SchedPicks.l3 k5 l1 t232 x10_2 x11_2 x12_2 x13_2 x17_3 (wrap64 (x18_5 + 1)) l0_0 a0_1 t239 t242) = some r := by rw [if_neg (show ¬ (false = true) by decide)] at H; exact H
                      clear H
                      have H := H1
                      clear H1
                      have H' := Aside0.mk H
                      clear H
                      have p255 : 0 ≤ (x18_5 : Int) := of_decide_eq_true (by first | (with_reducible assumption) | assumption)
                      have q255 : x18_5 < (l1.length : Int) := of_decide_eq_true (by first | (with_reducible assumption) | assumption)
                      obtain ⟨ad255, e255, hx255_0⟩ := Kd.at_int HR1.out x18_5 p255 q255
                      cases e255
                      replace hx255_0 := (HB.out.cell (World.block_lt_of_cell? w _ hx255_0)).trans hx255_0
                      replace p255 := eq_true p255
                      replace q255 := eq_true q255
                      have hnb98 := NB231_238.out
                      have hnc98 := NB238_231.out
                      have hnb99 := NB231_245.out
                      have hnc99 := NB245_231.out
                      have hcz100_0 : wr.cell? ⟨gb231, 0, none⟩ = some (.slice A0_0 l0_0.length c0_0) := (blk_cell BK231.out 0).trans rfl
                      have hcz100_1 : wr.cell? ⟨gb231, 1, none⟩ = some (.int .i64 a0_1) := (blk_cell BK231.out 1).trans rfl
                      have hfz100_0 := blk_frozen BK231.out 0
                      have hfz100_1 := blk_frozen BK231.out 1
                      have p256 : 0 ≤ (x17_3 : Int) := of_decide_eq_true (by first | (with_reducible assumption) | assumption)
                      have q256 : x17_3 < (l0_0.length : Int) := of_decide_eq_true (by first | (with_reducible assumption) | assumption)
                      obtain ⟨ad256, e256, hx256_0, hx256_1, hx256_2⟩ := at_T43 HR0_0.out x17_3 p256 q256
                      cases e256
                      replace hx256_0 := (HB.out.cell (World.block_lt_of_cell? w _ hx256_0)).trans hx256_0
                      replace hx256_1 := (HB.out.cell (World.block_lt_of_cell? w _ hx256_1)).trans hx256_1
                      replace hx256_2 := (HB.out.cell (World.block_lt_of_cell? w _ hx256_2)).trans hx256_2
                      replace p256 := eq_true p256
                      replace q256 := eq_true q256
                      have p257 : 0 ≤ (x17_3 : Int) := of_decide_eq_true (by first | (with_reducible assumption) | assumption)
                      have q257 : x17_3 < (l0_0.length : Int) := of_decide_eq_true (by first | (with_reducible assumption) | assumption)
                      obtain ⟨ad257, e257, hx257_0, hx257_1, hx257_2⟩ := at_T43 HR0_0.out x17_3 p257 q257
                      obtain rfl : ad256 = ad257 := (by injection e257)
                      replace hx257_0 := (HB.out.cell (World.block_lt_of_cell? w _ hx257_0)).trans hx257_0
                      replace hx257_1 := (HB.out.cell (World.block_lt_of_cell? w _ hx257_1)).trans hx257_1
                      replace hx257_2 := (HB.out.cell (World.block_lt_of_cell? w _ hx257_2)).trans hx257_2
                      replace p257 := eq_true p257
                      replace q257 := eq_true q257
                      go_wp2_with (first | (go_at_call 15; (with_reducible refine (float_Less.calls x12_2 ((rd_T43 l0_0 x17_3).f1) false _ A96.out).mono ?_); rintro e w' ⟨rfl, ⟨nd, rfl⟩⟩; (try first | exact ⟨rfl, _, World.drewN_drewN _ _ _⟩ | exact ⟨rfl, _, Eq.trans (World.drewN_drewN _ _ _) (congrArg (World.drewN _) (Nat.add_assoc _ _ _))⟩)))
                      repeat (go_quiet (first | (go_at_call 15; (with_reducible refine (float_Less.calls x12_2 ((rd_T43 l0_0 x17_3).f1) false _ A96.out).mono ?_); rintro e w' ⟨rfl, ⟨nd, rfl⟩⟩; (try first | exact ⟨rfl, _, World.drewN_drewN _ _ _⟩ | exact ⟨rfl, _, Eq.trans (World.drewN_drewN _ _ _) (congrArg (World.drewN _) (Nat.add_assoc _ _ _))⟩))); try go_wp2_with (first | (go_at_call 15; (with_reducible refine (float_Less.calls x12_2 ((rd_T43 l0_0 x17_3).f1) false _ A96.out).mono ?_); rintro e w' ⟨rfl, ⟨nd, rfl⟩⟩; (try first | exact ⟨rfl, _, World.drewN_drewN _ _ _⟩ | exact ⟨rfl, _, Eq.trans (World.drewN_drewN _ _ _) (congrArg (World.drewN _) (Nat.add_assoc _ _ _))⟩))))
                      go_roundg k5
                      case measure => have := HJ3.out; have := HK2.out; have := HK3.out; have := HJ81.out; have := HK5.out; omega
                      case rel => exact ⟨(wrap64 (x18_5 + 1)), (by first | rfl | (simp; done) | (simp [*]; done)), H', ⟨by have := HJ3.out; have := HK2.out; have := HK3.out; have := HJ81.out; have := HK5.out; omega⟩, ⟨by (with_reducible repeat (first | apply Kd.R_alloc | apply Kd.R_drewN | apply Kd.R_drew)); exact HO_239000.out⟩, ⟨by (with_reducible repeat (first | apply Kd.R_alloc | apply Kd.R_drewN | apply Kd.R_drew)); exact HO_246000.out⟩, ⟨by (with_reducible repeat (first | refine blk_drewN ?_ _ | refine blk_drew ?_ | refine blk_alloc ?_ _)); exact BK231.out⟩, ⟨by (with_reducible repeat (first | refine blk_drewN ?_ _ | refine blk_drew ?_ | refine blk_alloc ?_ _)); exact BK238.out⟩, ⟨by (with_reducible repeat (first | refine blk_drewN ?_ _ | refine blk_drew ?_ | refine blk_alloc ?_ _)); exact BK245.out⟩, ⟨by repeat (first | (with_reducible first | exact HB.out | apply below_alloc | apply pw_below_drewN | apply below_drew1 | refine below_set ?_ GE231.out | refine below_set ?_ GE238.out | refine below_set ?_ GE245.out) | exact HB.out)⟩⟩
                    ·rw [if_neg c95] at H
                     have c95b0 : ((rd l1 x18_5) == ((rd_T43 l0_0 x17_3).f0)) = false := beq_eq_false_iff_ne.mpr c95
                     have c95b1 : ((rd l1 x18_5) != ((rd_T43 l0_0 x17_3).f0)) = true := bne_iff_ne.mpr c95
                     have H' := Aside0.mk H
                     clear H
                     have p255 : 0 ≤ (x18_5 : Int) := of_decide_eq_true (by first | (with_reducible assumption) | assumption)
                     have q255 : x18_5 < (l1.length : Int) := of_decide_eq_true (by first | (with_reducible assumption) | assumption)
                     obtain ⟨ad255, e255, hx255_0⟩ := Kd.at_int HR1.out x18_5 p255 q255
                     cases e255
                     replace hx255_0 := (HB.out.cell (World.block_lt_of_cell? w _ hx255_0)).trans hx255_0
                     replace p255 := eq_true p255
                     replace q255 := eq_true q255
                     have hnb101 := NB231_238.out
                     have hnc101 := NB238_231.out
                     have hnb102 := NB231_245.out
                     have hnc102 := NB245_231.out
                     have hcz103_0 : wr.cell? ⟨gb231, 0, none⟩ = some (.slice A0_0 l0_0.length c0_0) := (blk_cell BK231.out 0).trans rfl
                     have hcz103_1 : wr.cell? ⟨gb231, 1, none⟩ = some (.int .i64 a0_1) := (blk_cell BK231.out 1).trans rfl
                     have hfz103_0 := blk_frozen BK231.out 0
                     have hfz103_1 := blk_frozen BK231.out 1
                     have p256 : 0 ≤ (x17_3 : Int) := of_decide_eq_true (by first | (with_reducible assumption) | assumption)
                     have q256 : x17_3 < (l0_0.length : Int) := of_decide_eq_true (by first | (with_reducible assumption) | assumption)
                     obtain ⟨ad256, e256, hx256_0, hx256_1, hx256_2⟩ := at_T43 HR0_0.out x17_3 p256 q256
                     cases e256
                     replace hx256_0 := (HB.out.cell (World.block_lt_of_cell? w _ hx256_0)).trans hx256_0
                     replace hx256_1 := (HB.out.cell (World.block_lt_of_cell? w _ hx256_1)).trans hx256_1
                     replace hx256_2 := (HB.out.cell (World.block_lt_of_cell? w _ hx256_2)).trans hx256_2
                     replace p256 := eq_true p256
                     replace q256 := eq_true q256
                     go_wp2
                     repeat (go_quiet (fail); try go_wp2)
                     go_roundg k5
                     case measure => have := HJ3.out; have := HK2.out; have := HK3.out; have := HJ81.out; have := HK5.out; omega
                     case rel => exact ⟨(wrap64 (x18_5 + 1)), (by first | rfl | (simp; done) | (simp [*]; done)), H', ⟨by have := HJ3.out; have := HK2.out; have := HK3.out; have := HJ81.out; have := HK5.out; omega⟩, ⟨by (with_reducible repeat (first | apply Kd.R_alloc | apply Kd.R_drewN | apply Kd.R_drew)); exact HO_239000.out⟩, ⟨by (with_reducible repeat (first | apply Kd.R_alloc | apply Kd.R_drewN | apply Kd.R_drew)); exact HO_246000.out⟩, ⟨by (with_reducible repeat (first | refine blk_drewN ?_ _ | refine blk_drew ?_ | refine blk_alloc ?_ _)); exact BK231.out⟩, ⟨by (with_reducible repeat (first | refine blk_drewN ?_ _ | refine blk_drew ?_ | refine blk_alloc ?_ _)); exact BK238.out⟩, ⟨by (with_reducible repeat (first | refine blk_drewN ?_ _ | refine blk_drew ?_ | refine blk_alloc ?_ _)); exact BK245.out⟩, ⟨by repeat (first | (with_reducible first | exact HB.out | apply below_alloc | apply pw_below_drewN | apply below_drew1 | refine below_set ?_ GE231.out | refine below_set ?_ GE238.out | refine below_set ?_ GE245.out) | exact HB.out)⟩⟩
                   ·rw [if_neg c94] at H
                    exact absurd H (by simp)
                  ·rw [if_neg c93] at H
                   exact absurd H (by simp)
                 ·rw [if_neg c92] at H
                  exact absurd H (by simp)
                ·rw [if_neg c91] at H
                 have c91b0 : decide (x18_5 < (l1.length : Int)) = false := decide_eq_false c91
                 clear c91
                 have H' := Aside0.mk H
                 clear H
                 go_wp2
                 repeat (go_quiet (fail); try go_wp2)
                 go_roundg k5
                 case measure => have := HJ3.out; have := HK2.out; have := HK3.out; have := HJ81.out; have := HK5.out; omega
                 case rel => exact ⟨(wrap64 (x17_3 + 1)), (by first | rfl | (simp; done) | (simp [*]; done)), H', ⟨by have := HJ3.out; have := HK2.out; have := HK3.out; have := HJ81.out; have := HK5.out; omega⟩, ⟨by (with_reducible repeat (first | apply Kd.R_alloc | apply Kd.R_drewN | apply Kd.R_drew)); exact HO_239000.out⟩, ⟨by (with_reducible repeat (first | apply Kd.R_alloc | apply Kd.R_drewN | apply Kd.R_drew)); exact HO_246000.out⟩, ⟨by (with_reducible repeat (first | refine blk_drewN ?_ _ | refine blk_drew ?_ | refine blk_alloc ?_ _)); exact BK231.out⟩, ⟨by (with_reducible repeat (first | refine blk_drewN ?_ _ | refine blk_drew ?_ | refine blk_alloc ?_ _)); exact BK238.out⟩, ⟨by (with_reducible repeat (first | refine blk_drewN ?_ _ | refine blk_drew ?_ | refine blk_alloc ?_ _)); exact BK245.out⟩, ⟨by repeat (first | (with_reducible first | exact HB.out | apply below_alloc | apply pw_below_drewN | apply below_drew1 | refine below_set ?_ GE231.out | refine below_set ?_ GE238.out | refine below_set ?_ GE245.out) | exact HB.out)⟩⟩
             ·replace c90 := Bool.eq_false_iff.mpr c90
              subst c90
              have H1 : (if t232 = true then (if x10_2 = true then (if x13_2 = (t239.length : Int) then (some ((t239.length : Int) == (wrap64 ((l0_0.length : Int) - 1)))) else (none)) else (none)) else (none)) = some r := by rw [if_neg (show ¬ (false = true) by decide)] at H; exact H
              clear H
              have H := H1
              clear H1
              by_cases c104 : t232 = true
              ·subst c104
               have H1 : (if x10_2 = true then (if x13_2 = (t239.length : Int) then (some ((t239.length : Int) == (wrap64 ((l0_0.length : Int) - 1)))) else (none)) else (none)) = some r := by rw [if_pos rfl] at H; exact H
               clear H
               have H := H1
               clear H1
               by_cases c105 : x10_2 = true
               ·subst c105
                have H1 : (if x13_2 = (t239.length : Int) then (some ((t239.length : Int) == (wrap64 ((l0_0.length : Int) - 1)))) else (none)) = some r := by rw [if_pos rfl] at H; exact H
                clear H
                have H := H1
                clear H1
                by_cases c106 : x13_2 = (t239.length : Int)
                ·rw [if_pos c106] at H
                 have c106b0 : (x13_2 == (t239.length : Int)) = true := beq_iff_eq.mpr c106
                 have c106b1 : (x13_2 != (t239.length : Int)) = false := bne_eq_false_iff_eq.mpr c106
                 clear c106
                 obtain rfl := Option.some.inj H
                 have hnb107 := NB245_231.out
                 have hnc107 := NB231_245.out
                 have hnb108 := NB245_238.out
                 have hnc108 := NB238_245.out
                 have hcz109_0 : wc.cell? ⟨gb245, 0, none⟩ = some (.slice Ao25 t239.length co25) := (blk_cell BK245.out 0).trans rfl
                 have hcz109_1 : wc.cell? ⟨gb245, 1, none⟩ = some (.int .i64 t242) := (blk_cell BK245.out 1).trans rfl
                 have hfz109_0 := blk_frozen BK245.out 0
                 have hfz109_1 := blk_frozen BK245.out 1
                 have hnb110 := NB231_238.out
                 have hnc110 := NB238_231.out
                 have hcz111_0 : wc.cell? ⟨gb231, 0, none⟩ = some (.slice A0_0 l0_0.length c0_0) := (blk_cell BK231.out 0).trans rfl
                 have hcz111_1 : wc.cell? ⟨gb231, 1, none⟩ = some (.int .i64 a0_1) := (blk_cell BK231.out 1).trans rfl
                 have hfz111_0 := blk_frozen BK231.out 0
                 have hfz111_1 := blk_frozen BK231.out 1
                 go_wp2
                 repeat (go_quiet (fail); try go_wp2)
                 go_ret
                 exact ⟨by first | rfl | (simp [errW_none, errW_some] <;> rfl) | (simp [*, errW_none, errW_some] <;> rfl), by repeat (first | (with_reducible first | exact HB.out | apply below_alloc | apply pw_below_drewN | apply below_drew1 | refine below_set ?_ GE231.out | refine below_set ?_ GE238.out | refine below_set ?_ GE245.out) | exact HB.out)⟩
                ·rw [if_neg c106] at H
                 exact absurd H (by simp)
               ·replace c105 := Bool.eq_false_iff.mpr c105
                subst c105
                have H1 : (none) = some r := by rw [if_neg (show ¬ (false = true) by decide)] at H; exact H
                clear H
                have H := H1
                clear H1
                exact absurd H (by simp)
              ·replace c104 := Bool.eq_false_iff.mpr c104
               subst c104
               have H1 : (none) = some r := by rw [if_neg (show ¬ (false = true) by decide)] at H; exact H
               clear H
               have H := H1
               clear H1
               exact absurd H (by simp)
       ·rw [if_neg c78] at H
        have c78b0 : (t244 == 0) = false := beq_eq_false_iff_ne.mpr c78
        have c78b1 : (t244 != 0) = true := bne_iff_ne.mpr c78
        by_cases c112 : t232 = true
        ·subst c112
         have H1 : (if t244 = 6 then (some (!x10_2)) else (none)) = some r := by rw [if_pos rfl] at H; exact H
         clear H
         have H := H1
         clear H1
         by_cases c113 : t244 = 6
         ·rw [if_pos c113] at H
          have c113b0 : (t244 == 6) = true := beq_iff_eq.mpr c113
          have c113b1 : (t244 != 6) = false := bne_eq_false_iff_eq.mpr c113
          clear c113
          obtain rfl := Option.some.inj H
          have hnb114 := NB231_238.out
          have hnc114 := NB238_231.out
          have hnb115 := NB231_245.out
          have hnc115 := NB245_231.out
          have hcz116_0 : wr.cell? ⟨gb231, 0, none⟩ = some (.slice A0_0 l0_0.length c0_0) := (blk_cell BK231.out 0).trans rfl
          have hcz116_1 : wr.cell? ⟨gb231, 1, none⟩ = some (.int .i64 a0_1) := (blk_cell BK231.out 1).trans rfl
          have hfz116_0 := blk_frozen BK231.out 0
          have hfz116_1 := blk_frozen BK231.out 1
          go_wp2
          repeat (go_quiet (fail); try go_wp2)
          go_ret
          exact ⟨by first | rfl | (simp [errW_none, errW_some] <;> rfl) | (simp [*, errW_none, errW_some] <;> rfl), by repeat (first | (with_reducible first | exact HB.out | apply below_alloc | apply pw_below_drewN | apply below_drew1 | refine below_set ?_ GE231.out | refine below_set ?_ GE238.out | refine below_set ?_ GE245.out) | exact HB.out)⟩
         ·rw [if_neg c113] at H
          exact absurd H (by simp)
        ·replace c112 := Bool.eq_false_iff.mpr c112
         subst c112
         have H1 : (none) = some r := by rw [if_neg (show ¬ (false = true) by decide)] at H; exact H
         clear H
         have H := H1
         clear H1
         exact absurd H (by simp)

end Go.Proofs.Ytjbdlgjhnldfbaa.Q
