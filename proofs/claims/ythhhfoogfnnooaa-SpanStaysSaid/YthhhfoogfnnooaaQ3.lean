-- Written by hprint.py (the kit's printer, with functions that are given). Lean checks it.
import Derived.Test.YthhhfoogfnnooaaQ0
import Derived.Test.YthhhfoogfnnooaaQ2
namespace Go.Proofs.Ythhhfoogfnnooaa.Q
open Go.RowKit Go.Proofs.YthhhfoogfnnooaaW.PrintWords Go.Proofs.YthhhfoogfnnooaaW.PrintLast Go.Proofs.YthhhfoogfnnooaaW.PrintMore
attribute [local go_sem] max2_int min2_int max_two min_two max_three min_three max_four min_four   -- for this text's walks alone
set_option linter.unusedVariables false
set_option linter.unusedSimpArgs false

/-! ### heronrylaw12_SpanStays: function 3 -/
mutual
def heronrylaw12_SpanStays.j0 : Nat → Int → List Int → List Bool → Int → Bool → Bool → Int → Int → Option (Bool)
  | 0, _, _, _, _, _, _, _, _ => none
  | k + 1, x1, x2, x3, x4, x11, x32, x120000, x120001 => if x32 = true then (some x11) else (if (x2.length : Int) = 0 then (none) else (heronrylaw12_SpanStays.l0 k x1 x2 x3 x11 (Int.tmod (Go.bits .and .i64 x4 65535) (x2.length : Int)) x1 0 x120000 x120001))
def heronrylaw12_SpanStays.l0 : Nat → Int → List Int → List Bool → Bool → Int → Int → Int → Int → Int → Option (Bool)
  | 0, _, _, _, _, _, _, _, _, _ => none
  | k + 1, x1, x2, x3, x11, x12, x13, x14, x120000, x120001 => if x14 < (x2.length : Int) then (if (x2.length : Int) = 0 then (none) else (if (Int.tmod (wrap64 (x14 + x12)) (x2.length : Int)) < (x3.length : Int) then (if 0 ≤ (Int.tmod (wrap64 (x14 + x12)) (x2.length : Int)) then (heronrylaw12_SpanStays.j2 k x1 x2 x3 x11 x12 x13 x14 (Int.tmod (wrap64 (x14 + x12)) (x2.length : Int)) (rdOf false x3 (Int.tmod (wrap64 (x14 + x12)) (x2.length : Int))) x120000 x120001) else (none)) else (heronrylaw12_SpanStays.j2 k x1 x2 x3 x11 x12 x13 x14 (Int.tmod (wrap64 (x14 + x12)) (x2.length : Int)) false x120000 x120001))) else (if x11 = true then ((heronrylaw12_ours.f x120000 x120001).bind fun bt124 => ((span_Holds.f bt124.1 bt124.2 x1).bind fun t126 => (some t126))) else (some false))
def heronrylaw12_SpanStays.j2 : Nat → Int → List Int → List Bool → Bool → Int → Int → Int → Int → Bool → Int → Int → Option (Bool)
  | 0, _, _, _, _, _, _, _, _, _, _, _ => none
  | k + 1, x1, x2, x3, x11, x12, x13, x14, x15, x61, x120000, x120001 => if x61 = true then (if 0 ≤ x15 then (if x15 < (x2.length : Int) then (heronrylaw12_SpanStays.j3 k x1 x2 x3 x11 x12 (wrap64 (x13 + (rd x2 x15))) x14 x120000 x120001) else (none)) else (none)) else (heronrylaw12_SpanStays.j3 k x1 x2 x3 x11 x12 x13 x14 x120000 x120001)
def heronrylaw12_SpanStays.j3 : Nat → Int → List Int → List Bool → Bool → Int → Int → Int → Int → Int → Option (Bool)
  | 0, _, _, _, _, _, _, _, _, _ => none
  | k + 1, x1, x2, x3, x11, x12, x13, x14, x120000, x120001 => (heronrylaw12_ours.f x120000 x120001).bind fun bt129 => ((span_Holds.f bt129.1 bt129.2 x13).bind fun t131 => (if t131 = true then (heronrylaw12_SpanStays.l0 k x1 x2 x3 x11 x12 x13 (wrap64 (x14 + 1)) x120000 x120001) else (some false)))
end
def heronrylaw12_SpanStays.f (k : Nat) (a0_0 : Int) (a0_1 : Int) (a1 : Int) (l2 : List Int) (l3 : List Bool) (a4 : Int) : Option (Bool) := (heronrylaw12_awake.f).bind fun t120 => (if (l2.length : Int) > 100 then (heronrylaw12_SpanStays.j0 k a1 l2 l3 a4 t120 true a0_0 a0_1) else (if (l2.length : Int) = 0 then (heronrylaw12_SpanStays.j0 k a1 l2 l3 a4 t120 true a0_0 a0_1) else ((heronrylaw12_ours.f a0_0 a0_1).bind fun bt121 => ((span_Fits.f bt121.1 bt121.2 a1 l2).bind fun t123 => (heronrylaw12_SpanStays.j0 k a1 l2 l3 a4 t120 (!t123) a0_0 a0_1)))))
theorem heronrylaw12_SpanStays.mono_l : ∀ k, (∀ y0 y1 y2 y3 y4 y5 y6 y7, LeO (heronrylaw12_SpanStays.j0 k y0 y1 y2 y3 y4 y5 y6 y7) (heronrylaw12_SpanStays.j0 (k + 1) y0 y1 y2 y3 y4 y5 y6 y7)) ∧ (∀ y0 y1 y2 y3 y4 y5 y6 y7 y8, LeO (heronrylaw12_SpanStays.l0 k y0 y1 y2 y3 y4 y5 y6 y7 y8) (heronrylaw12_SpanStays.l0 (k + 1) y0 y1 y2 y3 y4 y5 y6 y7 y8)) ∧ (∀ y0 y1 y2 y3 y4 y5 y6 y7 y8 y9 y10, LeO (heronrylaw12_SpanStays.j2 k y0 y1 y2 y3 y4 y5 y6 y7 y8 y9 y10) (heronrylaw12_SpanStays.j2 (k + 1) y0 y1 y2 y3 y4 y5 y6 y7 y8 y9 y10)) ∧ (∀ y0 y1 y2 y3 y4 y5 y6 y7 y8, LeO (heronrylaw12_SpanStays.j3 k y0 y1 y2 y3 y4 y5 y6 y7 y8) (heronrylaw12_SpanStays.j3 (k + 1) y0 y1 y2 y3 y4 y5 y6 y7 y8))
  | 0 => ⟨fun _ _ _ _ _ _ _ _ r h => by simp [heronrylaw12_SpanStays.j0] at h, fun _ _ _ _ _ _ _ _ _ r h => by simp [heronrylaw12_SpanStays.l0] at h, fun _ _ _ _ _ _ _ _ _ _ _ r h => by simp [heronrylaw12_SpanStays.j2] at h, fun _ _ _ _ _ _ _ _ _ r h => by simp [heronrylaw12_SpanStays.j3] at h⟩
  | k + 1 => by
    obtain ⟨ih0, ih1, ih2, ih3⟩ := heronrylaw12_SpanStays.mono_l k
    refine ⟨?_, ?_, ?_, ?_⟩
    · intro y0 y1 y2 y3 y4 y5 y6 y7
      unfold heronrylaw12_SpanStays.j0
      repeat' first
      | (with_reducible exact ih0 _ _ _ _ _ _ _ _)
      | (with_reducible exact ih1 _ _ _ _ _ _ _ _ _)
      | (with_reducible exact ih2 _ _ _ _ _ _ _ _ _ _ _)
      | (with_reducible exact ih3 _ _ _ _ _ _ _ _ _)
      | (with_reducible exact LeO.refl _)
      | (with_reducible exact LeO.none _)
      | (with_reducible refine LeO.ite ?_ ?_)
      | (with_reducible refine LeO.bind ?_ (fun _ => ?_))
      | exact ih0 _ _ _ _ _ _ _ _
      | exact ih1 _ _ _ _ _ _ _ _ _
      | exact ih2 _ _ _ _ _ _ _ _ _ _ _
      | exact ih3 _ _ _ _ _ _ _ _ _
      | exact LeO.none _
      | refine LeO.ite ?_ ?_
      | refine LeO.bind ?_ (fun _ => ?_)
    · intro y0 y1 y2 y3 y4 y5 y6 y7 y8
      unfold heronrylaw12_SpanStays.l0
      repeat' first
      | (with_reducible exact ih0 _ _ _ _ _ _ _ _)
      | (with_reducible exact ih1 _ _ _ _ _ _ _ _ _)
      | (with_reducible exact ih2 _ _ _ _ _ _ _ _ _ _ _)
      | (with_reducible exact ih3 _ _ _ _ _ _ _ _ _)
      | (with_reducible exact LeO.refl _)
      | (with_reducible exact LeO.none _)
      | (with_reducible refine LeO.ite ?_ ?_)
      | (with_reducible refine LeO.bind ?_ (fun _ => ?_))
      | exact ih0 _ _ _ _ _ _ _ _
      | exact ih1 _ _ _ _ _ _ _ _ _
      | exact ih2 _ _ _ _ _ _ _ _ _ _ _
      | exact ih3 _ _ _ _ _ _ _ _ _
      | exact LeO.none _
      | refine LeO.ite ?_ ?_
      | refine LeO.bind ?_ (fun _ => ?_)
    · intro y0 y1 y2 y3 y4 y5 y6 y7 y8 y9 y10
      unfold heronrylaw12_SpanStays.j2
      repeat' first
      | (with_reducible exact ih0 _ _ _ _ _ _ _ _)
      | (with_reducible exact ih1 _ _ _ _ _ _ _ _ _)
      | (with_reducible exact ih2 _ _ _ _ _ _ _ _ _ _ _)
      | (with_reducible exact ih3 _ _ _ _ _ _ _ _ _)
      | (with_reducible exact LeO.refl _)
      | (with_reducible exact LeO.none _)
      | (with_reducible refine LeO.ite ?_ ?_)
      | (with_reducible refine LeO.bind ?_ (fun _ => ?_))
      | exact ih0 _ _ _ _ _ _ _ _
      | exact ih1 _ _ _ _ _ _ _ _ _
      | exact ih2 _ _ _ _ _ _ _ _ _ _ _
      | exact ih3 _ _ _ _ _ _ _ _ _
      | exact LeO.none _
      | refine LeO.ite ?_ ?_
      | refine LeO.bind ?_ (fun _ => ?_)
    · intro y0 y1 y2 y3 y4 y5 y6 y7 y8
      unfold heronrylaw12_SpanStays.j3
      repeat' first
      | (with_reducible exact ih0 _ _ _ _ _ _ _ _)
      | (with_reducible exact ih1 _ _ _ _ _ _ _ _ _)
      | (with_reducible exact ih2 _ _ _ _ _ _ _ _ _ _ _)
      | (with_reducible exact ih3 _ _ _ _ _ _ _ _ _)
      | (with_reducible exact LeO.refl _)
      | (with_reducible exact LeO.none _)
      | (with_reducible refine LeO.ite ?_ ?_)
      | (with_reducible refine LeO.bind ?_ (fun _ => ?_))
      | exact ih0 _ _ _ _ _ _ _ _
      | exact ih1 _ _ _ _ _ _ _ _ _
      | exact ih2 _ _ _ _ _ _ _ _ _ _ _
      | exact ih3 _ _ _ _ _ _ _ _ _
      | exact LeO.none _
      | refine LeO.ite ?_ ?_
      | refine LeO.bind ?_ (fun _ => ?_)
theorem heronrylaw12_SpanStays.mono : ∀ a0 a1 a2 a3 a4 a5 k, LeO (heronrylaw12_SpanStays.f k a0 a1 a2 a3 a4 a5) (heronrylaw12_SpanStays.f (k + 1) a0 a1 a2 a3 a4 a5) := by
  intro a0 a1 a2 a3 a4 a5 k
  obtain ⟨ih0, ih1, ih2, ih3⟩ := heronrylaw12_SpanStays.mono_l k
  unfold heronrylaw12_SpanStays.f
  repeat' first
      | (with_reducible exact ih0 _ _ _ _ _ _ _ _)
      | (with_reducible exact ih1 _ _ _ _ _ _ _ _ _)
      | (with_reducible exact ih2 _ _ _ _ _ _ _ _ _ _ _)
      | (with_reducible exact ih3 _ _ _ _ _ _ _ _ _)
      | (with_reducible exact LeO.refl _)
      | (with_reducible exact LeO.none _)
      | (with_reducible refine LeO.ite ?_ ?_)
      | (with_reducible refine LeO.bind ?_ (fun _ => ?_))
      | exact ih0 _ _ _ _ _ _ _ _
      | exact ih1 _ _ _ _ _ _ _ _ _
      | exact ih2 _ _ _ _ _ _ _ _ _ _ _
      | exact ih3 _ _ _ _ _ _ _ _ _
      | exact LeO.none _
      | refine LeO.ite ?_ ?_
      | refine LeO.bind ?_ (fun _ => ?_)
set_option maxHeartbeats 8000000 in
set_option maxRecDepth 100000 in
theorem heronrylaw12_SpanStays.calls (k : Nat) (a0_0 : Int) (a0_1 : Int) (a1 : Int) (A2 : Option Addr) (c2 : Nat) (l2 : List Int) (A3 : Option Addr) (c3 : Nat) (l3 : List Bool) (a4 : Int) (r : Bool) (w : World) (hr2 : Kd.C (Kd.int .i64) w A2 l2.length l2) (hc2 : l2.length ≤ c2) (hr3 : Kd.C Kd.bool w A3 l3.length l3) (hc3 : l3.length ≤ c3) (h : heronrylaw12_SpanStays.f k a0_0 a0_1 a1 l2 l3 a4 = some r) :
    Calls Try.prog 3 #[.agg #[.int .i64 a0_0, .int .i64 a0_1], .int .i64 a1, .slice A2 l2.length c2, .slice A3 l3.length c3, .int .i64 a4] w fun e w' => e = .returned (.bool r) ∧ Below w.heap.size w w' := by
  have hu23 := Try.underlying23
  have HR2 := Aside0.mk hr2
  have HC2 := Aside0.mk hc2
  clear hr2 hc2
  have HR3 := Aside0.mk hr3
  have HC3 := Aside0.mk hc3
  clear hr3 hc3
  have HB := Aside0.mk (Below.refl w.heap.size w)
  have H : ((heronrylaw12_awake.f).bind fun t120 => (if (l2.length : Int) > 100 then (heronrylaw12_SpanStays.j0 k a1 l2 l3 a4 t120 true a0_0 a0_1) else (if (l2.length : Int) = 0 then (heronrylaw12_SpanStays.j0 k a1 l2 l3 a4 t120 true a0_0 a0_1) else ((heronrylaw12_ours.f a0_0 a0_1).bind fun bt121 => ((span_Fits.f bt121.1 bt121.2 a1 l2).bind fun t123 => (heronrylaw12_SpanStays.j0 k a1 l2 l3 a4 t120 (!t123) a0_0 a0_1)))))) = some r := h
  clear h
  replace H := Option.bind_eq_some_iff.mp H
  obtain ⟨t120, A60, H⟩ := H
  replace H : (if (l2.length : Int) > 100 then (heronrylaw12_SpanStays.j0 k a1 l2 l3 a4 t120 true a0_0 a0_1) else (if (l2.length : Int) = 0 then (heronrylaw12_SpanStays.j0 k a1 l2 l3 a4 t120 true a0_0 a0_1) else ((heronrylaw12_ours.f a0_0 a0_1).bind fun bt121 => ((span_Fits.f bt121.1 bt121.2 a1 l2).bind fun t123 => (heronrylaw12_SpanStays.j0 k a1 l2 l3 a4 t120 (!t123) a0_0 a0_1))))) = some r := H
  have A6 := Aside0.mk A60
  clear A60
  have HC7 := Aside0.mk H
  clear H
  go_enter Try.func3, Try.ntmps3
  go_upto_region 2 with (first | ((with_reducible refine gate_dst (N := 5) rfl ?_); (try (refine gate_guard (by rfl) ?_; dsimp only)); refine box_event ?hg (N := 5) ?hd (cs := #[.int .i64 a0_0, .int .i64 a0_1]) (t := 23) ?hr ?_; (case hd => rfl); (case hg => rfl); (case hr => first | (go_simp; done) | (go_simp; rfl)); intro gb119 hg w8 hbox hb; have n0_ := Aside0.mk (below_step (by repeat (first | (with_reducible first | exact HB.out | apply below_alloc | apply pw_below_drewN | apply below_drew1) | exact HB.out)) hb); have n1_ := Aside0.mk (hbox); have n2_ := Aside0.mk ((by rw [hg]; exact (below_size (by repeat (first | (with_reducible first | exact HB.out | apply below_alloc | apply pw_below_drewN | apply below_drew1) | exact HB.out))) : w.heap.size ≤ gb119)); have n3_ := Aside0.mk ((by rw [hg]; exact (below_size (by repeat (first | (with_reducible first | exact HB.out | apply below_alloc | apply pw_below_drewN | apply below_drew1) | exact HB.out))) : w.heap.size ≤ gb119)); clear HB; have HB := n0_; have BK119 := n1_; have GW119 := n2_; have GE119 := n3_; clear n0_ n1_ n2_ n3_; clear hb hbox hg) | ((with_reducible refine gate_callee (f := 10) rfl ?_); refine goesL_ (some 16) rfl rfl Try.func10 (by kernel_rfl) rfl #[] rfl (by (try simp only [List.map_toArray, List.map_cons, List.map_nil]); first | done | rfl | (simp only [List.length_drop, List.length_take]; rfl)) ?_; (with_reducible refine (heronrylaw12_awake.calls  t120 _ A6.out).mono ?_); rintro e w9 ⟨rfl, hb⟩; refine ⟨_, rfl, ?_⟩; have n0_ := Aside0.mk (blk_below (g := gb119) (o := .cells #[.int .i64 a0_0, .int .i64 a0_1] 23 (0, 0)) (by (with_reducible repeat (first | refine blk_drewN ?_ _ | refine blk_drew ?_ | refine blk_alloc ?_ _)); exact BK119.out) hb); have n1_ := Aside0.mk (below_step (by repeat (first | (with_reducible first | exact HB.out | apply below_alloc | apply pw_below_drewN | apply below_drew1 | refine below_set ?_ GE119.out) | exact HB.out)) hb); clear BK119; clear HB; have BK119 := n0_; have HB := n1_; clear n0_ n1_; (try clear hb); (try clear hb2); (try clear hk); (try clear hi)))
  (try simp only [Act.put, List.setIfInBounds_toArray, List.set_cons_zero, List.set_cons_succ])
  go_cut [32] (fun v32 wc => ∃ (kq : Nat) (x32_6 : Bool), v32 = .bool x32_6 ∧ Aside0 (heronrylaw12_SpanStays.j0 kq a1 l2 l3 a4 t120 x32_6 a0_0 a0_1 = some r) ∧ Aside0 (kq ≤ k) ∧ Aside0 (wc.heap[gb119]? = some (.cells #[.int .i64 a0_0, .int .i64 a0_1] 23 (0, 0))) ∧ Aside0 (Below w.heap.size w wc))
  case first =>
    have H := HC7.out
    clear HC7
    by_cases c10 : (l2.length : Int) > 100
    · rw [if_pos c10] at H
      have c10b0 : decide (100 < (l2.length : Int)) = true := decide_eq_true c10
      have c10b1 : decide (100 < l2.length) = true := decide_eq_true (by omega)
      clear c10
      (first | rw [c10b0] | (simp only [i64_w, i32_w]; rw [c10b0]) | skip)
      have H' := Aside0.mk H
      clear H
      go_wp2
      go_meet
      case rel => exact ⟨_, (true), (by first | rfl | (simp; done) | (simp [*]; done)), H', ⟨by first | omega | exact Nat.le_refl _⟩, ⟨by (with_reducible repeat (first | refine blk_drewN ?_ _ | refine blk_drew ?_ | refine blk_alloc ?_ _)); exact BK119.out⟩, ⟨by repeat (first | (with_reducible first | exact HB.out | apply below_alloc | apply pw_below_drewN | apply below_drew1 | refine below_set ?_ GE119.out) | exact HB.out)⟩⟩
    · rw [if_neg c10] at H
      have c10b0 : decide (100 < (l2.length : Int)) = false := decide_eq_false c10
      have c10b1 : decide (100 < l2.length) = false := decide_eq_false (by omega)
      clear c10
      (first | rw [c10b0] | (simp only [i64_w, i32_w]; rw [c10b0]) | skip)
      by_cases c11 : (l2.length : Int) = 0
      · rw [if_pos c11] at H
        have c11b0 : ((l2.length : Int) == 0) = true := beq_iff_eq.mpr c11
        have c11b1 : ((l2.length : Int) != 0) = false := bne_eq_false_iff_eq.mpr c11
        clear c11
        have H' := Aside0.mk H
        clear H
        go_wp2
        go_meet
        case rel => exact ⟨_, (true), (by first | rfl | (simp; done) | (simp [*]; done)), H', ⟨by first | omega | exact Nat.le_refl _⟩, ⟨by (with_reducible repeat (first | refine blk_drewN ?_ _ | refine blk_drew ?_ | refine blk_alloc ?_ _)); exact BK119.out⟩, ⟨by repeat (first | (with_reducible first | exact HB.out | apply below_alloc | apply pw_below_drewN | apply below_drew1 | refine below_set ?_ GE119.out) | exact HB.out)⟩⟩
      · rw [if_neg c11] at H
        have c11b0 : ((l2.length : Int) == 0) = false := beq_eq_false_iff_ne.mpr c11
        have c11b1 : ((l2.length : Int) != 0) = true := bne_iff_ne.mpr c11
        have c11b2 : ¬ (l2 = []) := fun h_ => c11 (by rw [h_]; rfl)
        replace H := Option.bind_eq_some_iff.mp H
        obtain ⟨⟨t121, t122⟩, A120, H⟩ := H
        replace H : ((span_Fits.f t121 t122 a1 l2).bind fun t123 => (heronrylaw12_SpanStays.j0 k a1 l2 l3 a4 t120 (!t123) a0_0 a0_1)) = some r := H
        have A12 := Aside0.mk A120
        clear A120
        replace H := Option.bind_eq_some_iff.mp H
        obtain ⟨t123, A130, H⟩ := H
        replace H : (heronrylaw12_SpanStays.j0 k a1 l2 l3 a4 t120 (!t123) a0_0 a0_1) = some r := H
        have A13 := Aside0.mk A130
        clear A130
        have H' := Aside0.mk H
        clear H
        have hcz14_0 : w9.cell? ⟨gb119, 0, none⟩ = some (.int .i64 a0_0) := (blk_cell BK119.out 0).trans rfl
        have hcz14_1 : w9.cell? ⟨gb119, 1, none⟩ = some (.int .i64 a0_1) := (blk_cell BK119.out 1).trans rfl
        have hfz14_0 := blk_frozen BK119.out 0
        have hfz14_1 := blk_frozen BK119.out 1
        go_wp2_with (first | (go_at_call 12; (with_reducible refine (heronrylaw12_ours.calls a0_0 a0_1 t121 t122 _ A12.out).mono ?_); rintro e w15 ⟨rfl, hb⟩; have n0_ := Aside0.mk (blk_below (g := gb119) (o := .cells #[.int .i64 a0_0, .int .i64 a0_1] 23 (0, 0)) (by (with_reducible repeat (first | refine blk_drewN ?_ _ | refine blk_drew ?_ | refine blk_alloc ?_ _)); exact BK119.out) hb); have n1_ := Aside0.mk (below_step (by repeat (first | (with_reducible first | exact HB.out | apply below_alloc | apply pw_below_drewN | apply below_drew1 | refine below_set ?_ GE119.out) | exact HB.out)) hb); clear BK119; clear HB; have BK119 := n0_; have HB := n1_; clear n0_ n1_; (try clear hb); (try clear hb2); (try clear hk); (try clear hi)) | (go_at_call 11; (with_reducible refine (span_Fits.calls t121 t122 a1 _ _ l2 t123 _ ?side1 ?side2 A13.out).mono ?_); (case side1 => repeat (first | exact (Kd.C_below HR2.out HB.out) | (with_reducible refine Kd.C_alloc ?_ _) | (with_reducible refine Kd.C_drewN ?_ _) | (with_reducible refine Kd.C_drew ?_))); (case side2 => exact HC2.out); rintro e w16 ⟨rfl, hb⟩; have n0_ := Aside0.mk (blk_below (g := gb119) (o := .cells #[.int .i64 a0_0, .int .i64 a0_1] 23 (0, 0)) (by (with_reducible repeat (first | refine blk_drewN ?_ _ | refine blk_drew ?_ | refine blk_alloc ?_ _)); exact BK119.out) hb); have n1_ := Aside0.mk (below_step (by repeat (first | (with_reducible first | exact HB.out | apply below_alloc | apply pw_below_drewN | apply below_drew1 | refine below_set ?_ GE119.out) | exact HB.out)) hb); clear BK119; clear HB; have BK119 := n0_; have HB := n1_; clear n0_ n1_; (try clear hb); (try clear hb2); (try clear hk); (try clear hi)))
        go_meet
        case rel => exact ⟨_, (!t123), (by first | rfl | (simp; done) | (simp [*]; done)), H', ⟨by first | omega | exact Nat.le_refl _⟩, ⟨by (with_reducible repeat (first | refine blk_drewN ?_ _ | refine blk_drew ?_ | refine blk_alloc ?_ _)); exact BK119.out⟩, ⟨by repeat (first | (with_reducible first | exact HB.out | apply below_alloc | apply pw_below_drewN | apply below_drew1 | refine below_set ?_ GE119.out) | exact HB.out)⟩⟩
  case rest =>
    clear HC7
    try clear c1
    try clear c2
    try clear p2
    try clear c3
    try clear c10
    try clear c10b0
    try clear c10b1
    try clear c11
    try clear c11b0
    try clear c11b1
    try clear c11b2
    try clear hcz14_0
    try clear hcz14_1
    try clear hfz14_0
    try clear hfz14_1
    obtain ⟨kq, x32_6, rfl, HA, HJ6, BK119, HB⟩ := hcut
    cases kq with
    | zero => exact absurd HA.out (by simp [heronrylaw12_SpanStays.j0])
    | succ kj6 =>
      have H := HA.out
      clear HA
      simp only [heronrylaw12_SpanStays.j0] at H
      by_cases c17 : x32_6 = true
      · subst c17
        have H1 : (some t120) = some r := by rw [if_pos rfl] at H; exact H
        clear H
        have H := H1
        clear H1
        obtain rfl := Option.some.inj H
        go_wp2
        go_ret
        exact ⟨by first | rfl | (simp [errW_none, errW_some] <;> rfl) | (simp [*, errW_none, errW_some] <;> rfl), by repeat (first | (with_reducible first | exact HB.out | apply below_alloc | apply pw_below_drewN | apply below_drew1 | refine below_set ?_ GE119.out) | exact HB.out)⟩
      · replace c17 := Bool.eq_false_iff.mpr c17
        subst c17
        have H1 : (if (l2.length : Int) = 0 then (none) else (heronrylaw12_SpanStays.l0 kj6 a1 l2 l3 t120 (Int.tmod (Go.bits .and .i64 a4 65535) (l2.length : Int)) a1 0 a0_0 a0_1)) = some r := by rw [if_neg (show ¬ (false = true) by decide)] at H; exact H
        clear H
        have H := H1
        clear H1
        by_cases c18 : (l2.length : Int) = 0
        · rw [if_pos c18] at H
          exact absurd H (by simp)
        · rw [if_neg c18] at H
          have c18b0 : ((l2.length : Int) == 0) = false := beq_eq_false_iff_ne.mpr c18
          have c18b1 : ((l2.length : Int) != 0) = true := bne_iff_ne.mpr c18
          have c18b2 : ¬ (l2 = []) := fun h_ => c18 (by rw [h_]; rfl)
          have H' := Aside0.mk H
          clear H
          go_wp2
          go_loopg [13, 14] kj6 (fun kq v13 v14 w' => ∃ (x13_2 : Int) (x14_2 : Int), v13 = .int .i64 x13_2 ∧ v14 = .int .i64 x14_2 ∧ Aside0 (heronrylaw12_SpanStays.l0 kq a1 l2 l3 t120 (Int.tmod (Go.bits .and .i64 a4 65535) (l2.length : Int)) x13_2 x14_2 a0_0 a0_1 = some r) ∧ Aside0 (kq ≤ kj6) ∧ Aside0 (w'.heap[gb119]? = some (.cells #[.int .i64 a0_0, .int .i64 a0_1] 23 (0, 0))) ∧ Aside0 (Below w.heap.size w w'))
          case atStart => exact ⟨(a1), (0), (by first | rfl | (simp; done) | (simp [*]; done)), (by first | rfl | (simp; done) | (simp [*]; done)), H', ⟨Nat.le_refl _⟩, ⟨by (with_reducible repeat (first | refine blk_drewN ?_ _ | refine blk_drew ?_ | refine blk_alloc ?_ _)); exact BK119.out⟩, ⟨by repeat (first | (with_reducible first | exact HB.out | apply below_alloc | apply pw_below_drewN | apply below_drew1 | refine below_set ?_ GE119.out) | exact HB.out)⟩⟩
          case round =>
            clear H'
            try clear c1
            try clear c2
            try clear p2
            try clear c3
            try clear c10
            try clear c10b0
            try clear c10b1
            try clear c11
            try clear c11b0
            try clear c11b1
            try clear c11b2
            try clear c17
            try clear c18
            try clear c18b0
            try clear c18b1
            try clear c18b2
            try clear hcz14_0
            try clear hcz14_1
            try clear hfz14_0
            try clear hfz14_1
            try clear p2
            obtain ⟨x13_2, x14_2, rfl, rfl, HA, HK2, BK119, HB⟩ := hrel
            cases gk with
            | zero => exact absurd HA.out (by simp [heronrylaw12_SpanStays.l0])
            | succ k2 =>
              have H := HA.out
              clear HA
              simp only [heronrylaw12_SpanStays.l0] at H
              by_cases c19 : x14_2 < (l2.length : Int)
              · rw [if_pos c19] at H
                have c19b0 : decide (x14_2 < (l2.length : Int)) = true := decide_eq_true c19
                clear c19
                by_cases c20 : (l2.length : Int) = 0
                · rw [if_pos c20] at H
                  exact absurd H (by simp)
                · rw [if_neg c20] at H
                  have c20b0 : ((l2.length : Int) == 0) = false := beq_eq_false_iff_ne.mpr c20
                  have c20b1 : ((l2.length : Int) != 0) = true := bne_iff_ne.mpr c20
                  have c20b2 : ¬ (l2 = []) := fun h_ => c20 (by rw [h_]; rfl)
                  have HC21 := Aside0.mk H
                  clear H
                  go_upto_region 10 with (fail)
                  go_cut [61] (fun v61 wc => ∃ (kq : Nat) (x61_20 : Bool), v61 = .bool x61_20 ∧ Aside0 (heronrylaw12_SpanStays.j2 kq a1 l2 l3 t120 (Int.tmod (Go.bits .and .i64 a4 65535) (l2.length : Int)) x13_2 x14_2 (Int.tmod (wrap64 (x14_2 + (Int.tmod (Go.bits .and .i64 a4 65535) (l2.length : Int)))) (l2.length : Int)) x61_20 a0_0 a0_1 = some r) ∧ Aside0 (kq ≤ k2) ∧ Aside0 (wc.heap[gb119]? = some (.cells #[.int .i64 a0_0, .int .i64 a0_1] 23 (0, 0))) ∧ Aside0 (Below w.heap.size w wc))
                  case first =>
                    have H := HC21.out
                    clear HC21
                    by_cases c22 : (Int.tmod (wrap64 (x14_2 + (Int.tmod (Go.bits .and .i64 a4 65535) (l2.length : Int)))) (l2.length : Int)) < (l3.length : Int)
                    · rw [if_pos c22] at H
                      have c22b0 : decide ((Int.tmod (wrap64 (x14_2 + (Int.tmod (Go.bits .and .i64 a4 65535) (l2.length : Int)))) (l2.length : Int)) < (l3.length : Int)) = true := decide_eq_true c22
                      clear c22
                      (first | rw [c22b0] | (simp only [i64_w, i32_w]; rw [c22b0]) | skip)
                      obtain ⟨ji23, hji23⟩ : ∃ j_ : Int, (Int.tmod (wrap64 (x14_2 + (Int.tmod (Go.bits .and .i64 a4 65535) (l2.length : Int)))) (l2.length : Int)) = j_ := ⟨_, rfl⟩
                      replace H : (if 0 ≤ (ji23) then (heronrylaw12_SpanStays.j2 k2 a1 l2 l3 t120 (Int.tmod (Go.bits .and .i64 a4 65535) (l2.length : Int)) x13_2 x14_2 ji23 (rdOf false l3 (ji23)) a0_0 a0_1) else (none)) = some r := by first | (rw [hji23] at H; exact H) | (simp only [hji23] at H ⊢; exact H)
                      (try rw [hji23] at c22b0)
                      by_cases c24 : 0 ≤ (ji23)
                      · rw [if_pos c24] at H
                        have c24b0 : decide (0 ≤ (ji23)) = true := decide_eq_true c24
                        clear c24
                        have H' := Aside0.mk H
                        clear H
                        have p127 : 0 ≤ ((ji23) : Int) := of_decide_eq_true (by first | (with_reducible assumption) | assumption)
                        have q127 : (ji23) < (l3.length : Int) := of_decide_eq_true (by first | (with_reducible assumption) | assumption)
                        obtain ⟨ad127, e127, hx127_0⟩ := Kd.at_bool HR3.out (ji23) p127 q127
                        cases e127
                        replace hx127_0 := (HB.out.cell (World.block_lt_of_cell? w _ hx127_0)).trans hx127_0
                        replace p127 := eq_true p127
                        replace q127 := eq_true q127
                        go_wp2
                        go_meet
                        case rel => exact ⟨_, (rdOf false l3 (ji23)), (by first | rfl | (simp; done) | (simp only [← hji23] <;> (first | rfl | simp)) | (simp [*]; done)), (by first | exact H' | (rw [hji23]; exact H') | (simp only [hji23]; exact H')), ⟨by have := HJ6.out; have := HK2.out; first | omega | exact Nat.le_refl _⟩, ⟨by (with_reducible repeat (first | refine blk_drewN ?_ _ | refine blk_drew ?_ | refine blk_alloc ?_ _)); exact BK119.out⟩, ⟨by repeat (first | (with_reducible first | exact HB.out | apply below_alloc | apply pw_below_drewN | apply below_drew1 | refine below_set ?_ GE119.out) | exact HB.out)⟩⟩
                      · rw [if_neg c24] at H
                        exact absurd H (by simp)
                    · rw [if_neg c22] at H
                      have c22b0 : decide ((Int.tmod (wrap64 (x14_2 + (Int.tmod (Go.bits .and .i64 a4 65535) (l2.length : Int)))) (l2.length : Int)) < (l3.length : Int)) = false := decide_eq_false c22
                      clear c22
                      (first | rw [c22b0] | (simp only [i64_w, i32_w]; rw [c22b0]) | skip)
                      have H' := Aside0.mk H
                      clear H
                      go_wp2
                      go_meet
                      case rel => exact ⟨_, (false), (by first | rfl | (simp; done) | (simp [*]; done)), H', ⟨by have := HJ6.out; have := HK2.out; first | omega | exact Nat.le_refl _⟩, ⟨by (with_reducible repeat (first | refine blk_drewN ?_ _ | refine blk_drew ?_ | refine blk_alloc ?_ _)); exact BK119.out⟩, ⟨by repeat (first | (with_reducible first | exact HB.out | apply below_alloc | apply pw_below_drewN | apply below_drew1 | refine below_set ?_ GE119.out) | exact HB.out)⟩⟩
                  case rest =>
                    clear HC21
                    try clear c1
                    try clear p1
                    try clear q1
                    try clear hx1
                    try clear c2
                    try clear p2
                    try clear c3
                    try clear p6
                    try clear c10
                    try clear c10b0
                    try clear c10b1
                    try clear c11
                    try clear c11b0
                    try clear c11b1
                    try clear c11b2
                    try clear p12
                    try clear q12
                    try clear hx12
                    try clear c17
                    try clear c18
                    try clear c18b0
                    try clear c18b1
                    try clear c18b2
                    try clear c19
                    try clear c19b0
                    try clear c20
                    try clear c20b0
                    try clear c20b1
                    try clear c20b2
                    try clear c22
                    try clear c22b0
                    try clear c24
                    try clear c24b0
                    try clear hcz14_0
                    try clear hcz14_1
                    try clear hfz14_0
                    try clear hfz14_1
                    try clear hx127_0
                    try clear p127
                    try clear p2
                    try clear q127
                    obtain ⟨kq, x61_20, rfl, HA, HJ20, BK119, HB⟩ := hcut
                    cases kq with
                    | zero => exact absurd HA.out (by simp [heronrylaw12_SpanStays.j2])
                    | succ kj20 =>
                      have H := HA.out
                      clear HA
                      simp only [heronrylaw12_SpanStays.j2] at H
                      have HC25 := Aside0.mk H
                      clear H
                      go_upto_if 61 with (fail)
                      go_cut [13] (fun v13 wc => ∃ (kq : Nat) (x13_24 : Int), v13 = .int .i64 x13_24 ∧ Aside0 (heronrylaw12_SpanStays.j3 kq a1 l2 l3 t120 (Int.tmod (Go.bits .and .i64 a4 65535) (l2.length : Int)) x13_24 x14_2 a0_0 a0_1 = some r) ∧ Aside0 (kq ≤ kj20) ∧ Aside0 (wc.heap[gb119]? = some (.cells #[.int .i64 a0_0, .int .i64 a0_1] 23 (0, 0))) ∧ Aside0 (Below w.heap.size w wc))
                      case first =>
                        have H := HC25.out
                        clear HC25
                        by_cases c26 : x61_20 = true
                        · subst c26
                          have H1 : (if 0 ≤ (Int.tmod (wrap64 (x14_2 + (Int.tmod (Go.bits .and .i64 a4 65535) (l2.length : Int)))) (l2.length : Int)) then (if (Int.tmod (wrap64 (x14_2 + (Int.tmod (Go.bits .and .i64 a4 65535) (l2.length : Int)))) (l2.length : Int)) < (l2.length : Int) then (heronrylaw12_SpanStays.j3 kj20 a1 l2 l3 t120 (Int.tmod (Go.bits .and .i64 a4 65535) (l2.length : Int)) (wrap64 (x13_2 + (rd l2 (Int.tmod (wrap64 (x14_2 + (Int.tmod (Go.bits .and .i64 a4 65535) (l2.length : Int)))) (l2.length : Int))))) x14_2 a0_0 a0_1) else (none)) else (none)) = some r := by rw [if_pos rfl] at H; exact H
                          clear H
                          have H := H1
                          clear H1
                          obtain ⟨ji27, hji27⟩ : ∃ j_ : Int, (Int.tmod (wrap64 (x14_2 + (Int.tmod (Go.bits .and .i64 a4 65535) (l2.length : Int)))) (l2.length : Int)) = j_ := ⟨_, rfl⟩
                          replace H : (if 0 ≤ (ji27) then (if (ji27) < (l2.length : Int) then (heronrylaw12_SpanStays.j3 kj20 a1 l2 l3 t120 (Int.tmod (Go.bits .and .i64 a4 65535) (l2.length : Int)) (wrap64 (x13_2 + (rd l2 (ji27)))) x14_2 a0_0 a0_1) else (none)) else (none)) = some r := by first | (rw [hji27] at H; exact H) | (simp only [hji27] at H ⊢; exact H)
                          by_cases c28 : 0 ≤ (ji27)
                          · rw [if_pos c28] at H
                            have c28b0 : decide (0 ≤ (ji27)) = true := decide_eq_true c28
                            clear c28
                            (first | rw [c28b0] | (simp only [i64_w, i32_w]; rw [c28b0]) | skip)
                            by_cases c29 : (ji27) < (l2.length : Int)
                            · rw [if_pos c29] at H
                              have c29b0 : decide ((ji27) < (l2.length : Int)) = true := decide_eq_true c29
                              clear c29
                              have H' := Aside0.mk H
                              clear H
                              have p128 : 0 ≤ ((ji27) : Int) := of_decide_eq_true (by first | (with_reducible assumption) | assumption)
                              have q128 : (ji27) < (l2.length : Int) := of_decide_eq_true (by first | (with_reducible assumption) | assumption)
                              obtain ⟨ad128, e128, hx128_0⟩ := Kd.at_int HR2.out (ji27) p128 q128
                              cases e128
                              replace hx128_0 := (HB.out.cell (World.block_lt_of_cell? w _ hx128_0)).trans hx128_0
                              replace p128 := eq_true p128
                              replace q128 := eq_true q128
                              go_wp2
                              go_meet
                              case rel => exact ⟨_, (wrap64 (x13_2 + (rd l2 (ji27)))), (by first | rfl | (simp; done) | (simp only [← hji27] <;> (first | rfl | simp)) | (simp [*]; done)), H', ⟨by have := HJ6.out; have := HK2.out; have := HJ20.out; first | omega | exact Nat.le_refl _⟩, ⟨by (with_reducible repeat (first | refine blk_drewN ?_ _ | refine blk_drew ?_ | refine blk_alloc ?_ _)); exact BK119.out⟩, ⟨by repeat (first | (with_reducible first | exact HB.out | apply below_alloc | apply pw_below_drewN | apply below_drew1 | refine below_set ?_ GE119.out) | exact HB.out)⟩⟩
                            · rw [if_neg c29] at H
                              exact absurd H (by simp)
                          · rw [if_neg c28] at H
                            exact absurd H (by simp)
                        · replace c26 := Bool.eq_false_iff.mpr c26
                          subst c26
                          have H1 : (heronrylaw12_SpanStays.j3 kj20 a1 l2 l3 t120 (Int.tmod (Go.bits .and .i64 a4 65535) (l2.length : Int)) x13_2 x14_2 a0_0 a0_1) = some r := by rw [if_neg (show ¬ (false = true) by decide)] at H; exact H
                          clear H
                          have H := H1
                          clear H1
                          have H' := Aside0.mk H
                          clear H
                          go_wp2
                          go_meet
                          case rel => exact ⟨_, (x13_2), (by first | rfl | (simp; done) | (simp [*]; done)), H', ⟨by have := HJ6.out; have := HK2.out; have := HJ20.out; first | omega | exact Nat.le_refl _⟩, ⟨by (with_reducible repeat (first | refine blk_drewN ?_ _ | refine blk_drew ?_ | refine blk_alloc ?_ _)); exact BK119.out⟩, ⟨by repeat (first | (with_reducible first | exact HB.out | apply below_alloc | apply pw_below_drewN | apply below_drew1 | refine below_set ?_ GE119.out) | exact HB.out)⟩⟩
                      case rest =>
                        clear HC25
                        try clear c1
                        try clear p1
                        try clear q1
                        try clear hx1
                        try clear c2
                        try clear p2
                        try clear c3
                        try clear p6
                        try clear c10
                        try clear c10b0
                        try clear c10b1
                        try clear c11
                        try clear c11b0
                        try clear c11b1
                        try clear c11b2
                        try clear p12
                        try clear q12
                        try clear hx12
                        try clear c17
                        try clear c18
                        try clear c18b0
                        try clear c18b1
                        try clear c18b2
                        try clear c19
                        try clear c19b0
                        try clear c20
                        try clear c20b0
                        try clear c20b1
                        try clear c20b2
                        try clear c22
                        try clear c22b0
                        try clear c24
                        try clear c24b0
                        try clear c26
                        try clear c28
                        try clear c28b0
                        try clear c29
                        try clear c29b0
                        try clear hcz14_0
                        try clear hcz14_1
                        try clear hfz14_0
                        try clear hfz14_1
                        try clear hx127_0
                        try clear hx128_0
                        try clear p1
                        try clear p12
                        try clear p127
                        try clear p128
                        try clear p2
                        try clear p6
                        try clear q1
                        try clear q12
                        try clear q127
                        try clear q128
                        obtain ⟨kq, x13_24, rfl, HA, HJ24, BK119, HB⟩ := hcut
                        cases kq with
                        | zero => exact absurd HA.out (by simp [heronrylaw12_SpanStays.j3])
                        | succ kj24 =>
                          have H := HA.out
                          clear HA
                          simp only [heronrylaw12_SpanStays.j3] at H
                          replace H := Option.bind_eq_some_iff.mp H
                          obtain ⟨⟨t129, t130⟩, A300, H⟩ := H
                          replace H : ((span_Holds.f t129 t130 x13_24).bind fun t131 => (if t131 = true then (heronrylaw12_SpanStays.l0 kj24 a1 l2 l3 t120 (Int.tmod (Go.bits .and .i64 a4 65535) (l2.length : Int)) x13_24 (wrap64 (x14_2 + 1)) a0_0 a0_1) else (some false))) = some r := H
                          have A30 := Aside0.mk A300
                          clear A300
                          replace H := Option.bind_eq_some_iff.mp H
                          obtain ⟨t131, A310, H⟩ := H
                          replace H : (if t131 = true then (heronrylaw12_SpanStays.l0 kj24 a1 l2 l3 t120 (Int.tmod (Go.bits .and .i64 a4 65535) (l2.length : Int)) x13_24 (wrap64 (x14_2 + 1)) a0_0 a0_1) else (some false)) = some r := H
                          have A31 := Aside0.mk A310
                          clear A310
                          by_cases c32 : t131 = true
                          · subst c32
                            have H1 : (heronrylaw12_SpanStays.l0 kj24 a1 l2 l3 t120 (Int.tmod (Go.bits .and .i64 a4 65535) (l2.length : Int)) x13_24 (wrap64 (x14_2 + 1)) a0_0 a0_1) = some r := by rw [if_pos rfl] at H; exact H
                            clear H
                            have H := H1
                            clear H1
                            have H' := Aside0.mk H
                            clear H
                            have hcz33_0 : wc.cell? ⟨gb119, 0, none⟩ = some (.int .i64 a0_0) := (blk_cell BK119.out 0).trans rfl
                            have hcz33_1 : wc.cell? ⟨gb119, 1, none⟩ = some (.int .i64 a0_1) := (blk_cell BK119.out 1).trans rfl
                            have hfz33_0 := blk_frozen BK119.out 0
                            have hfz33_1 := blk_frozen BK119.out 1
                            go_wp2_with (first | ((with_reducible refine gate_callee (f := 12) rfl ?_); refine goesL_ (some 69) rfl rfl Try.func12 (by kernel_rfl) rfl #[.agg #[.int .i64 a0_0, .int .i64 a0_1]] rfl (by (try simp only [List.map_toArray, List.map_cons, List.map_nil]); first | done | rfl | (simp only [List.length_drop, List.length_take]; rfl)) ?_; (with_reducible refine (heronrylaw12_ours.calls a0_0 a0_1 t129 t130 _ A30.out).mono ?_); rintro e w34 ⟨rfl, hb⟩; refine ⟨_, rfl, ?_⟩; have n0_ := Aside0.mk (blk_below (g := gb119) (o := .cells #[.int .i64 a0_0, .int .i64 a0_1] 23 (0, 0)) (by (with_reducible repeat (first | refine blk_drewN ?_ _ | refine blk_drew ?_ | refine blk_alloc ?_ _)); exact BK119.out) hb); have n1_ := Aside0.mk (below_step (by repeat (first | (with_reducible first | exact HB.out | apply below_alloc | apply pw_below_drewN | apply below_drew1 | refine below_set ?_ GE119.out) | exact HB.out)) hb); clear BK119; clear HB; have BK119 := n0_; have HB := n1_; clear n0_ n1_; (try clear hb); (try clear hb2); (try clear hk); (try clear hi)) | ((with_reducible refine gate_callee (f := 13) rfl ?_); refine goesL_ (some 71) rfl rfl Try.func13 (by kernel_rfl) rfl #[.agg #[.int .i64 t129, .int .i64 t130], .int .i64 x13_24] rfl (by (try simp only [List.map_toArray, List.map_cons, List.map_nil]); first | done | rfl | (simp only [List.length_drop, List.length_take]; rfl)) ?_; (with_reducible refine (span_Holds.calls t129 t130 x13_24 true _ A31.out).mono ?_); rintro e w35 ⟨rfl, hb⟩; refine ⟨_, rfl, ?_⟩; have n0_ := Aside0.mk (blk_below (g := gb119) (o := .cells #[.int .i64 a0_0, .int .i64 a0_1] 23 (0, 0)) (by (with_reducible repeat (first | refine blk_drewN ?_ _ | refine blk_drew ?_ | refine blk_alloc ?_ _)); exact BK119.out) hb); have n1_ := Aside0.mk (below_step (by repeat (first | (with_reducible first | exact HB.out | apply below_alloc | apply pw_below_drewN | apply below_drew1 | refine below_set ?_ GE119.out) | exact HB.out)) hb); clear BK119; clear HB; have BK119 := n0_; have HB := n1_; clear n0_ n1_; (try clear hb); (try clear hb2); (try clear hk); (try clear hi)))
                            go_roundg kj24
                            case measure => have := HJ6.out; have := HK2.out; have := HJ20.out; have := HJ24.out; omega
                            case rel => exact ⟨(x13_24), (wrap64 (x14_2 + 1)), (by first | rfl | (simp; done) | (simp [*]; done)), (by first | rfl | (simp; done) | (simp [*]; done)), H', ⟨by have := HJ6.out; have := HK2.out; have := HJ20.out; have := HJ24.out; omega⟩, ⟨by (with_reducible repeat (first | refine blk_drewN ?_ _ | refine blk_drew ?_ | refine blk_alloc ?_ _)); exact BK119.out⟩, ⟨by repeat (first | (with_reducible first | exact HB.out | apply below_alloc | apply pw_below_drewN | apply below_drew1 | refine below_set ?_ GE119.out) | exact HB.out)⟩⟩
                          · replace c32 := Bool.eq_false_iff.mpr c32
                            subst c32
                            have H1 : (some false) = some r := by rw [if_neg (show ¬ (false = true) by decide)] at H; exact H
                            clear H
                            have H := H1
                            clear H1
                            obtain rfl := Option.some.inj H
                            have hcz36_0 : wc.cell? ⟨gb119, 0, none⟩ = some (.int .i64 a0_0) := (blk_cell BK119.out 0).trans rfl
                            have hcz36_1 : wc.cell? ⟨gb119, 1, none⟩ = some (.int .i64 a0_1) := (blk_cell BK119.out 1).trans rfl
                            have hfz36_0 := blk_frozen BK119.out 0
                            have hfz36_1 := blk_frozen BK119.out 1
                            go_wp2_with (first | ((with_reducible refine gate_callee (f := 12) rfl ?_); refine goesL_ (some 69) rfl rfl Try.func12 (by kernel_rfl) rfl #[.agg #[.int .i64 a0_0, .int .i64 a0_1]] rfl (by (try simp only [List.map_toArray, List.map_cons, List.map_nil]); first | done | rfl | (simp only [List.length_drop, List.length_take]; rfl)) ?_; (with_reducible refine (heronrylaw12_ours.calls a0_0 a0_1 t129 t130 _ A30.out).mono ?_); rintro e w37 ⟨rfl, hb⟩; refine ⟨_, rfl, ?_⟩; have n0_ := Aside0.mk (blk_below (g := gb119) (o := .cells #[.int .i64 a0_0, .int .i64 a0_1] 23 (0, 0)) (by (with_reducible repeat (first | refine blk_drewN ?_ _ | refine blk_drew ?_ | refine blk_alloc ?_ _)); exact BK119.out) hb); have n1_ := Aside0.mk (below_step (by repeat (first | (with_reducible first | exact HB.out | apply below_alloc | apply pw_below_drewN | apply below_drew1 | refine below_set ?_ GE119.out) | exact HB.out)) hb); clear BK119; clear HB; have BK119 := n0_; have HB := n1_; clear n0_ n1_; (try clear hb); (try clear hb2); (try clear hk); (try clear hi)) | ((with_reducible refine gate_callee (f := 13) rfl ?_); refine goesL_ (some 71) rfl rfl Try.func13 (by kernel_rfl) rfl #[.agg #[.int .i64 t129, .int .i64 t130], .int .i64 x13_24] rfl (by (try simp only [List.map_toArray, List.map_cons, List.map_nil]); first | done | rfl | (simp only [List.length_drop, List.length_take]; rfl)) ?_; (with_reducible refine (span_Holds.calls t129 t130 x13_24 false _ A31.out).mono ?_); rintro e w38 ⟨rfl, hb⟩; refine ⟨_, rfl, ?_⟩; have n0_ := Aside0.mk (blk_below (g := gb119) (o := .cells #[.int .i64 a0_0, .int .i64 a0_1] 23 (0, 0)) (by (with_reducible repeat (first | refine blk_drewN ?_ _ | refine blk_drew ?_ | refine blk_alloc ?_ _)); exact BK119.out) hb); have n1_ := Aside0.mk (below_step (by repeat (first | (with_reducible first | exact HB.out | apply below_alloc | apply pw_below_drewN | apply below_drew1 | refine below_set ?_ GE119.out) | exact HB.out)) hb); clear BK119; clear HB; have BK119 := n0_; have HB := n1_; clear n0_ n1_; (try clear hb); (try clear hb2); (try clear hk); (try clear hi)))
                            go_ret
                            exact ⟨by first | rfl | (simp [errW_none, errW_some] <;> rfl) | (simp [*, errW_none, errW_some] <;> rfl), by repeat (first | (with_reducible first | exact HB.out | apply below_alloc | apply pw_below_drewN | apply below_drew1 | refine below_set ?_ GE119.out) | exact HB.out)⟩
              · rw [if_neg c19] at H
                have c19b0 : decide (x14_2 < (l2.length : Int)) = false := decide_eq_false c19
                clear c19
                by_cases c39 : t120 = true
                · subst c39
                  have H1 : ((heronrylaw12_ours.f a0_0 a0_1).bind fun bt124 => ((span_Holds.f bt124.1 bt124.2 a1).bind fun t126 => (some t126))) = some r := by rw [if_pos rfl] at H; exact H
                  clear H
                  have H := H1
                  clear H1
                  replace H := Option.bind_eq_some_iff.mp H
                  obtain ⟨⟨t124, t125⟩, A400, H⟩ := H
                  replace H : ((span_Holds.f t124 t125 a1).bind fun t126 => (some t126)) = some r := H
                  have A40 := Aside0.mk A400
                  clear A400
                  replace H := Option.bind_eq_some_iff.mp H
                  obtain ⟨t126, A410, H⟩ := H
                  replace H : (some t126) = some r := H
                  have A41 := Aside0.mk A410
                  clear A410
                  obtain rfl := Option.some.inj H
                  have hcz42_0 : wr.cell? ⟨gb119, 0, none⟩ = some (.int .i64 a0_0) := (blk_cell BK119.out 0).trans rfl
                  have hcz42_1 : wr.cell? ⟨gb119, 1, none⟩ = some (.int .i64 a0_1) := (blk_cell BK119.out 1).trans rfl
                  have hfz42_0 := blk_frozen BK119.out 0
                  have hfz42_1 := blk_frozen BK119.out 1
                  go_wp2_with (first | (go_at_call 12; (with_reducible refine (heronrylaw12_ours.calls a0_0 a0_1 t124 t125 _ A40.out).mono ?_); rintro e w43 ⟨rfl, hb⟩; have n0_ := Aside0.mk (blk_below (g := gb119) (o := .cells #[.int .i64 a0_0, .int .i64 a0_1] 23 (0, 0)) (by (with_reducible repeat (first | refine blk_drewN ?_ _ | refine blk_drew ?_ | refine blk_alloc ?_ _)); exact BK119.out) hb); have n1_ := Aside0.mk (below_step (by repeat (first | (with_reducible first | exact HB.out | apply below_alloc | apply pw_below_drewN | apply below_drew1 | refine below_set ?_ GE119.out) | exact HB.out)) hb); clear BK119; clear HB; have BK119 := n0_; have HB := n1_; clear n0_ n1_; (try clear hb); (try clear hb2); (try clear hk); (try clear hi)) | (go_at_call 13; (with_reducible refine (span_Holds.calls t124 t125 a1 t126 _ A41.out).mono ?_); rintro e w44 ⟨rfl, hb⟩; have n0_ := Aside0.mk (blk_below (g := gb119) (o := .cells #[.int .i64 a0_0, .int .i64 a0_1] 23 (0, 0)) (by (with_reducible repeat (first | refine blk_drewN ?_ _ | refine blk_drew ?_ | refine blk_alloc ?_ _)); exact BK119.out) hb); have n1_ := Aside0.mk (below_step (by repeat (first | (with_reducible first | exact HB.out | apply below_alloc | apply pw_below_drewN | apply below_drew1 | refine below_set ?_ GE119.out) | exact HB.out)) hb); clear BK119; clear HB; have BK119 := n0_; have HB := n1_; clear n0_ n1_; (try clear hb); (try clear hb2); (try clear hk); (try clear hi)))
                  go_ret
                  exact ⟨by first | rfl | (simp [errW_none, errW_some] <;> rfl) | (simp [*, errW_none, errW_some] <;> rfl), by repeat (first | (with_reducible first | exact HB.out | apply below_alloc | apply pw_below_drewN | apply below_drew1 | refine below_set ?_ GE119.out) | exact HB.out)⟩
                · replace c39 := Bool.eq_false_iff.mpr c39
                  subst c39
                  have H1 : (some false) = some r := by rw [if_neg (show ¬ (false = true) by decide)] at H; exact H
                  clear H
                  have H := H1
                  clear H1
                  obtain rfl := Option.some.inj H
                  go_wp2
                  go_ret
                  exact ⟨by first | rfl | (simp [errW_none, errW_some] <;> rfl) | (simp [*, errW_none, errW_some] <;> rfl), by repeat (first | (with_reducible first | exact HB.out | apply below_alloc | apply pw_below_drewN | apply below_drew1 | refine below_set ?_ GE119.out) | exact HB.out)⟩

end Go.Proofs.Ythhhfoogfnnooaa.Q
