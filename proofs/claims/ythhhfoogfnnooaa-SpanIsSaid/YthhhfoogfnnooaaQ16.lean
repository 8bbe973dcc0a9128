-- Written by hprint.py (the kit's printer, with functions that are given). Lean checks it.
import Derived.Test.YthhhfoogfnnooaaQ0
import Derived.Test.YthhhfoogfnnooaaQ2
import Derived.Test.YthhhfoogfnnooaaQ6
import Derived.Test.YthhhfoogfnnooaaQ9
import Derived.Test.YthhhfoogfnnooaaQ11
import Derived.Test.YthhhfoogfnnooaaQ12
import Derived.Test.YthhhfoogfnnooaaQ13
import Derived.Test.YthhhfoogfnnooaaQ14
import Derived.Test.YthhhfoogfnnooaaQ15
import Derived.Test.YthhhfoogfnnooaaH1
namespace Go.Proofs.Ythhhfoogfnnooaa.Q
open Go.RowKit Go.Proofs.YthhhfoogfnnooaaW.PrintWords Go.Proofs.YthhhfoogfnnooaaW.PrintLast Go.Proofs.YthhhfoogfnnooaaW.PrintMore
attribute [local go_sem] max2_int min2_int max_two min_two max_three min_three max_four min_four   -- for this text's walks alone
set_option linter.unusedVariables false
set_option linter.unusedSimpArgs false

attribute [local go_sem high] eqA23
/-! ### heronrylaw12_SpanIs: function 9 -/
def heronrylaw12_SpanIs.f (k : Nat) (a0 : Int) (l1 : List Int) (a2_0 : Int) (a2_1 : Int) (a3_0 : Int) (a3_1 : Int) : Option (Bool) := (heronrylaw12_awake.f).bind fun t201 => (if (l1.length : Int) > 5000 then (some t201) else ((span_Sum.f l1).bind fun bt202 => ((heronryref12_Sum.f k l1).bind fun bt204 => ((span_Reach.f a0 l1).bind fun bt206 => ((heronryref12_Reach.f k a0 l1).bind fun bt210 => ((heronrylaw12_ours.f a2_0 a2_1).bind fun bt214 => ((span_Room.f k bt214.1 bt214.2 a0 l1).bind fun bt216 => ((heronryref12_Room.f k a2_0 a2_1 a0 l1).bind fun bt218 => ((heronrylaw12_ours.f a2_0 a2_1).bind fun bt220 => ((heronrylaw12_ours.f a3_0 a3_1).bind fun bt222 => ((span_Meet.f bt220.1 bt220.2 bt222.1 bt222.2).bind fun bt224 => ((heronryref12_Meet.f a2_0 a2_1 a3_0 a3_1).bind fun bt228 => (if t201 = true then (if bt202.1 = bt204.1 then (if bt202.2 = bt204.2 then ((heronrylaw12_theirs.f bt206.1 bt206.2.1).bind fun bt232 => (if (bt232.1 == bt210.1 && (bt232.2 == bt210.2.1)) = true then (if bt206.2.2 = bt210.2.2 then ((heronrylaw12_ours.f a2_0 a2_1).bind fun bt234 => ((span_Holds.f bt234.1 bt234.2 a0).bind fun t236 => ((heronryref12_Holds.f a2_0 a2_1 a0).bind fun t237 => (if (t236 == t237) = true then ((heronrylaw12_ours.f a2_0 a2_1).bind fun bt238 => ((span_Fits.f bt238.1 bt238.2 a0 l1).bind fun t240 => ((heronryref12_Fits.f k a2_0 a2_1 a0 l1).bind fun t241 => (if (t240 == t241) = true then (if bt216.1 = bt218.1 then (if bt216.2 = bt218.2 then ((heronrylaw12_theirs.f bt224.1 bt224.2.1).bind fun bt242 => (if (bt242.1 == bt228.1 && (bt242.2 == bt228.2.1)) = true then (some (bt224.2.2 == bt228.2.2)) else (some false))) else (some false)) else (some false)) else (some false))))) else (some false))))) else (some false)) else (some false))) else (some false)) else (some false)) else (some false))))))))))))))
theorem heronrylaw12_SpanIs.mono : ∀ a0 a1 a2 a3 a4 a5 k, LeO (heronrylaw12_SpanIs.f k a0 a1 a2 a3 a4 a5) (heronrylaw12_SpanIs.f (k + 1) a0 a1 a2 a3 a4 a5) := by
  intro a0 a1 a2 a3 a4 a5 k
  unfold heronrylaw12_SpanIs.f
  repeat' first
      | (with_reducible exact heronryref12_Fits.mono _ _ _ _ _)
      | (with_reducible exact heronryref12_Reach.mono _ _ _)
      | (with_reducible exact heronryref12_Room.mono _ _ _ _ _)
      | (with_reducible exact heronryref12_Sum.mono _ _)
      | (with_reducible exact span_Room.mono _ _ _ _ _)
      | (with_reducible exact LeO.refl _)
      | (with_reducible exact LeO.none _)
      | (with_reducible refine LeO.ite ?_ ?_)
      | (with_reducible refine LeO.bind ?_ (fun _ => ?_))
      | exact heronryref12_Fits.mono _ _ _ _ _
      | exact heronryref12_Reach.mono _ _ _
      | exact heronryref12_Room.mono _ _ _ _ _
      | exact heronryref12_Sum.mono _ _
      | exact span_Room.mono _ _ _ _ _
      | exact LeO.none _
      | refine LeO.ite ?_ ?_
      | refine LeO.bind ?_ (fun _ => ?_)
def heronrylaw12_SpanIs.T10 : Bool × List (List Nat × List Nat) := (true, [([], []), ([0], [0]), ([], []), ([2, 1], [2]), ([1, 3, 3], [1, 3]), ([4], [4]), ([5], [5]), ([5], [5]), ([], []), ([8, 6, 4, 0, 1, 2, 3, 4, 5, 6, 8], [6, 8]), ([7, 9, 0, 1, 2, 3, 4, 5, 6, 7, 8, 9], [7])])
def heronrylaw12_SpanIs.B10 : List Nat := [0, 1, 0, 7, 15, 31, 63, 63, 0, 383, 1023]
theorem heronrylaw12_SpanIs.tab10 : rtab .any (opsOf Try.f9 10) = heronrylaw12_SpanIs.T10 := by kernel_rfl
theorem heronrylaw12_SpanIs.bits10 : waitsOk heronrylaw12_SpanIs.T10.2 heronrylaw12_SpanIs.B10 = true := by kernel_rfl
def heronrylaw12_SpanIs.T12 : Bool × List (List Nat × List Nat) := (true, [([], []), ([0], [0]), ([1], [1]), ([1], [1]), ([2, 3, 1], [1, 2, 3]), ([1, 4], [1, 4]), ([5, 1], [5]), ([6], [6]), ([6], [6]), ([7, 8, 6], [6, 7, 8]), ([6, 9], [6, 9]), ([10, 6], [10]), ([11], [11]), ([12, 11, 11], [11, 12]), ([11], [11]), ([13, 14, 11], [11, 13, 14]), ([11, 15], [11, 15]), ([16, 13], [16]), ([17], [17]), ([17], [17]), ([18, 19, 17], [17, 18, 19]), ([17, 20], [17, 20]), ([21, 17], [21]), ([22], [22]), ([23, 22, 22], [22, 23]), ([22], [22]), ([24, 25, 24, 22], [22, 24, 25]), ([22], [22]), ([22], [22]), ([27, 28, 26, 22], [22, 27, 28]), ([26, 29, 22], [22, 26, 29]), ([22, 30], [22, 30]), ([31, 29], [31]), ([32], [32]), ([33, 32, 32], [32, 33]), ([32], [32]), ([32], [32]), ([34, 35, 36, 34, 32], [32, 34, 35, 36]), ([32], [32]), ([32], [32]), ([32], [32]), ([38, 39, 40, 37, 32], [32, 38, 39, 40]), ([37, 41, 32], [32, 37, 41]), ([32, 42], [32, 42]), ([43, 41], [43]), ([44], [44]), ([44], [44]), ([45, 46, 44], [44, 45, 46]), ([44, 47], [44, 47]), ([48, 44], [48]), ([49], [49]), ([49], [49]), ([50, 51, 49], [49, 50, 51]), ([49, 52], [49, 52]), ([53, 49], [53]), ([54], [54]), ([55, 54, 54], [54, 55]), ([54], [54]), ([56, 57, 54], [54, 56, 57]), ([54, 58], [54, 58]), ([59, 56], [59]), ([60], [60]), ([60], [60]), ([61, 62, 60], [60, 61, 62]), ([60, 63], [60, 63]), ([64, 60, 0, 1, 2, 3, 4, 5, 6, 7, 8, 9, 10, 11, 12, 13, 14, 15, 16, 17, 18, 19, 20, 21, 22, 23, 24, 25, 26, 27, 28, 29, 30, 31, 32, 33, 34, 35, 36, 37, 38, 39, 40, 41, 42, 43, 44, 45, 46, 47, 48, 49, 50, 51, 52, 53, 54, 55, 56, 57, 58, 59, 60, 61, 62, 63, 64], [64])])
def heronrylaw12_SpanIs.B12 : List Nat := [0, 1, 3, 3, 15, 31, 63, 127, 127, 511, 1023, 2047, 4095, 8191, 4095, 32767, 65535, 131071, 262143, 262143, 1048575, 2097151, 4194303, 8388607, 16777215, 8388607, 67108863, 8388607, 8388607, 536870911, 1073741823, 2147483647, 4294967295, 8589934591, 17179869183, 8589934591, 8589934591, 137438953471, 8589934591, 8589934591, 8589934591, 2199023255551, 4398046511103, 8796093022207, 17592186044415, 35184372088831, 35184372088831, 140737488355327, 281474976710655, 562949953421311, 1125899906842623, 1125899906842623, 4503599627370495, 9007199254740991, 18014398509481983, 36028797018963967, 72057594037927935, 36028797018963967, 288230376151711743, 576460752303423487, 1152921504606846975, 2305843009213693951, 2305843009213693951, 9223372036854775807, 18446744073709551615, 36893488147419103231]
theorem heronrylaw12_SpanIs.tab12 : rtab .any (opsOf Try.f9 12) = heronrylaw12_SpanIs.T12 := by kernel_rfl
theorem heronrylaw12_SpanIs.bits12 : waitsOk heronrylaw12_SpanIs.T12.2 heronrylaw12_SpanIs.B12 = true := by kernel_rfl
set_option maxHeartbeats 8000000 in
set_option maxRecDepth 100000 in
theorem heronrylaw12_SpanIs.calls (k : Nat) (a0 : Int) (A1 : Option Addr) (c1 : Nat) (l1 : List Int) (a2_0 : Int) (a2_1 : Int) (a3_0 : Int) (a3_1 : Int) (r : Bool) (w : World) (hT_ : Aside0 (r = true)) (hr1 : Kd.C (Kd.int .i64) w A1 l1.length l1) (hc1 : l1.length ≤ c1) (h : heronrylaw12_SpanIs.f k a0 l1 a2_0 a2_1 a3_0 a3_1 = some r) :
    Calls Try.prog 9 #[.int .i64 a0, .slice A1 l1.length c1, .agg #[.int .i64 a2_0, .int .i64 a2_1], .agg #[.int .i64 a3_0, .int .i64 a3_1]] w fun e w' => e = .returned (.bool r) ∧ Below w.heap.size w w' := by
  have hu23 := Try.underlying23
  have hu28 := Try.underlying28
  have HR1 := Aside0.mk hr1
  have HC1 := Aside0.mk hc1
  clear hr1 hc1
  have HB := Aside0.mk (Below.refl w.heap.size w)
  have H : ((heronrylaw12_awake.f).bind fun t201 => (if (l1.length : Int) > 5000 then (some t201) else ((span_Sum.f l1).bind fun bt202 => ((heronryref12_Sum.f k l1).bind fun bt204 => ((span_Reach.f a0 l1).bind fun bt206 => ((heronryref12_Reach.f k a0 l1).bind fun bt210 => ((heronrylaw12_ours.f a2_0 a2_1).bind fun bt214 => ((span_Room.f k bt214.1 bt214.2 a0 l1).bind fun bt216 => ((heronryref12_Room.f k a2_0 a2_1 a0 l1).bind fun bt218 => ((heronrylaw12_ours.f a2_0 a2_1).bind fun bt220 => ((heronrylaw12_ours.f a3_0 a3_1).bind fun bt222 => ((span_Meet.f bt220.1 bt220.2 bt222.1 bt222.2).bind fun bt224 => ((heronryref12_Meet.f a2_0 a2_1 a3_0 a3_1).bind fun bt228 => (if t201 = true then (if bt202.1 = bt204.1 then (if bt202.2 = bt204.2 then ((heronrylaw12_theirs.f bt206.1 bt206.2.1).bind fun bt232 => (if (bt232.1 == bt210.1 && (bt232.2 == bt210.2.1)) = true then (if bt206.2.2 = bt210.2.2 then ((heronrylaw12_ours.f a2_0 a2_1).bind fun bt234 => ((span_Holds.f bt234.1 bt234.2 a0).bind fun t236 => ((heronryref12_Holds.f a2_0 a2_1 a0).bind fun t237 => (if (t236 == t237) = true then ((heronrylaw12_ours.f a2_0 a2_1).bind fun bt238 => ((span_Fits.f bt238.1 bt238.2 a0 l1).bind fun t240 => ((heronryref12_Fits.f k a2_0 a2_1 a0 l1).bind fun t241 => (if (t240 == t241) = true then (if bt216.1 = bt218.1 then (if bt216.2 = bt218.2 then ((heronrylaw12_theirs.f bt224.1 bt224.2.1).bind fun bt242 => (if (bt242.1 == bt228.1 && (bt242.2 == bt228.2.1)) = true then (some (bt224.2.2 == bt228.2.2)) else (some false))) else (some false)) else (some false)) else (some false))))) else (some false))))) else (some false)) else (some false))) else (some false)) else (some false)) else (some false))))))))))))))) = some r := h
  clear h
  replace H := Option.bind_eq_some_iff.mp H
  obtain ⟨t201, A50, H⟩ := H
  replace H : (if (l1.length : Int) > 5000 then (some t201) else ((span_Sum.f l1).bind fun bt202 => ((heronryref12_Sum.f k l1).bind fun bt204 => ((span_Reach.f a0 l1).bind fun bt206 => ((heronryref12_Reach.f k a0 l1).bind fun bt210 => ((heronrylaw12_ours.f a2_0 a2_1).bind fun bt214 => ((span_Room.f k bt214.1 bt214.2 a0 l1).bind fun bt216 => ((heronryref12_Room.f k a2_0 a2_1 a0 l1).bind fun bt218 => ((heronrylaw12_ours.f a2_0 a2_1).bind fun bt220 => ((heronrylaw12_ours.f a3_0 a3_1).bind fun bt222 => ((span_Meet.f bt220.1 bt220.2 bt222.1 bt222.2).bind fun bt224 => ((heronryref12_Meet.f a2_0 a2_1 a3_0 a3_1).bind fun bt228 => (if t201 = true then (if bt202.1 = bt204.1 then (if bt202.2 = bt204.2 then ((heronrylaw12_theirs.f bt206.1 bt206.2.1).bind fun bt232 => (if (bt232.1 == bt210.1 && (bt232.2 == bt210.2.1)) = true then (if bt206.2.2 = bt210.2.2 then ((heronrylaw12_ours.f a2_0 a2_1).bind fun bt234 => ((span_Holds.f bt234.1 bt234.2 a0).bind fun t236 => ((heronryref12_Holds.f a2_0 a2_1 a0).bind fun t237 => (if (t236 == t237) = true then ((heronrylaw12_ours.f a2_0 a2_1).bind fun bt238 => ((span_Fits.f bt238.1 bt238.2 a0 l1).bind fun t240 => ((heronryref12_Fits.f k a2_0 a2_1 a0 l1).bind fun t241 => (if (t240 == t241) = true then (if bt216.1 = bt218.1 then (if bt216.2 = bt218.2 then ((heronrylaw12_theirs.f bt224.1 bt224.2.1).bind fun bt242 => (if (bt242.1 == bt228.1 && (bt242.2 == bt228.2.1)) = true then (some (bt224.2.2 == bt228.2.2)) else (some false))) else (some false)) else (some false)) else (some false))))) else (some false))))) else (some false)) else (some false))) else (some false)) else (some false)) else (some false)))))))))))))) = some r := H
  have A5 := Aside0.mk A50
  clear A50
  by_cases c6 : (l1.length : Int) > 5000
  · rw [if_pos c6] at H
    have c6b0 : decide (5000 < (l1.length : Int)) = true := decide_eq_true c6
    have c6b1 : decide (5000 < l1.length) = true := decide_eq_true (by omega)
    clear c6
    obtain rfl := Option.some.inj H
    go_enter Try.func9, Try.ntmps9
    go_wp2_with (first | ((with_reducible refine gate_dst (N := 6) rfl ?_); refine box_event ?hg (N := 6) ?hd (cs := #[.int .i64 a2_0, .int .i64 a2_1]) (t := 23) ?hr ?_; (case hd => rfl); (case hg => rfl); (case hr => first | (go_simp; done) | (go_simp; rfl)); intro gb199 hg w7 hbox hb; have n0_ := Aside0.mk (below_step (by repeat (first | (with_reducible first | exact HB.out | apply below_alloc | apply pw_below_drewN | apply below_drew1) | exact HB.out)) hb); have n1_ := Aside0.mk (hbox); have n2_ := Aside0.mk ((by rw [hg]; exact (below_size (by repeat (first | (with_reducible first | exact HB.out | apply below_alloc | apply pw_below_drewN | apply below_drew1) | exact HB.out))) : w.heap.size ≤ gb199)); have n3_ := Aside0.mk ((by rw [hg]; exact (below_size (by repeat (first | (with_reducible first | exact HB.out | apply below_alloc | apply pw_below_drewN | apply below_drew1) | exact HB.out))) : w.heap.size ≤ gb199)); clear HB; have HB := n0_; have BK199 := n1_; have GW199 := n2_; have GE199 := n3_; clear n0_ n1_ n2_ n3_; clear hb hbox hg) | ((with_reducible refine gate_dst (N := 7) rfl ?_); refine box_event ?hg (N := 7) ?hd (cs := #[.int .i64 a3_0, .int .i64 a3_1]) (t := 23) ?hr ?_; (case hd => rfl); (case hg => rfl); (case hr => first | (go_simp; done) | (go_simp; rfl)); intro gb200 hg w8 hbox hb; have n0_ := Aside0.mk (blk_below (g := gb199) (o := .cells #[.int .i64 a2_0, .int .i64 a2_1] 23 (0, 0)) (by (with_reducible repeat (first | refine blk_drewN ?_ _ | refine blk_drew ?_ | refine blk_alloc ?_ _)); exact BK199.out) hb); have n1_ := Aside0.mk (below_step (by repeat (first | (with_reducible first | exact HB.out | apply below_alloc | apply pw_below_drewN | apply below_drew1 | refine below_set ?_ GE199.out) | exact HB.out)) hb); have n2_ := Aside0.mk (hbox); have n3_ := Aside0.mk ((by rw [hg]; exact (below_size (by repeat (first | (with_reducible first | exact HB.out | apply below_alloc | apply pw_below_drewN | apply below_drew1 | refine below_set ?_ GE199.out) | exact HB.out))) : w.heap.size ≤ gb200)); have n4_ := Aside0.mk ((by rw [hg]; exact (below_size (by repeat (first | (with_reducible first | exact HB.out | apply below_alloc | apply pw_below_drewN | apply below_drew1 | refine below_set ?_ GE199.out) | exact HB.out))) : w.heap.size ≤ gb200)); have n5_ := Aside0.mk ((by rw [hg]; exact Nat.ne_of_lt (blk_lt (g := gb199) (o := .cells #[.int .i64 a2_0, .int .i64 a2_1] 23 (0, 0)) (by (with_reducible repeat (first | refine blk_drewN ?_ _ | refine blk_drew ?_ | refine blk_alloc ?_ _)); exact BK199.out)) : gb199 ≠ gb200)); have n6_ := Aside0.mk ((by rw [hg]; exact Nat.ne_of_gt (blk_lt (g := gb199) (o := .cells #[.int .i64 a2_0, .int .i64 a2_1] 23 (0, 0)) (by (with_reducible repeat (first | refine blk_drewN ?_ _ | refine blk_drew ?_ | refine blk_alloc ?_ _)); exact BK199.out)) : gb200 ≠ gb199)); clear BK199; clear HB; have BK199 := n0_; have HB := n1_; have BK200 := n2_; have GW200 := n3_; have GE200 := n4_; have NB199_200 := n5_; have NB200_199 := n6_; clear n0_ n1_ n2_ n3_ n4_ n5_ n6_; clear hb hbox hg) | ((with_reducible refine gate_callee (f := 10) rfl ?_); refine goesL_ (some 26) rfl rfl Try.func10 (by kernel_rfl) rfl #[] rfl (by (try simp only [List.map_toArray, List.map_cons, List.map_nil]); first | done | rfl | (simp only [List.length_drop, List.length_take]; rfl)) ?_; (with_reducible refine (heronrylaw12_awake.calls  t201 _ A5.out).mono ?_); rintro e w9 ⟨rfl, hb⟩; refine ⟨_, rfl, ?_⟩; have n0_ := Aside0.mk (blk_below (g := gb199) (o := .cells #[.int .i64 a2_0, .int .i64 a2_1] 23 (0, 0)) (by (with_reducible repeat (first | refine blk_drewN ?_ _ | refine blk_drew ?_ | refine blk_alloc ?_ _)); exact BK199.out) hb); have n1_ := Aside0.mk (blk_below (g := gb200) (o := .cells #[.int .i64 a3_0, .int .i64 a3_1] 23 (0, 0)) (by (with_reducible repeat (first | refine blk_drewN ?_ _ | refine blk_drew ?_ | refine blk_alloc ?_ _)); exact BK200.out) hb); have n2_ := Aside0.mk (below_step (by repeat (first | (with_reducible first | exact HB.out | apply below_alloc | apply pw_below_drewN | apply below_drew1 | refine below_set ?_ GE199.out | refine below_set ?_ GE200.out) | exact HB.out)) hb); clear BK199; clear BK200; clear HB; have BK199 := n0_; have BK200 := n1_; have HB := n2_; clear n0_ n1_ n2_; (try clear hb); (try clear hb2); (try clear hk); (try clear hi)))
    go_ret
    exact ⟨by first | rfl | (simp [errW_none, errW_some] <;> rfl) | (simp [*, errW_none, errW_some] <;> rfl), by repeat (first | (with_reducible first | exact HB.out | apply below_alloc | apply pw_below_drewN | apply below_drew1 | refine below_set ?_ GE199.out | refine below_set ?_ GE200.out) | exact HB.out)⟩
  · rw [if_neg c6] at H
    have c6b0 : decide (5000 < (l1.length : Int)) = false := decide_eq_false c6
    have c6b1 : decide (5000 < l1.length) = false := decide_eq_false (by omega)
    clear c6
    replace H := Option.bind_eq_some_iff.mp H
    obtain ⟨⟨t202, t203⟩, A100, H⟩ := H
    replace H : ((heronryref12_Sum.f k l1).bind fun bt204 => ((span_Reach.f a0 l1).bind fun bt206 => ((heronryref12_Reach.f k a0 l1).bind fun bt210 => ((heronrylaw12_ours.f a2_0 a2_1).bind fun bt214 => ((span_Room.f k bt214.1 bt214.2 a0 l1).bind fun bt216 => ((heronryref12_Room.f k a2_0 a2_1 a0 l1).bind fun bt218 => ((heronrylaw12_ours.f a2_0 a2_1).bind fun bt220 => ((heronrylaw12_ours.f a3_0 a3_1).bind fun bt222 => ((span_Meet.f bt220.1 bt220.2 bt222.1 bt222.2).bind fun bt224 => ((heronryref12_Meet.f a2_0 a2_1 a3_0 a3_1).bind fun bt228 => (if t201 = true then (if t202 = bt204.1 then (if t203 = bt204.2 then ((heronrylaw12_theirs.f bt206.1 bt206.2.1).bind fun bt232 => (if (bt232.1 == bt210.1 && (bt232.2 == bt210.2.1)) = true then (if bt206.2.2 = bt210.2.2 then ((heronrylaw12_ours.f a2_0 a2_1).bind fun bt234 => ((span_Holds.f bt234.1 bt234.2 a0).bind fun t236 => ((heronryref12_Holds.f a2_0 a2_1 a0).bind fun t237 => (if (t236 == t237) = true then ((heronrylaw12_ours.f a2_0 a2_1).bind fun bt238 => ((span_Fits.f bt238.1 bt238.2 a0 l1).bind fun t240 => ((heronryref12_Fits.f k a2_0 a2_1 a0 l1).bind fun t241 => (if (t240 == t241) = true then (if bt216.1 = bt218.1 then (if bt216.2 = bt218.2 then ((heronrylaw12_theirs.f bt224.1 bt224.2.1).bind fun bt242 => (if (bt242.1 == bt228.1 && (bt242.2 == bt228.2.1)) = true then (some (bt224.2.2 == bt228.2.2)) else (some false))) else (some false)) else (some false)) else (some false))))) else (some false))))) else (some false)) else (some false))) else (some false)) else (some false)) else (some false)))))))))))) = some r := H
    have A10 := Aside0.mk A100
    clear A100
    replace H := Option.bind_eq_some_iff.mp H
    obtain ⟨⟨t204, t205⟩, A110, H⟩ := H
    replace H : ((span_Reach.f a0 l1).bind fun bt206 => ((heronryref12_Reach.f k a0 l1).bind fun bt210 => ((heronrylaw12_ours.f a2_0 a2_1).bind fun bt214 => ((span_Room.f k bt214.1 bt214.2 a0 l1).bind fun bt216 => ((heronryref12_Room.f k a2_0 a2_1 a0 l1).bind fun bt218 => ((heronrylaw12_ours.f a2_0 a2_1).bind fun bt220 => ((heronrylaw12_ours.f a3_0 a3_1).bind fun bt222 => ((span_Meet.f bt220.1 bt220.2 bt222.1 bt222.2).bind fun bt224 => ((heronryref12_Meet.f a2_0 a2_1 a3_0 a3_1).bind fun bt228 => (if t201 = true then (if t202 = t204 then (if t203 = t205 then ((heronrylaw12_theirs.f bt206.1 bt206.2.1).bind fun bt232 => (if (bt232.1 == bt210.1 && (bt232.2 == bt210.2.1)) = true then (if bt206.2.2 = bt210.2.2 then ((heronrylaw12_ours.f a2_0 a2_1).bind fun bt234 => ((span_Holds.f bt234.1 bt234.2 a0).bind fun t236 => ((heronryref12_Holds.f a2_0 a2_1 a0).bind fun t237 => (if (t236 == t237) = true then ((heronrylaw12_ours.f a2_0 a2_1).bind fun bt238 => ((span_Fits.f bt238.1 bt238.2 a0 l1).bind fun t240 => ((heronryref12_Fits.f k a2_0 a2_1 a0 l1).bind fun t241 => (if (t240 == t241) = true then (if bt216.1 = bt218.1 then (if bt216.2 = bt218.2 then ((heronrylaw12_theirs.f bt224.1 bt224.2.1).bind fun bt242 => (if (bt242.1 == bt228.1 && (bt242.2 == bt228.2.1)) = true then (some (bt224.2.2 == bt228.2.2)) else (some false))) else (some false)) else (some false)) else (some false))))) else (some false))))) else (some false)) else (some false))) else (some false)) else (some false)) else (some false))))))))))) = some r := H
    have A11 := Aside0.mk A110
    clear A110
    replace H := Option.bind_eq_some_iff.mp H
    obtain ⟨⟨t206, t207, t208⟩, A120, H⟩ := H
    replace H : ((heronryref12_Reach.f k a0 l1).bind fun bt210 => ((heronrylaw12_ours.f a2_0 a2_1).bind fun bt214 => ((span_Room.f k bt214.1 bt214.2 a0 l1).bind fun bt216 => ((heronryref12_Room.f k a2_0 a2_1 a0 l1).bind fun bt218 => ((heronrylaw12_ours.f a2_0 a2_1).bind fun bt220 => ((heronrylaw12_ours.f a3_0 a3_1).bind fun bt222 => ((span_Meet.f bt220.1 bt220.2 bt222.1 bt222.2).bind fun bt224 => ((heronryref12_Meet.f a2_0 a2_1 a3_0 a3_1).bind fun bt228 => (if t201 = true then (if t202 = t204 then (if t203 = t205 then ((heronrylaw12_theirs.f t206 t207).bind fun bt232 => (if (bt232.1 == bt210.1 && (bt232.2 == bt210.2.1)) = true then (if t208 = bt210.2.2 then ((heronrylaw12_ours.f a2_0 a2_1).bind fun bt234 => ((span_Holds.f bt234.1 bt234.2 a0).bind fun t236 => ((heronryref12_Holds.f a2_0 a2_1 a0).bind fun t237 => (if (t236 == t237) = true then ((heronrylaw12_ours.f a2_0 a2_1).bind fun bt238 => ((span_Fits.f bt238.1 bt238.2 a0 l1).bind fun t240 => ((heronryref12_Fits.f k a2_0 a2_1 a0 l1).bind fun t241 => (if (t240 == t241) = true then (if bt216.1 = bt218.1 then (if bt216.2 = bt218.2 then ((heronrylaw12_theirs.f bt224.1 bt224.2.1).bind fun bt242 => (if (bt242.1 == bt228.1 && (bt242.2 == bt228.2.1)) = true then (some (bt224.2.2 == bt228.2.2)) else (some false))) else (some false)) else (some false)) else (some false))))) else (some false))))) else (some false)) else (some false))) else (some false)) else (some false)) else (some false)))))))))) = some r := H
    have A12 := Aside0.mk A120
    clear A120
    replace H := Option.bind_eq_some_iff.mp H
    obtain ⟨⟨t210, t211, t212⟩, A130, H⟩ := H
    replace H : ((heronrylaw12_ours.f a2_0 a2_1).bind fun bt214 => ((span_Room.f k bt214.1 bt214.2 a0 l1).bind fun bt216 => ((heronryref12_Room.f k a2_0 a2_1 a0 l1).bind fun bt218 => ((heronrylaw12_ours.f a2_0 a2_1).bind fun bt220 => ((heronrylaw12_ours.f a3_0 a3_1).bind fun bt222 => ((span_Meet.f bt220.1 bt220.2 bt222.1 bt222.2).bind fun bt224 => ((heronryref12_Meet.f a2_0 a2_1 a3_0 a3_1).bind fun bt228 => (if t201 = true then (if t202 = t204 then (if t203 = t205 then ((heronrylaw12_theirs.f t206 t207).bind fun bt232 => (if (bt232.1 == t210 && (bt232.2 == t211)) = true then (if t208 = t212 then ((heronrylaw12_ours.f a2_0 a2_1).bind fun bt234 => ((span_Holds.f bt234.1 bt234.2 a0).bind fun t236 => ((heronryref12_Holds.f a2_0 a2_1 a0).bind fun t237 => (if (t236 == t237) = true then ((heronrylaw12_ours.f a2_0 a2_1).bind fun bt238 => ((span_Fits.f bt238.1 bt238.2 a0 l1).bind fun t240 => ((heronryref12_Fits.f k a2_0 a2_1 a0 l1).bind fun t241 => (if (t240 == t241) = true then (if bt216.1 = bt218.1 then (if bt216.2 = bt218.2 then ((heronrylaw12_theirs.f bt224.1 bt224.2.1).bind fun bt242 => (if (bt242.1 == bt228.1 && (bt242.2 == bt228.2.1)) = true then (some (bt224.2.2 == bt228.2.2)) else (some false))) else (some false)) else (some false)) else (some false))))) else (some false))))) else (some false)) else (some false))) else (some false)) else (some false)) else (some false))))))))) = some r := H
    have A13 := Aside0.mk A130
    clear A130
    replace H := Option.bind_eq_some_iff.mp H
    obtain ⟨⟨t214, t215⟩, A140, H⟩ := H
    replace H : ((span_Room.f k t214 t215 a0 l1).bind fun bt216 => ((heronryref12_Room.f k a2_0 a2_1 a0 l1).bind fun bt218 => ((heronrylaw12_ours.f a2_0 a2_1).bind fun bt220 => ((heronrylaw12_ours.f a3_0 a3_1).bind fun bt222 => ((span_Meet.f bt220.1 bt220.2 bt222.1 bt222.2).bind fun bt224 => ((heronryref12_Meet.f a2_0 a2_1 a3_0 a3_1).bind fun bt228 => (if t201 = true then (if t202 = t204 then (if t203 = t205 then ((heronrylaw12_theirs.f t206 t207).bind fun bt232 => (if (bt232.1 == t210 && (bt232.2 == t211)) = true then (if t208 = t212 then ((heronrylaw12_ours.f a2_0 a2_1).bind fun bt234 => ((span_Holds.f bt234.1 bt234.2 a0).bind fun t236 => ((heronryref12_Holds.f a2_0 a2_1 a0).bind fun t237 => (if (t236 == t237) = true then ((heronrylaw12_ours.f a2_0 a2_1).bind fun bt238 => ((span_Fits.f bt238.1 bt238.2 a0 l1).bind fun t240 => ((heronryref12_Fits.f k a2_0 a2_1 a0 l1).bind fun t241 => (if (t240 == t241) = true then (if bt216.1 = bt218.1 then (if bt216.2 = bt218.2 then ((heronrylaw12_theirs.f bt224.1 bt224.2.1).bind fun bt242 => (if (bt242.1 == bt228.1 && (bt242.2 == bt228.2.1)) = true then (some (bt224.2.2 == bt228.2.2)) else (some false))) else (some false)) else (some false)) else (some false))))) else (some false))))) else (some false)) else (some false))) else (some false)) else (some false)) else (some false)))))))) = some r := H
    have A14 := Aside0.mk A140
    clear A140
    replace H := Option.bind_eq_some_iff.mp H
    obtain ⟨⟨t216, t217⟩, A150, H⟩ := H
    replace H : ((heronryref12_Room.f k a2_0 a2_1 a0 l1).bind fun bt218 => ((heronrylaw12_ours.f a2_0 a2_1).bind fun bt220 => ((heronrylaw12_ours.f a3_0 a3_1).bind fun bt222 => ((span_Meet.f bt220.1 bt220.2 bt222.1 bt222.2).bind fun bt224 => ((heronryref12_Meet.f a2_0 a2_1 a3_0 a3_1).bind fun bt228 => (if t201 = true then (if t202 = t204 then (if t203 = t205 then ((heronrylaw12_theirs.f t206 t207).bind fun bt232 => (if (bt232.1 == t210 && (bt232.2 == t211)) = true then (if t208 = t212 then ((heronrylaw12_ours.f a2_0 a2_1).bind fun bt234 => ((span_Holds.f bt234.1 bt234.2 a0).bind fun t236 => ((heronryref12_Holds.f a2_0 a2_1 a0).bind fun t237 => (if (t236 == t237) = true then ((heronrylaw12_ours.f a2_0 a2_1).bind fun bt238 => ((span_Fits.f bt238.1 bt238.2 a0 l1).bind fun t240 => ((heronryref12_Fits.f k a2_0 a2_1 a0 l1).bind fun t241 => (if (t240 == t241) = true then (if t216 = bt218.1 then (if t217 = bt218.2 then ((heronrylaw12_theirs.f bt224.1 bt224.2.1).bind fun bt242 => (if (bt242.1 == bt228.1 && (bt242.2 == bt228.2.1)) = true then (some (bt224.2.2 == bt228.2.2)) else (some false))) else (some false)) else (some false)) else (some false))))) else (some false))))) else (some false)) else (some false))) else (some false)) else (some false)) else (some false))))))) = some r := H
    have A15 := Aside0.mk A150
    clear A150
    replace H := Option.bind_eq_some_iff.mp H
    obtain ⟨⟨t218, t219⟩, A160, H⟩ := H
    replace H : ((heronrylaw12_ours.f a2_0 a2_1).bind fun bt220 => ((heronrylaw12_ours.f a3_0 a3_1).bind fun bt222 => ((span_Meet.f bt220.1 bt220.2 bt222.1 bt222.2).bind fun bt224 => ((heronryref12_Meet.f a2_0 a2_1 a3_0 a3_1).bind fun bt228 => (if t201 = true then (if t202 = t204 then (if t203 = t205 then ((heronrylaw12_theirs.f t206 t207).bind fun bt232 => (if (bt232.1 == t210 && (bt232.2 == t211)) = true then (if t208 = t212 then ((heronrylaw12_ours.f a2_0 a2_1).bind fun bt234 => ((span_Holds.f bt234.1 bt234.2 a0).bind fun t236 => ((heronryref12_Holds.f a2_0 a2_1 a0).bind fun t237 => (if (t236 == t237) = true then ((heronrylaw12_ours.f a2_0 a2_1).bind fun bt238 => ((span_Fits.f bt238.1 bt238.2 a0 l1).bind fun t240 => ((heronryref12_Fits.f k a2_0 a2_1 a0 l1).bind fun t241 => (if (t240 == t241) = true then (if t216 = t218 then (if t217 = t219 then ((heronrylaw12_theirs.f bt224.1 bt224.2.1).bind fun bt242 => (if (bt242.1 == bt228.1 && (bt242.2 == bt228.2.1)) = true then (some (bt224.2.2 == bt228.2.2)) else (some false))) else (some false)) else (some false)) else (some false))))) else (some false))))) else (some false)) else (some false))) else (some false)) else (some false)) else (some false)))))) = some r := H
    have A16 := Aside0.mk A160
    clear A160
    replace H := Option.bind_eq_some_iff.mp H
    obtain ⟨⟨t220, t221⟩, A170, H⟩ := H
    replace H : ((heronrylaw12_ours.f a3_0 a3_1).bind fun bt222 => ((span_Meet.f t220 t221 bt222.1 bt222.2).bind fun bt224 => ((heronryref12_Meet.f a2_0 a2_1 a3_0 a3_1).bind fun bt228 => (if t201 = true then (if t202 = t204 then (if t203 = t205 then ((heronrylaw12_theirs.f t206 t207).bind fun bt232 => (if (bt232.1 == t210 && (bt232.2 == t211)) = true then (if t208 = t212 then ((heronrylaw12_ours.f a2_0 a2_1).bind fun bt234 => ((span_Holds.f bt234.1 bt234.2 a0).bind fun t236 => ((heronryref12_Holds.f a2_0 a2_1 a0).bind fun t237 => (if (t236 == t237) = true then ((heronrylaw12_ours.f a2_0 a2_1).bind fun bt238 => ((span_Fits.f bt238.1 bt238.2 a0 l1).bind fun t240 => ((heronryref12_Fits.f k a2_0 a2_1 a0 l1).bind fun t241 => (if (t240 == t241) = true then (if t216 = t218 then (if t217 = t219 then ((heronrylaw12_theirs.f bt224.1 bt224.2.1).bind fun bt242 => (if (bt242.1 == bt228.1 && (bt242.2 == bt228.2.1)) = true then (some (bt224.2.2 == bt228.2.2)) else (some false))) else (some false)) else (some false)) else (some false))))) else (some false))))) else (some false)) else (some false))) else (some false)) else (some false)) else (some false))))) = some r := H
    have A17 := Aside0.mk A170
    clear A170
    replace H := Option.bind_eq_some_iff.mp H
    obtain ⟨⟨t222, t223⟩, A180, H⟩ := H
    replace H : ((span_Meet.f t220 t221 t222 t223).bind fun bt224 => ((heronryref12_Meet.f a2_0 a2_1 a3_0 a3_1).bind fun bt228 => (if t201 = true then (if t202 = t204 then (if t203 = t205 then ((heronrylaw12_theirs.f t206 t207).bind fun bt232 => (if (bt232.1 == t210 && (bt232.2 == t211)) = true then (if t208 = t212 then ((heronrylaw12_ours.f a2_0 a2_1).bind fun bt234 => ((span_Holds.f bt234.1 bt234.2 a0).bind fun t236 => ((heronryref12_Holds.f a2_0 a2_1 a0).bind fun t237 => (if (t236 == t237) = true then ((heronrylaw12_ours.f a2_0 a2_1).bind fun bt238 => ((span_Fits.f bt238.1 bt238.2 a0 l1).bind fun t240 => ((heronryref12_Fits.f k a2_0 a2_1 a0 l1).bind fun t241 => (if (t240 == t241) = true then (if t216 = t218 then (if t217 = t219 then ((heronrylaw12_theirs.f bt224.1 bt224.2.1).bind fun bt242 => (if (bt242.1 == bt228.1 && (bt242.2 == bt228.2.1)) = true then (some (bt224.2.2 == bt228.2.2)) else (some false))) else (some false)) else (some false)) else (some false))))) else (some false))))) else (some false)) else (some false))) else (some false)) else (some false)) else (some false)))) = some r := H
    have A18 := Aside0.mk A180
    clear A180
    replace H := Option.bind_eq_some_iff.mp H
    obtain ⟨⟨t224, t225, t226⟩, A190, H⟩ := H
    replace H : ((heronryref12_Meet.f a2_0 a2_1 a3_0 a3_1).bind fun bt228 => (if t201 = true then (if t202 = t204 then (if t203 = t205 then ((heronrylaw12_theirs.f t206 t207).bind fun bt232 => (if (bt232.1 == t210 && (bt232.2 == t211)) = true then (if t208 = t212 then ((heronrylaw12_ours.f a2_0 a2_1).bind fun bt234 => ((span_Holds.f bt234.1 bt234.2 a0).bind fun t236 => ((heronryref12_Holds.f a2_0 a2_1 a0).bind fun t237 => (if (t236 == t237) = true then ((heronrylaw12_ours.f a2_0 a2_1).bind fun bt238 => ((span_Fits.f bt238.1 bt238.2 a0 l1).bind fun t240 => ((heronryref12_Fits.f k a2_0 a2_1 a0 l1).bind fun t241 => (if (t240 == t241) = true then (if t216 = t218 then (if t217 = t219 then ((heronrylaw12_theirs.f t224 t225).bind fun bt242 => (if (bt242.1 == bt228.1 && (bt242.2 == bt228.2.1)) = true then (some (t226 == bt228.2.2)) else (some false))) else (some false)) else (some false)) else (some false))))) else (some false))))) else (some false)) else (some false))) else (some false)) else (some false)) else (some false))) = some r := H
    have A19 := Aside0.mk A190
    clear A190
    replace H := Option.bind_eq_some_iff.mp H
    obtain ⟨⟨t228, t229, t230⟩, A200, H⟩ := H
    replace H : (if t201 = true then (if t202 = t204 then (if t203 = t205 then ((heronrylaw12_theirs.f t206 t207).bind fun bt232 => (if (bt232.1 == t210 && (bt232.2 == t211)) = true then (if t208 = t212 then ((heronrylaw12_ours.f a2_0 a2_1).bind fun bt234 => ((span_Holds.f bt234.1 bt234.2 a0).bind fun t236 => ((heronryref12_Holds.f a2_0 a2_1 a0).bind fun t237 => (if (t236 == t237) = true then ((heronrylaw12_ours.f a2_0 a2_1).bind fun bt238 => ((span_Fits.f bt238.1 bt238.2 a0 l1).bind fun t240 => ((heronryref12_Fits.f k a2_0 a2_1 a0 l1).bind fun t241 => (if (t240 == t241) = true then (if t216 = t218 then (if t217 = t219 then ((heronrylaw12_theirs.f t224 t225).bind fun bt242 => (if (bt242.1 == t228 && (bt242.2 == t229)) = true then (some (t226 == t230)) else (some false))) else (some false)) else (some false)) else (some false))))) else (some false))))) else (some false)) else (some false))) else (some false)) else (some false)) else (some false)) = some r := H
    have A20 := Aside0.mk A200
    clear A200
    by_cases c21 : t201 = true
    · subst c21
      have H1 : (if t202 = t204 then (if t203 = t205 then ((heronrylaw12_theirs.f t206 t207).bind fun bt232 => (if (bt232.1 == t210 && (bt232.2 == t211)) = true then (if t208 = t212 then ((heronrylaw12_ours.f a2_0 a2_1).bind fun bt234 => ((span_Holds.f bt234.1 bt234.2 a0).bind fun t236 => ((heronryref12_Holds.f a2_0 a2_1 a0).bind fun t237 => (if (t236 == t237) = true then ((heronrylaw12_ours.f a2_0 a2_1).bind fun bt238 => ((span_Fits.f bt238.1 bt238.2 a0 l1).bind fun t240 => ((heronryref12_Fits.f k a2_0 a2_1 a0 l1).bind fun t241 => (if (t240 == t241) = true then (if t216 = t218 then (if t217 = t219 then ((heronrylaw12_theirs.f t224 t225).bind fun bt242 => (if (bt242.1 == t228 && (bt242.2 == t229)) = true then (some (t226 == t230)) else (some false))) else (some false)) else (some false)) else (some false))))) else (some false))))) else (some false)) else (some false))) else (some false)) else (some false)) = some r := by rw [if_pos rfl] at H; exact H
      clear H
      have H := H1
      clear H1
      by_cases c22 : t202 = t204
      · rw [if_pos c22] at H
        have c22b0 : (t202 == t204) = true := beq_iff_eq.mpr c22
        have c22b1 : (t202 != t204) = false := bne_eq_false_iff_eq.mpr c22
        clear c22
        by_cases c23 : t203 = t205
        · rw [if_pos c23] at H
          have c23b0 : (t203 == t205) = true := beq_iff_eq.mpr c23
          have c23b1 : (t203 != t205) = false := bne_eq_false_iff_eq.mpr c23
          clear c23
          replace H := Option.bind_eq_some_iff.mp H
          obtain ⟨⟨t232, t233⟩, A240, H⟩ := H
          replace H : (if (t232 == t210 && (t233 == t211)) = true then (if t208 = t212 then ((heronrylaw12_ours.f a2_0 a2_1).bind fun bt234 => ((span_Holds.f bt234.1 bt234.2 a0).bind fun t236 => ((heronryref12_Holds.f a2_0 a2_1 a0).bind fun t237 => (if (t236 == t237) = true then ((heronrylaw12_ours.f a2_0 a2_1).bind fun bt238 => ((span_Fits.f bt238.1 bt238.2 a0 l1).bind fun t240 => ((heronryref12_Fits.f k a2_0 a2_1 a0 l1).bind fun t241 => (if (t240 == t241) = true then (if t216 = t218 then (if t217 = t219 then ((heronrylaw12_theirs.f t224 t225).bind fun bt242 => (if (bt242.1 == t228 && (bt242.2 == t229)) = true then (some (t226 == t230)) else (some false))) else (some false)) else (some false)) else (some false))))) else (some false))))) else (some false)) else (some false)) = some r := H
          have A24 := Aside0.mk A240
          clear A240
          by_cases c25 : (t232 == t210 && (t233 == t211)) = true
          · rw [if_pos c25] at H
            have c25b0 : (t232 == t210 && (t233 == t211)) = true := c25
            (try (have c25b1 : decide (t232 = t210 && (t233 == t211)) = true := by simpa using c25))
            (try (have c25b2 : (t232 == t210 && (t233 == t211)) = true := by simpa using c25))
            clear c25
            by_cases c26 : t208 = t212
            · rw [if_pos c26] at H
              have c26b0 : (t208 == t212) = true := beq_iff_eq.mpr c26
              have c26b1 : (t208 != t212) = false := bne_eq_false_iff_eq.mpr c26
              clear c26
              replace H := Option.bind_eq_some_iff.mp H
              obtain ⟨⟨t234, t235⟩, A270, H⟩ := H
              replace H : ((span_Holds.f t234 t235 a0).bind fun t236 => ((heronryref12_Holds.f a2_0 a2_1 a0).bind fun t237 => (if (t236 == t237) = true then ((heronrylaw12_ours.f a2_0 a2_1).bind fun bt238 => ((span_Fits.f bt238.1 bt238.2 a0 l1).bind fun t240 => ((heronryref12_Fits.f k a2_0 a2_1 a0 l1).bind fun t241 => (if (t240 == t241) = true then (if t216 = t218 then (if t217 = t219 then ((heronrylaw12_theirs.f t224 t225).bind fun bt242 => (if (bt242.1 == t228 && (bt242.2 == t229)) = true then (some (t226 == t230)) else (some false))) else (some false)) else (some false)) else (some false))))) else (some false)))) = some r := H
              have A27 := Aside0.mk A270
              clear A270
              replace H := Option.bind_eq_some_iff.mp H
              obtain ⟨t236, A280, H⟩ := H
              replace H : ((heronryref12_Holds.f a2_0 a2_1 a0).bind fun t237 => (if (t236 == t237) = true then ((heronrylaw12_ours.f a2_0 a2_1).bind fun bt238 => ((span_Fits.f bt238.1 bt238.2 a0 l1).bind fun t240 => ((heronryref12_Fits.f k a2_0 a2_1 a0 l1).bind fun t241 => (if (t240 == t241) = true then (if t216 = t218 then (if t217 = t219 then ((heronrylaw12_theirs.f t224 t225).bind fun bt242 => (if (bt242.1 == t228 && (bt242.2 == t229)) = true then (some (t226 == t230)) else (some false))) else (some false)) else (some false)) else (some false))))) else (some false))) = some r := H
              have A28 := Aside0.mk A280
              clear A280
              replace H := Option.bind_eq_some_iff.mp H
              obtain ⟨t237, A290, H⟩ := H
              replace H : (if (t236 == t237) = true then ((heronrylaw12_ours.f a2_0 a2_1).bind fun bt238 => ((span_Fits.f bt238.1 bt238.2 a0 l1).bind fun t240 => ((heronryref12_Fits.f k a2_0 a2_1 a0 l1).bind fun t241 => (if (t240 == t241) = true then (if t216 = t218 then (if t217 = t219 then ((heronrylaw12_theirs.f t224 t225).bind fun bt242 => (if (bt242.1 == t228 && (bt242.2 == t229)) = true then (some (t226 == t230)) else (some false))) else (some false)) else (some false)) else (some false))))) else (some false)) = some r := H
              have A29 := Aside0.mk A290
              clear A290
              by_cases c30 : (t236 == t237) = true
              · rw [if_pos c30] at H
                have c30b0 : (t236 == t237) = true := c30
                (try (have c30b1 : decide (t236 = t237) = true := by simpa using c30))
                (try (have c30b2 : (t236 == t237) = true := by simpa using c30))
                clear c30
                replace H := Option.bind_eq_some_iff.mp H
                obtain ⟨⟨t238, t239⟩, A310, H⟩ := H
                replace H : ((span_Fits.f t238 t239 a0 l1).bind fun t240 => ((heronryref12_Fits.f k a2_0 a2_1 a0 l1).bind fun t241 => (if (t240 == t241) = true then (if t216 = t218 then (if t217 = t219 then ((heronrylaw12_theirs.f t224 t225).bind fun bt242 => (if (bt242.1 == t228 && (bt242.2 == t229)) = true then (some (t226 == t230)) else (some false))) else (some false)) else (some false)) else (some false)))) = some r := H
                have A31 := Aside0.mk A310
                clear A310
                replace H := Option.bind_eq_some_iff.mp H
                obtain ⟨t240, A320, H⟩ := H
                replace H : ((heronryref12_Fits.f k a2_0 a2_1 a0 l1).bind fun t241 => (if (t240 == t241) = true then (if t216 = t218 then (if t217 = t219 then ((heronrylaw12_theirs.f t224 t225).bind fun bt242 => (if (bt242.1 == t228 && (bt242.2 == t229)) = true then (some (t226 == t230)) else (some false))) else (some false)) else (some false)) else (some false))) = some r := H
                have A32 := Aside0.mk A320
                clear A320
                replace H := Option.bind_eq_some_iff.mp H
                obtain ⟨t241, A330, H⟩ := H
                replace H : (if (t240 == t241) = true then (if t216 = t218 then (if t217 = t219 then ((heronrylaw12_theirs.f t224 t225).bind fun bt242 => (if (bt242.1 == t228 && (bt242.2 == t229)) = true then (some (t226 == t230)) else (some false))) else (some false)) else (some false)) else (some false)) = some r := H
                have A33 := Aside0.mk A330
                clear A330
                by_cases c34 : (t240 == t241) = true
                · rw [if_pos c34] at H
                  have c34b0 : (t240 == t241) = true := c34
                  (try (have c34b1 : decide (t240 = t241) = true := by simpa using c34))
                  (try (have c34b2 : (t240 == t241) = true := by simpa using c34))
                  clear c34
                  by_cases c35 : t216 = t218
                  · rw [if_pos c35] at H
                    have c35b0 : (t216 == t218) = true := beq_iff_eq.mpr c35
                    have c35b1 : (t216 != t218) = false := bne_eq_false_iff_eq.mpr c35
                    clear c35
                    by_cases c36 : t217 = t219
                    · rw [if_pos c36] at H
                      have c36b0 : (t217 == t219) = true := beq_iff_eq.mpr c36
                      have c36b1 : (t217 != t219) = false := bne_eq_false_iff_eq.mpr c36
                      clear c36
                      replace H := Option.bind_eq_some_iff.mp H
                      obtain ⟨⟨t242, t243⟩, A370, H⟩ := H
                      replace H : (if (t242 == t228 && (t243 == t229)) = true then (some (t226 == t230)) else (some false)) = some r := H
                      have A37 := Aside0.mk A370
                      clear A370
                      by_cases c38 : (t242 == t228 && (t243 == t229)) = true
                      · rw [if_pos c38] at H
                        have c38b0 : (t242 == t228 && (t243 == t229)) = true := c38
                        (try (have c38b1 : decide (t242 = t228 && (t243 == t229)) = true := by simpa using c38))
                        (try (have c38b2 : (t242 == t228 && (t243 == t229)) = true := by simpa using c38))
                        clear c38
                        obtain rfl := Option.some.inj H
                        go_enter Try.func9, Try.ntmps9
                        try go_wp2_with (first | ((with_reducible refine gate_dst (N := 6) rfl ?_); refine box_event ?hg (N := 6) ?hd (cs := #[.int .i64 a2_0, .int .i64 a2_1]) (t := 23) ?hr ?_; (case hd => rfl); (case hg => rfl); (case hr => first | (go_simp; done) | (go_simp; rfl)); intro gb199 hg w39 hbox hb; have n0_ := Aside0.mk (below_step (by repeat (first | (with_reducible first | exact HB.out | apply below_alloc | apply pw_below_drewN | apply below_drew1) | exact HB.out)) hb); have n1_ := Aside0.mk (hbox); have n2_ := Aside0.mk ((by rw [hg]; exact (below_size (by repeat (first | (with_reducible first | exact HB.out | apply below_alloc | apply pw_below_drewN | apply below_drew1) | exact HB.out))) : w.heap.size ≤ gb199)); have n3_ := Aside0.mk ((by rw [hg]; exact (below_size (by repeat (first | (with_reducible first | exact HB.out | apply below_alloc | apply pw_below_drewN | apply below_drew1) | exact HB.out))) : w.heap.size ≤ gb199)); clear HB; have HB := n0_; have BK199 := n1_; have GW199 := n2_; have GE199 := n3_; clear n0_ n1_ n2_ n3_; clear hb hbox hg) | ((with_reducible refine gate_dst (N := 7) rfl ?_); refine box_event ?hg (N := 7) ?hd (cs := #[.int .i64 a3_0, .int .i64 a3_1]) (t := 23) ?hr ?_; (case hd => rfl); (case hg => rfl); (case hr => first | (go_simp; done) | (go_simp; rfl)); intro gb200 hg w40 hbox hb; have n0_ := Aside0.mk (blk_below (g := gb199) (o := .cells #[.int .i64 a2_0, .int .i64 a2_1] 23 (0, 0)) (by (with_reducible repeat (first | refine blk_drewN ?_ _ | refine blk_drew ?_ | refine blk_alloc ?_ _)); exact BK199.out) hb); have n1_ := Aside0.mk (below_step (by repeat (first | (with_reducible first | exact HB.out | apply below_alloc | apply pw_below_drewN | apply below_drew1 | refine below_set ?_ GE199.out) | exact HB.out)) hb); have n2_ := Aside0.mk (hbox); have n3_ := Aside0.mk ((by rw [hg]; exact (below_size (by repeat (first | (with_reducible first | exact HB.out | apply below_alloc | apply pw_below_drewN | apply below_drew1 | refine below_set ?_ GE199.out) | exact HB.out))) : w.heap.size ≤ gb200)); have n4_ := Aside0.mk ((by rw [hg]; exact (below_size (by repeat (first | (with_reducible first | exact HB.out | apply below_alloc | apply pw_below_drewN | apply below_drew1 | refine below_set ?_ GE199.out) | exact HB.out))) : w.heap.size ≤ gb200)); have n5_ := Aside0.mk ((by rw [hg]; exact Nat.ne_of_lt (blk_lt (g := gb199) (o := .cells #[.int .i64 a2_0, .int .i64 a2_1] 23 (0, 0)) (by (with_reducible repeat (first | refine blk_drewN ?_ _ | refine blk_drew ?_ | refine blk_alloc ?_ _)); exact BK199.out)) : gb199 ≠ gb200)); have n6_ := Aside0.mk ((by rw [hg]; exact Nat.ne_of_gt (blk_lt (g := gb199) (o := .cells #[.int .i64 a2_0, .int .i64 a2_1] 23 (0, 0)) (by (with_reducible repeat (first | refine blk_drewN ?_ _ | refine blk_drew ?_ | refine blk_alloc ?_ _)); exact BK199.out)) : gb200 ≠ gb199)); clear BK199; clear HB; have BK199 := n0_; have HB := n1_; have BK200 := n2_; have GW200 := n3_; have GE200 := n4_; have NB199_200 := n5_; have NB200_199 := n6_; clear n0_ n1_ n2_ n3_ n4_ n5_ n6_; clear hb hbox hg) | ((with_reducible refine gate_callee (f := 10) rfl ?_); refine goesL_ (some 26) rfl rfl Try.func10 (by kernel_rfl) rfl #[] rfl (by (try simp only [List.map_toArray, List.map_cons, List.map_nil]); first | done | rfl | (simp only [List.length_drop, List.length_take]; rfl)) ?_; (with_reducible refine (heronrylaw12_awake.calls  true _ A5.out).mono ?_); rintro e w41 ⟨rfl, hb⟩; refine ⟨_, rfl, ?_⟩; have n0_ := Aside0.mk (blk_below (g := gb199) (o := .cells #[.int .i64 a2_0, .int .i64 a2_1] 23 (0, 0)) (by (with_reducible repeat (first | refine blk_drewN ?_ _ | refine blk_drew ?_ | refine blk_alloc ?_ _)); exact BK199.out) hb); have n1_ := Aside0.mk (blk_below (g := gb200) (o := .cells #[.int .i64 a3_0, .int .i64 a3_1] 23 (0, 0)) (by (with_reducible repeat (first | refine blk_drewN ?_ _ | refine blk_drew ?_ | refine blk_alloc ?_ _)); exact BK200.out) hb); have n2_ := Aside0.mk (below_step (by repeat (first | (with_reducible first | exact HB.out | apply below_alloc | apply pw_below_drewN | apply below_drew1 | refine below_set ?_ GE199.out | refine below_set ?_ GE200.out) | exact HB.out)) hb); clear BK199; clear BK200; clear HB; have BK199 := n0_; have BK200 := n1_; have HB := n2_; clear n0_ n1_ n2_; (try clear hb); (try clear hb2); (try clear hk); (try clear hi)) | ((with_reducible refine gate_callee (f := 15) rfl ?_); refine goesL_ (some 33) rfl rfl Try.func15 (by kernel_rfl) rfl #[.slice A1 l1.length c1] rfl (by (try simp only [List.map_toArray, List.map_cons, List.map_nil]); first | done | rfl | (simp only [List.length_drop, List.length_take]; rfl)) ?_; (with_reducible refine (span_Sum.calls _ _ l1 t202 t203 _ ?side1 ?side2 A10.out).mono ?_); (case side1 => repeat (first | exact (Kd.C_below HR1.out HB.out) | (with_reducible refine Kd.C_alloc ?_ _) | (with_reducible refine Kd.C_drewN ?_ _) | (with_reducible refine Kd.C_drew ?_))); (case side2 => exact HC1.out); rintro e w42 ⟨rfl, hb⟩; refine ⟨_, rfl, ?_⟩; have n0_ := Aside0.mk (blk_below (g := gb199) (o := .cells #[.int .i64 a2_0, .int .i64 a2_1] 23 (0, 0)) (by (with_reducible repeat (first | refine blk_drewN ?_ _ | refine blk_drew ?_ | refine blk_alloc ?_ _)); exact BK199.out) hb); have n1_ := Aside0.mk (blk_below (g := gb200) (o := .cells #[.int .i64 a3_0, .int .i64 a3_1] 23 (0, 0)) (by (with_reducible repeat (first | refine blk_drewN ?_ _ | refine blk_drew ?_ | refine blk_alloc ?_ _)); exact BK200.out) hb); have n2_ := Aside0.mk (below_step (by repeat (first | (with_reducible first | exact HB.out | apply below_alloc | apply pw_below_drewN | apply below_drew1 | refine below_set ?_ GE199.out | refine below_set ?_ GE200.out) | exact HB.out)) hb); clear BK199; clear BK200; clear HB; have BK199 := n0_; have BK200 := n1_; have HB := n2_; clear n0_ n1_ n2_; (try clear hb); (try clear hb2); (try clear hk); (try clear hi)) | ((with_reducible refine gate_callee (f := 18) rfl ?_); refine goesL_ (some 38) rfl rfl Try.func18 (by kernel_rfl) rfl #[.slice A1 l1.length c1] rfl (by (try simp only [List.map_toArray, List.map_cons, List.map_nil]); first | done | rfl | (simp only [List.length_drop, List.length_take]; rfl)) ?_; (with_reducible refine (heronryref12_Sum.calls k _ _ l1 t204 t205 _ ?side1 ?side2 A11.out).mono ?_); (case side1 => repeat (first | exact (Kd.C_below HR1.out HB.out) | (with_reducible refine Kd.C_alloc ?_ _) | (with_reducible refine Kd.C_drewN ?_ _) | (with_reducible refine Kd.C_drew ?_))); (case side2 => exact HC1.out); rintro e w43 ⟨rfl, hb⟩; refine ⟨_, rfl, ?_⟩; have n0_ := Aside0.mk (blk_below (g := gb199) (o := .cells #[.int .i64 a2_0, .int .i64 a2_1] 23 (0, 0)) (by (with_reducible repeat (first | refine blk_drewN ?_ _ | refine blk_drew ?_ | refine blk_alloc ?_ _)); exact BK199.out) hb); have n1_ := Aside0.mk (blk_below (g := gb200) (o := .cells #[.int .i64 a3_0, .int .i64 a3_1] 23 (0, 0)) (by (with_reducible repeat (first | refine blk_drewN ?_ _ | refine blk_drew ?_ | refine blk_alloc ?_ _)); exact BK200.out) hb); have n2_ := Aside0.mk (below_step (by repeat (first | (with_reducible first | exact HB.out | apply below_alloc | apply pw_below_drewN | apply below_drew1 | refine below_set ?_ GE199.out | refine below_set ?_ GE200.out) | exact HB.out)) hb); clear BK199; clear BK200; clear HB; have BK199 := n0_; have BK200 := n1_; have HB := n2_; clear n0_ n1_ n2_; (try clear hb); (try clear hb2); (try clear hk); (try clear hi)) | ((with_reducible refine gate_callee (f := 14) rfl ?_); refine goesL_ (some 44) rfl rfl Try.func14 (by kernel_rfl) rfl #[.int .i64 a0, .slice A1 l1.length c1] rfl (by (try simp only [List.map_toArray, List.map_cons, List.map_nil]); first | done | rfl | (simp only [List.length_drop, List.length_take]; rfl)) ?_; (with_reducible refine (span_Reach.calls a0 _ _ l1 t206 t207 t208 _ ?side1 ?side2 A12.out).mono ?_); (case side1 => repeat (first | exact (Kd.C_below HR1.out HB.out) | (with_reducible refine Kd.C_alloc ?_ _) | (with_reducible refine Kd.C_drewN ?_ _) | (with_reducible refine Kd.C_drew ?_))); (case side2 => exact HC1.out); rintro e w44 ⟨rfl, hb⟩; refine ⟨_, rfl, ?_⟩; have n0_ := Aside0.mk (blk_below (g := gb199) (o := .cells #[.int .i64 a2_0, .int .i64 a2_1] 23 (0, 0)) (by (with_reducible repeat (first | refine blk_drewN ?_ _ | refine blk_drew ?_ | refine blk_alloc ?_ _)); exact BK199.out) hb); have n1_ := Aside0.mk (blk_below (g := gb200) (o := .cells #[.int .i64 a3_0, .int .i64 a3_1] 23 (0, 0)) (by (with_reducible repeat (first | refine blk_drewN ?_ _ | refine blk_drew ?_ | refine blk_alloc ?_ _)); exact BK200.out) hb); have n2_ := Aside0.mk (below_step (by repeat (first | (with_reducible first | exact HB.out | apply below_alloc | apply pw_below_drewN | apply below_drew1 | refine below_set ?_ GE199.out | refine below_set ?_ GE200.out) | exact HB.out)) hb); clear BK199; clear BK200; clear HB; have BK199 := n0_; have BK200 := n1_; have HB := n2_; clear n0_ n1_ n2_; (try clear hb); (try clear hb2); (try clear hk); (try clear hi)) | ((with_reducible refine gate_dst (N := 14) rfl ?_); refine box_event ?hg (N := 14) ?hd (cs := #[.int .i64 0, .int .i64 0]) (t := 28) ?hr ?_; (case hd => rfl); (case hg => rfl); (case hr => first | (go_simp; done) | (go_simp; rfl)); intro gb209 hg w45 hbox hb; have n0_ := Aside0.mk (blk_below (g := gb199) (o := .cells #[.int .i64 a2_0, .int .i64 a2_1] 23 (0, 0)) (by (with_reducible repeat (first | refine blk_drewN ?_ _ | refine blk_drew ?_ | refine blk_alloc ?_ _)); exact BK199.out) hb); have n1_ := Aside0.mk (blk_below (g := gb200) (o := .cells #[.int .i64 a3_0, .int .i64 a3_1] 23 (0, 0)) (by (with_reducible repeat (first | refine blk_drewN ?_ _ | refine blk_drew ?_ | refine blk_alloc ?_ _)); exact BK200.out) hb); have n2_ := Aside0.mk (below_step (by repeat (first | (with_reducible first | exact HB.out | apply below_alloc | apply pw_below_drewN | apply below_drew1 | refine below_set ?_ GE199.out | refine below_set ?_ GE200.out) | exact HB.out)) hb); have n3_ := Aside0.mk (hbox); have n4_ := Aside0.mk ((by rw [hg]; exact (below_size (by repeat (first | (with_reducible first | exact HB.out | apply below_alloc | apply pw_below_drewN | apply below_drew1 | refine below_set ?_ GE199.out | refine below_set ?_ GE200.out) | exact HB.out))) : w.heap.size ≤ gb209)); have n5_ := Aside0.mk ((by rw [hg]; exact (below_size (by repeat (first | (with_reducible first | exact HB.out | apply below_alloc | apply pw_below_drewN | apply below_drew1 | refine below_set ?_ GE199.out | refine below_set ?_ GE200.out) | exact HB.out))) : w.heap.size ≤ gb209)); have n6_ := Aside0.mk ((by rw [hg]; exact Nat.ne_of_lt (blk_lt (g := gb199) (o := .cells #[.int .i64 a2_0, .int .i64 a2_1] 23 (0, 0)) (by (with_reducible repeat (first | refine blk_drewN ?_ _ | refine blk_drew ?_ | refine blk_alloc ?_ _)); exact BK199.out)) : gb199 ≠ gb209)); have n7_ := Aside0.mk ((by rw [hg]; exact Nat.ne_of_gt (blk_lt (g := gb199) (o := .cells #[.int .i64 a2_0, .int .i64 a2_1] 23 (0, 0)) (by (with_reducible repeat (first | refine blk_drewN ?_ _ | refine blk_drew ?_ | refine blk_alloc ?_ _)); exact BK199.out)) : gb209 ≠ gb199)); have n8_ := Aside0.mk ((by rw [hg]; exact Nat.ne_of_lt (blk_lt (g := gb200) (o := .cells #[.int .i64 a3_0, .int .i64 a3_1] 23 (0, 0)) (by (with_reducible repeat (first | refine blk_drewN ?_ _ | refine blk_drew ?_ | refine blk_alloc ?_ _)); exact BK200.out)) : gb200 ≠ gb209)); have n9_ := Aside0.mk ((by rw [hg]; exact Nat.ne_of_gt (blk_lt (g := gb200) (o := .cells #[.int .i64 a3_0, .int .i64 a3_1] 23 (0, 0)) (by (with_reducible repeat (first | refine blk_drewN ?_ _ | refine blk_drew ?_ | refine blk_alloc ?_ _)); exact BK200.out)) : gb209 ≠ gb200)); clear BK199; clear BK200; clear HB; have BK199 := n0_; have BK200 := n1_; have HB := n2_; have BK209 := n3_; have GW209 := n4_; have GE209 := n5_; have NB199_209 := n6_; have NB209_199 := n7_; have NB200_209 := n8_; have NB209_200 := n9_; clear n0_ n1_ n2_ n3_ n4_ n5_ n6_ n7_ n8_ n9_; clear hb hbox hg; have hnb46 := NB209_199.out; have hnc46 := NB199_209.out; have hnb47 := NB209_200.out; have hnc47 := NB200_209.out; have hcz48_0 : w45.cell? ⟨gb209, 0, none⟩ = some (.int .i64 0) := (blk_cell BK209.out 0).trans rfl; have hcz48_1 : w45.cell? ⟨gb209, 1, none⟩ = some (.int .i64 0) := (blk_cell BK209.out 1).trans rfl; have hfz48_0 := blk_frozen BK209.out 0; have hfz48_1 := blk_frozen BK209.out 1) | ((with_reducible refine gate_callee (f := 19) rfl ?_); refine goesL_ (some 50) rfl rfl Try.func19 (by kernel_rfl) rfl #[.int .i64 a0, .slice A1 l1.length c1] rfl (by (try simp only [List.map_toArray, List.map_cons, List.map_nil]); first | done | rfl | (simp only [List.length_drop, List.length_take]; rfl)) ?_; (with_reducible refine (heronryref12_Reach.calls k a0 _ _ l1 t210 t211 t212 _ ?side1 ?side2 A13.out).mono ?_); (case side1 => exact Kd.C_below HR1.out (by repeat (first | (with_reducible first | exact HB.out | apply below_alloc | apply pw_below_drewN | apply below_drew1 | refine below_set ?_ GE199.out | refine below_set ?_ GE200.out | refine below_set ?_ GE209.out) | exact HB.out))); (case side2 => exact HC1.out); rintro e w49 ⟨rfl, hb⟩; refine ⟨_, rfl, ?_⟩; have n0_ := Aside0.mk (blk_below (g := gb199) (o := .cells #[.int .i64 a2_0, .int .i64 a2_1] 23 (0, 0)) (by (with_reducible repeat (first | refine blk_drewN ?_ _ | refine blk_drew ?_ | refine blk_alloc ?_ _)); refine blk_far ?_ NB199_209.out _; (with_reducible repeat (first | refine blk_drewN ?_ _ | refine blk_drew ?_ | refine blk_alloc ?_ _)); refine blk_far ?_ NB199_209.out _; (with_reducible repeat (first | refine blk_drewN ?_ _ | refine blk_drew ?_ | refine blk_alloc ?_ _)); exact BK199.out) hb); have n1_ := Aside0.mk (blk_below (g := gb200) (o := .cells #[.int .i64 a3_0, .int .i64 a3_1] 23 (0, 0)) (by (with_reducible repeat (first | refine blk_drewN ?_ _ | refine blk_drew ?_ | refine blk_alloc ?_ _)); refine blk_far ?_ NB200_209.out _; (with_reducible repeat (first | refine blk_drewN ?_ _ | refine blk_drew ?_ | refine blk_alloc ?_ _)); refine blk_far ?_ NB200_209.out _; (with_reducible repeat (first | refine blk_drewN ?_ _ | refine blk_drew ?_ | refine blk_alloc ?_ _)); exact BK200.out) hb); have n2_ := Aside0.mk (blk_below (g := gb209) (o := .cells #[.int .i64 t206, .int .i64 t207] 28 (0, 0)) (by (with_reducible repeat (first | refine blk_drewN ?_ _ | refine blk_drew ?_ | refine blk_alloc ?_ _)); refine blk_put (cs := #[.int .i64 t206, .int .i64 0]) ?_ 1 _ rfl; (with_reducible repeat (first | refine blk_drewN ?_ _ | refine blk_drew ?_ | refine blk_alloc ?_ _)); refine blk_put (cs := #[.int .i64 0, .int .i64 0]) ?_ 0 _ rfl; (with_reducible repeat (first | refine blk_drewN ?_ _ | refine blk_drew ?_ | refine blk_alloc ?_ _)); exact BK209.out) hb); have n3_ := Aside0.mk (below_step (by repeat (first | (with_reducible first | exact HB.out | apply below_alloc | apply pw_below_drewN | apply below_drew1 | refine below_set ?_ GE199.out | refine below_set ?_ GE200.out | refine below_set ?_ GE209.out) | exact HB.out)) hb); clear BK199; clear BK200; clear BK209; clear HB; have BK199 := n0_; have BK200 := n1_; have BK209 := n2_; have HB := n3_; clear n0_ n1_ n2_ n3_; (try clear hb); (try clear hb2); (try clear hk); (try clear hi)) | ((with_reducible refine gate_dst (N := 16) rfl ?_); refine box_event ?hg (N := 16) ?hd (cs := #[.int .i64 0, .int .i64 0]) (t := 23) ?hr ?_; (case hd => rfl); (case hg => rfl); (case hr => first | (go_simp; done) | (go_simp; rfl)); intro gb213 hg w50 hbox hb; have n0_ := Aside0.mk (blk_below (g := gb199) (o := .cells #[.int .i64 a2_0, .int .i64 a2_1] 23 (0, 0)) (by (with_reducible repeat (first | refine blk_drewN ?_ _ | refine blk_drew ?_ | refine blk_alloc ?_ _)); exact BK199.out) hb); have n1_ := Aside0.mk (blk_below (g := gb200) (o := .cells #[.int .i64 a3_0, .int .i64 a3_1] 23 (0, 0)) (by (with_reducible repeat (first | refine blk_drewN ?_ _ | refine blk_drew ?_ | refine blk_alloc ?_ _)); exact BK200.out) hb); have n2_ := Aside0.mk (blk_below (g := gb209) (o := .cells #[.int .i64 t206, .int .i64 t207] 28 (0, 0)) (by (with_reducible repeat (first | refine blk_drewN ?_ _ | refine blk_drew ?_ | refine blk_alloc ?_ _)); exact BK209.out) hb); have n3_ := Aside0.mk (below_step (by repeat (first | (with_reducible first | exact HB.out | apply below_alloc | apply pw_below_drewN | apply below_drew1 | refine below_set ?_ GE199.out | refine below_set ?_ GE200.out | refine below_set ?_ GE209.out) | exact HB.out)) hb); have n4_ := Aside0.mk (hbox); have n5_ := Aside0.mk ((by rw [hg]; exact (below_size (by repeat (first | (with_reducible first | exact HB.out | apply below_alloc | apply pw_below_drewN | apply below_drew1 | refine below_set ?_ GE199.out | refine below_set ?_ GE200.out | refine below_set ?_ GE209.out) | exact HB.out))) : w.heap.size ≤ gb213)); have n6_ := Aside0.mk ((by rw [hg]; exact (below_size (by repeat (first | (with_reducible first | exact HB.out | apply below_alloc | apply pw_below_drewN | apply below_drew1 | refine below_set ?_ GE199.out | refine below_set ?_ GE200.out | refine below_set ?_ GE209.out) | exact HB.out))) : w.heap.size ≤ gb213)); have n7_ := Aside0.mk ((by rw [hg]; exact Nat.ne_of_lt (blk_lt (g := gb199) (o := .cells #[.int .i64 a2_0, .int .i64 a2_1] 23 (0, 0)) (by (with_reducible repeat (first | refine blk_drewN ?_ _ | refine blk_drew ?_ | refine blk_alloc ?_ _)); exact BK199.out)) : gb199 ≠ gb213)); have n8_ := Aside0.mk ((by rw [hg]; exact Nat.ne_of_gt (blk_lt (g := gb199) (o := .cells #[.int .i64 a2_0, .int .i64 a2_1] 23 (0, 0)) (by (with_reducible repeat (first | refine blk_drewN ?_ _ | refine blk_drew ?_ | refine blk_alloc ?_ _)); exact BK199.out)) : gb213 ≠ gb199)); have n9_ := Aside0.mk ((by rw [hg]; exact Nat.ne_of_lt (blk_lt (g := gb200) (o := .cells #[.int .i64 a3_0, .int .i64 a3_1] 23 (0, 0)) (by (with_reducible repeat (first | refine blk_drewN ?_ _ | refine blk_drew ?_ | refine blk_alloc ?_ _)); exact BK200.out)) : gb200 ≠ gb213)); have n10_ := Aside0.mk ((by rw [hg]; exact Nat.ne_of_gt (blk_lt (g := gb200) (o := .cells #[.int .i64 a3_0, .int .i64 a3_1] 23 (0, 0)) (by (with_reducible repeat (first | refine blk_drewN ?_ _ | refine blk_drew ?_ | refine blk_alloc ?_ _)); exact BK200.out)) : gb213 ≠ gb200)); have n11_ := Aside0.mk ((by rw [hg]; exact Nat.ne_of_lt (blk_lt (g := gb209) (o := .cells #[.int .i64 t206, .int .i64 t207] 28 (0, 0)) (by (with_reducible repeat (first | refine blk_drewN ?_ _ | refine blk_drew ?_ | refine blk_alloc ?_ _)); exact BK209.out)) : gb209 ≠ gb213)); have n12_ := Aside0.mk ((by rw [hg]; exact Nat.ne_of_gt (blk_lt (g := gb209) (o := .cells #[.int .i64 t206, .int .i64 t207] 28 (0, 0)) (by (with_reducible repeat (first | refine blk_drewN ?_ _ | refine blk_drew ?_ | refine blk_alloc ?_ _)); exact BK209.out)) : gb213 ≠ gb209)); clear BK199; clear BK200; clear BK209; clear HB; have BK199 := n0_; have BK200 := n1_; have BK209 := n2_; have HB := n3_; have BK213 := n4_; have GW213 := n5_; have GE213 := n6_; have NB199_213 := n7_; have NB213_199 := n8_; have NB200_213 := n9_; have NB213_200 := n10_; have NB209_213 := n11_; have NB213_209 := n12_; clear n0_ n1_ n2_ n3_ n4_ n5_ n6_ n7_ n8_ n9_ n10_ n11_ n12_; clear hb hbox hg; have hnb51 := NB213_199.out; have hnc51 := NB199_213.out; have hnb52 := NB213_200.out; have hnc52 := NB200_213.out; have hnb53 := NB213_209.out; have hnc53 := NB209_213.out; have hcz54_0 : w50.cell? ⟨gb213, 0, none⟩ = some (.int .i64 0) := (blk_cell BK213.out 0).trans rfl; have hcz54_1 : w50.cell? ⟨gb213, 1, none⟩ = some (.int .i64 0) := (blk_cell BK213.out 1).trans rfl; have hfz54_0 := blk_frozen BK213.out 0; have hfz54_1 := blk_frozen BK213.out 1; have hnb55 := NB199_200.out; have hnc55 := NB200_199.out; have hcz56_0 : w50.cell? ⟨gb199, 0, none⟩ = some (.int .i64 a2_0) := (blk_cell BK199.out 0).trans rfl; have hcz56_1 : w50.cell? ⟨gb199, 1, none⟩ = some (.int .i64 a2_1) := (blk_cell BK199.out 1).trans rfl; have hfz56_0 := blk_frozen BK199.out 0; have hfz56_1 := blk_frozen BK199.out 1) | ((with_reducible refine gate_callee (f := 12) rfl ?_); refine goesL_ (some 55) rfl rfl Try.func12 (by kernel_rfl) rfl #[.agg #[.int .i64 a2_0, .int .i64 a2_1]] rfl (by (try simp only [List.map_toArray, List.map_cons, List.map_nil]); first | done | rfl | (simp only [List.length_drop, List.length_take]; rfl)) ?_; (with_reducible refine (heronrylaw12_ours.calls a2_0 a2_1 t214 t215 _ A14.out).mono ?_); rintro e w57 ⟨rfl, hb⟩; refine ⟨_, rfl, ?_⟩; have n0_ := Aside0.mk (blk_below (g := gb199) (o := .cells #[.int .i64 a2_0, .int .i64 a2_1] 23 (0, 0)) (by (with_reducible repeat (first | refine blk_drewN ?_ _ | refine blk_drew ?_ | refine blk_alloc ?_ _)); refine blk_far ?_ NB199_213.out _; (with_reducible repeat (first | refine blk_drewN ?_ _ | refine blk_drew ?_ | refine blk_alloc ?_ _)); refine blk_far ?_ NB199_213.out _; (with_reducible repeat (first | refine blk_drewN ?_ _ | refine blk_drew ?_ | refine blk_alloc ?_ _)); exact BK199.out) hb); have n1_ := Aside0.mk (blk_below (g := gb200) (o := .cells #[.int .i64 a3_0, .int .i64 a3_1] 23 (0, 0)) (by (with_reducible repeat (first | refine blk_drewN ?_ _ | refine blk_drew ?_ | refine blk_alloc ?_ _)); refine blk_far ?_ NB200_213.out _; (with_reducible repeat (first | refine blk_drewN ?_ _ | refine blk_drew ?_ | refine blk_alloc ?_ _)); refine blk_far ?_ NB200_213.out _; (with_reducible repeat (first | refine blk_drewN ?_ _ | refine blk_drew ?_ | refine blk_alloc ?_ _)); exact BK200.out) hb); have n2_ := Aside0.mk (blk_below (g := gb209) (o := .cells #[.int .i64 t206, .int .i64 t207] 28 (0, 0)) (by (with_reducible repeat (first | refine blk_drewN ?_ _ | refine blk_drew ?_ | refine blk_alloc ?_ _)); refine blk_far ?_ NB209_213.out _; (with_reducible repeat (first | refine blk_drewN ?_ _ | refine blk_drew ?_ | refine blk_alloc ?_ _)); refine blk_far ?_ NB209_213.out _; (with_reducible repeat (first | refine blk_drewN ?_ _ | refine blk_drew ?_ | refine blk_alloc ?_ _)); exact BK209.out) hb); have n3_ := Aside0.mk (blk_below (g := gb213) (o := .cells #[.int .i64 t210, .int .i64 t211] 23 (0, 0)) (by (with_reducible repeat (first | refine blk_drewN ?_ _ | refine blk_drew ?_ | refine blk_alloc ?_ _)); refine blk_put (cs := #[.int .i64 t210, .int .i64 0]) ?_ 1 _ rfl; (with_reducible repeat (first | refine blk_drewN ?_ _ | refine blk_drew ?_ | refine blk_alloc ?_ _)); refine blk_put (cs := #[.int .i64 0, .int .i64 0]) ?_ 0 _ rfl; (with_reducible repeat (first | refine blk_drewN ?_ _ | refine blk_drew ?_ | refine blk_alloc ?_ _)); exact BK213.out) hb); have n4_ := Aside0.mk (below_step (by repeat (first | (with_reducible first | exact HB.out | apply below_alloc | apply pw_below_drewN | apply below_drew1 | refine below_set ?_ GE199.out | refine below_set ?_ GE200.out | refine below_set ?_ GE209.out | refine below_set ?_ GE213.out) | exact HB.out)) hb); clear BK199; clear BK200; clear BK209; clear BK213; clear HB; have BK199 := n0_; have BK200 := n1_; have BK209 := n2_; have BK213 := n3_; have HB := n4_; clear n0_ n1_ n2_ n3_ n4_; (try clear hb); (try clear hb2); (try clear hk); (try clear hi)) | ((with_reducible refine gate_callee (f := 17) rfl ?_); refine goesL_ (some 58) rfl rfl Try.func17 (by kernel_rfl) rfl #[.agg #[.int .i64 t214, .int .i64 t215], .int .i64 a0, .slice A1 l1.length c1] rfl (by (try simp only [List.map_toArray, List.map_cons, List.map_nil]); first | done | rfl | (simp only [List.length_drop, List.length_take]; rfl)) ?_; (with_reducible refine (span_Room.calls k t214 t215 a0 _ _ l1 t216 t217 _ ?side1 ?side2 A15.out).mono ?_); (case side1 => repeat (first | exact (Kd.C_below HR1.out HB.out) | (with_reducible refine Kd.C_alloc ?_ _) | (with_reducible refine Kd.C_drewN ?_ _) | (with_reducible refine Kd.C_drew ?_))); (case side2 => exact HC1.out); rintro e w58 ⟨rfl, hb⟩; refine ⟨_, rfl, ?_⟩; have n0_ := Aside0.mk (blk_below (g := gb199) (o := .cells #[.int .i64 a2_0, .int .i64 a2_1] 23 (0, 0)) (by (with_reducible repeat (first | refine blk_drewN ?_ _ | refine blk_drew ?_ | refine blk_alloc ?_ _)); exact BK199.out) hb); have n1_ := Aside0.mk (blk_below (g := gb200) (o := .cells #[.int .i64 a3_0, .int .i64 a3_1] 23 (0, 0)) (by (with_reducible repeat (first | refine blk_drewN ?_ _ | refine blk_drew ?_ | refine blk_alloc ?_ _)); exact BK200.out) hb); have n2_ := Aside0.mk (blk_below (g := gb209) (o := .cells #[.int .i64 t206, .int .i64 t207] 28 (0, 0)) (by (with_reducible repeat (first | refine blk_drewN ?_ _ | refine blk_drew ?_ | refine blk_alloc ?_ _)); exact BK209.out) hb); have n3_ := Aside0.mk (blk_below (g := gb213) (o := .cells #[.int .i64 t210, .int .i64 t211] 23 (0, 0)) (by (with_reducible repeat (first | refine blk_drewN ?_ _ | refine blk_drew ?_ | refine blk_alloc ?_ _)); exact BK213.out) hb); have n4_ := Aside0.mk (below_step (by repeat (first | (with_reducible first | exact HB.out | apply below_alloc | apply pw_below_drewN | apply below_drew1 | refine below_set ?_ GE199.out | refine below_set ?_ GE200.out | refine below_set ?_ GE209.out | refine below_set ?_ GE213.out) | exact HB.out)) hb); clear BK199; clear BK200; clear BK209; clear BK213; clear HB; have BK199 := n0_; have BK200 := n1_; have BK209 := n2_; have BK213 := n3_; have HB := n4_; clear n0_ n1_ n2_ n3_ n4_; (try clear hb); (try clear hb2); (try clear hk); (try clear hi); have hcz59_0 : w58.cell? ⟨gb199, 0, none⟩ = some (.int .i64 a2_0) := (blk_cell BK199.out 0).trans rfl; have hcz59_1 : w58.cell? ⟨gb199, 1, none⟩ = some (.int .i64 a2_1) := (blk_cell BK199.out 1).trans rfl; have hfz59_0 := blk_frozen BK199.out 0; have hfz59_1 := blk_frozen BK199.out 1) | ((with_reducible refine gate_callee (f := 20) rfl ?_); refine goesL_ (some 65) rfl rfl Try.func20 (by kernel_rfl) rfl #[.agg #[.int .i64 a2_0, .int .i64 a2_1], .int .i64 a0, .slice A1 l1.length c1] rfl (by (try simp only [List.map_toArray, List.map_cons, List.map_nil]); first | done | rfl | (simp only [List.length_drop, List.length_take]; rfl)) ?_; (with_reducible refine (heronryref12_Room.calls k a2_0 a2_1 a0 _ _ l1 t218 t219 _ ?side1 ?side2 A16.out).mono ?_); (case side1 => repeat (first | exact (Kd.C_below HR1.out HB.out) | (with_reducible refine Kd.C_alloc ?_ _) | (with_reducible refine Kd.C_drewN ?_ _) | (with_reducible refine Kd.C_drew ?_))); (case side2 => exact HC1.out); rintro e w60 ⟨rfl, hb⟩; refine ⟨_, rfl, ?_⟩; have n0_ := Aside0.mk (blk_below (g := gb199) (o := .cells #[.int .i64 a2_0, .int .i64 a2_1] 23 (0, 0)) (by (with_reducible repeat (first | refine blk_drewN ?_ _ | refine blk_drew ?_ | refine blk_alloc ?_ _)); exact BK199.out) hb); have n1_ := Aside0.mk (blk_below (g := gb200) (o := .cells #[.int .i64 a3_0, .int .i64 a3_1] 23 (0, 0)) (by (with_reducible repeat (first | refine blk_drewN ?_ _ | refine blk_drew ?_ | refine blk_alloc ?_ _)); exact BK200.out) hb); have n2_ := Aside0.mk (blk_below (g := gb209) (o := .cells #[.int .i64 t206, .int .i64 t207] 28 (0, 0)) (by (with_reducible repeat (first | refine blk_drewN ?_ _ | refine blk_drew ?_ | refine blk_alloc ?_ _)); exact BK209.out) hb); have n3_ := Aside0.mk (blk_below (g := gb213) (o := .cells #[.int .i64 t210, .int .i64 t211] 23 (0, 0)) (by (with_reducible repeat (first | refine blk_drewN ?_ _ | refine blk_drew ?_ | refine blk_alloc ?_ _)); exact BK213.out) hb); have n4_ := Aside0.mk (below_step (by repeat (first | (with_reducible first | exact HB.out | apply below_alloc | apply pw_below_drewN | apply below_drew1 | refine below_set ?_ GE199.out | refine below_set ?_ GE200.out | refine below_set ?_ GE209.out | refine below_set ?_ GE213.out) | exact HB.out)) hb); clear BK199; clear BK200; clear BK209; clear BK213; clear HB; have BK199 := n0_; have BK200 := n1_; have BK209 := n2_; have BK213 := n3_; have HB := n4_; clear n0_ n1_ n2_ n3_ n4_; (try clear hb); (try clear hb2); (try clear hk); (try clear hi)))
                        have n0_ := Aside0.mk (blk_drew BK199.out)
                        have n1_ := Aside0.mk (blk_drew BK200.out)
                        have n2_ := Aside0.mk (blk_drew BK209.out)
                        have n3_ := Aside0.mk (blk_drew BK213.out)
                        have n4_ := Aside0.mk (below_drew1 HB.out)
                        clear BK199
                        clear BK200
                        clear BK209
                        clear BK213
                        clear HB
                        have BK199 := n0_
                        have BK200 := n1_
                        have BK209 := n2_
                        have BK213 := n3_
                        have HB := n4_
                        clear n0_ n1_ n2_ n3_ n4_
                        refine start_ (n := 11) (S := fun w' => w'.cell? ⟨gb199, 0, none⟩ = some (.int .i64 a2_0) ∧ w'.cell? ⟨gb199, 1, none⟩ = some (.int .i64 a2_1) ∧ w'.cell? ⟨gb200, 0, none⟩ = some (.int .i64 a3_0) ∧ w'.cell? ⟨gb200, 1, none⟩ = some (.int .i64 a3_1)) (ds := []) #[false, false, false, false, false, false, false, false, false, false, false] (by kernel_rfl) rfl rfl ⟨(blk_cell BK199.out 0).trans rfl, (blk_cell BK199.out 1).trans rfl, (blk_cell BK200.out 0).trans rfl, (blk_cell BK200.out 1).trans rfl⟩ (fun hHeld => ?_); refine with_tabW heronrylaw12_SpanIs.tab10 heronrylaw12_SpanIs.bits10 (fun HT_ HW_ => ?_)
                        generalize w60.drew = w61 at BK199 BK200 BK209 BK213 HB hHeld ⊢
                        refine take_ (i := 0) (N := some 69) (v := ?_) (a' := ?_) #[true, false, false, false, false, false, false, false, false, false, false] rfl rfl (take_ofW HT_.out HW_.out (by kernel_rfl)) (fun _ _ _ h => h) (Or.inl ⟨by rfl, ?_⟩) hHeld ?_ ?_
                        rotate_left
                        · rintro w' ⟨s0, s1, s2, s3⟩
                          go_simp
                          with_reducible rfl
                        rotate_left
                        · simp only [Act.put, List.setIfInBounds_toArray, List.set_cons_zero, List.set_cons_succ, i64_w, i32_w]
                          rfl
                        refine take_ (i := 2) (N := some 71) (v := ?_) (a' := ?_) #[true, false, true, false, false, false, false, false, false, false, false] rfl rfl (take_ofW HT_.out HW_.out (by kernel_rfl)) (fun _ _ _ h => h) (Or.inl ⟨by rfl, ?_⟩) hHeld ?_ ?_
                        rotate_left
                        · rintro w' ⟨s0, s1, s2, s3⟩
                          go_simp
                          with_reducible rfl
                        rotate_left
                        · simp only [Act.put, List.setIfInBounds_toArray, List.set_cons_zero, List.set_cons_succ, i64_w, i32_w]
                          rfl
                        refine join_ (σ := Nat) 2 #[true, true, true, true, true, true, true, true, true, false, false] (fun s_ => [(70, .agg #[.int .i64 t220, .int .i64 t221]), (72, .agg #[.int .i64 t222, .int .i64 t223]), (73, .tuple #[.agg #[.int .i64 t224, .int .i64 t225], .bool t226]), (22, .pointer (some ⟨s_, 0, none⟩)), (68, .tuple #[.agg #[.int .i64 t224, .int .i64 t225], .bool t226]), (74, .agg #[.int .i64 t224, .int .i64 t225]), (75, .bool t226)]) (fun s_ w' => (w'.cell? ⟨gb199, 0, none⟩ = some (.int .i64 a2_0) ∧ w'.cell? ⟨gb199, 1, none⟩ = some (.int .i64 a2_1) ∧ w'.cell? ⟨gb200, 0, none⟩ = some (.int .i64 a3_0) ∧ w'.cell? ⟨gb200, 1, none⟩ = some (.int .i64 a3_1)) ∧ (w'.heap[gb199]? = some (.cells #[.int .i64 a2_0, .int .i64 a2_1] 23 (0, 0))) ∧ (w'.heap[gb200]? = some (.cells #[.int .i64 a3_0, .int .i64 a3_1] 23 (0, 0))) ∧ (w'.heap[gb209]? = some (.cells #[.int .i64 t206, .int .i64 t207] 28 (0, 0))) ∧ (w'.heap[gb213]? = some (.cells #[.int .i64 t210, .int .i64 t211] 23 (0, 0))) ∧ (w'.heap[s_]? = some (.cells #[.int .i64 0, .int .i64 0] 28 (0, 0))) ∧ (w.heap.size ≤ s_) ∧ (w.heap.size ≤ s_) ∧ (gb199 ≠ s_) ∧ (s_ ≠ gb199) ∧ (gb200 ≠ s_) ∧ (s_ ≠ gb200) ∧ (gb209 ≠ s_) ∧ (s_ ≠ gb209) ∧ (gb213 ≠ s_) ∧ (s_ ≠ gb213) ∧ (Below w.heap.size w w')) ?_ ?_
                        rotate_left
                        · intro hCont
                          refine two_ (i := 1) (j := 8) (Ni := some 70) (Nj := some 22) #[true, true, true, false, false, false, false, false, false, false, false] #[true, false, true, false, false, false, false, false, true, false, false] rfl rfl rfl rfl (two_of HT_.out (by kernel_rfl)) (by decide) (by decide) (fun K hK => ?_) (fun K hK => ?_)
                          · skip
                            refine goes_ Try.func12 (by kernel_rfl) rfl #[.agg #[.int .i64 a2_0, .int .i64 a2_1]] (by rfl) rfl rfl (by (try simp only [List.map_toArray, List.map_cons, List.map_nil]); first | done | rfl | (simp only [List.length_drop, List.length_take]; rfl)) ?_
                            with_reducible refine (heronrylaw12_ours.calls a2_0 a2_1 t220 t221 _ A17.out).mono ?_
                            rintro e w62 ⟨rfl, hb⟩
                            refine ⟨_, rfl, ?_⟩
                            have n0_ := Aside0.mk (blk_below (g := gb199) (o := .cells #[.int .i64 a2_0, .int .i64 a2_1] 23 (0, 0)) (by (with_reducible repeat (first | refine blk_drewN ?_ _ | refine blk_drew ?_ | refine blk_alloc ?_ _)); exact BK199.out) hb)
                            have n1_ := Aside0.mk (blk_below (g := gb200) (o := .cells #[.int .i64 a3_0, .int .i64 a3_1] 23 (0, 0)) (by (with_reducible repeat (first | refine blk_drewN ?_ _ | refine blk_drew ?_ | refine blk_alloc ?_ _)); exact BK200.out) hb)
                            have n2_ := Aside0.mk (blk_below (g := gb209) (o := .cells #[.int .i64 t206, .int .i64 t207] 28 (0, 0)) (by (with_reducible repeat (first | refine blk_drewN ?_ _ | refine blk_drew ?_ | refine blk_alloc ?_ _)); exact BK209.out) hb)
                            have n3_ := Aside0.mk (blk_below (g := gb213) (o := .cells #[.int .i64 t210, .int .i64 t211] 23 (0, 0)) (by (with_reducible repeat (first | refine blk_drewN ?_ _ | refine blk_drew ?_ | refine blk_alloc ?_ _)); exact BK213.out) hb)
                            have n4_ := Aside0.mk (below_step (by repeat (first | (with_reducible first | exact HB.out | apply below_alloc | apply pw_below_drewN | apply below_drew1 | refine below_set ?_ GE199.out | refine below_set ?_ GE200.out | refine below_set ?_ GE209.out | refine below_set ?_ GE213.out) | exact HB.out)) hb)
                            clear BK199
                            clear BK200
                            clear BK209
                            clear BK213
                            clear HB
                            have BK199 := n0_
                            have BK200 := n1_
                            have BK209 := n2_
                            have BK213 := n3_
                            have HB := n4_
                            clear n0_ n1_ n2_ n3_ n4_
                            (try clear hb)
                            (try clear hb2)
                            (try clear hk)
                            (try clear hi)
                            refine hK.out _ _ ⟨(blk_cell BK199.out 0).trans rfl, (blk_cell BK199.out 1).trans rfl, (blk_cell BK200.out 0).trans rfl, (blk_cell BK200.out 1).trans rfl⟩ (fun hHeld => ?_)
                            clear hK K
                            refine norm_ (a' := ?_) ?_ ?_
                            rotate_left
                            · show Act.put _ (some 70) _ = _
                              simp only [Act.put, List.setIfInBounds_toArray, List.set_cons_zero, List.set_cons_succ, i64_w, i32_w]
                              rfl
                            refine two_ (i := 3) (j := 8) (Ni := some 72) (Nj := some 22) #[true, true, true, true, false, false, false, false, false, false, false] #[true, true, true, false, false, false, false, false, true, false, false] rfl rfl rfl rfl (two_of HT_.out (by kernel_rfl)) (by decide) (by decide) (fun K hK => ?_) (fun K hK => ?_)
                            · skip
                              refine goes_ Try.func12 (by kernel_rfl) rfl #[.agg #[.int .i64 a3_0, .int .i64 a3_1]] (by rfl) rfl rfl (by (try simp only [List.map_toArray, List.map_cons, List.map_nil]); first | done | rfl | (simp only [List.length_drop, List.length_take]; rfl)) ?_
                              with_reducible refine (heronrylaw12_ours.calls a3_0 a3_1 t222 t223 _ A18.out).mono ?_
                              rintro e w63 ⟨rfl, hb⟩
                              refine ⟨_, rfl, ?_⟩
                              have n0_ := Aside0.mk (blk_below (g := gb199) (o := .cells #[.int .i64 a2_0, .int .i64 a2_1] 23 (0, 0)) (by (with_reducible repeat (first | refine blk_drewN ?_ _ | refine blk_drew ?_ | refine blk_alloc ?_ _)); exact BK199.out) hb)
                              have n1_ := Aside0.mk (blk_below (g := gb200) (o := .cells #[.int .i64 a3_0, .int .i64 a3_1] 23 (0, 0)) (by (with_reducible repeat (first | refine blk_drewN ?_ _ | refine blk_drew ?_ | refine blk_alloc ?_ _)); exact BK200.out) hb)
                              have n2_ := Aside0.mk (blk_below (g := gb209) (o := .cells #[.int .i64 t206, .int .i64 t207] 28 (0, 0)) (by (with_reducible repeat (first | refine blk_drewN ?_ _ | refine blk_drew ?_ | refine blk_alloc ?_ _)); exact BK209.out) hb)
                              have n3_ := Aside0.mk (blk_below (g := gb213) (o := .cells #[.int .i64 t210, .int .i64 t211] 23 (0, 0)) (by (with_reducible repeat (first | refine blk_drewN ?_ _ | refine blk_drew ?_ | refine blk_alloc ?_ _)); exact BK213.out) hb)
                              have n4_ := Aside0.mk (below_step (by repeat (first | (with_reducible first | exact HB.out | apply below_alloc | apply pw_below_drewN | apply below_drew1 | refine below_set ?_ GE199.out | refine below_set ?_ GE200.out | refine below_set ?_ GE209.out | refine below_set ?_ GE213.out) | exact HB.out)) hb)
                              clear BK199
                              clear BK200
                              clear BK209
                              clear BK213
                              clear HB
                              have BK199 := n0_
                              have BK200 := n1_
                              have BK209 := n2_
                              have BK213 := n3_
                              have HB := n4_
                              clear n0_ n1_ n2_ n3_ n4_
                              (try clear hb)
                              (try clear hb2)
                              (try clear hk)
                              (try clear hi)
                              refine hK.out _ _ ⟨(blk_cell BK199.out 0).trans rfl, (blk_cell BK199.out 1).trans rfl, (blk_cell BK200.out 0).trans rfl, (blk_cell BK200.out 1).trans rfl⟩ (fun hHeld => ?_)
                              clear hK K
                              refine norm_ (a' := ?_) ?_ ?_
                              rotate_left
                              · show Act.put _ (some 72) _ = _
                                simp only [Act.put, List.setIfInBounds_toArray, List.set_cons_zero, List.set_cons_succ, i64_w, i32_w]
                                rfl
                              refine two_ (i := 4) (j := 8) (Ni := some 73) (Nj := some 22) #[true, true, true, true, true, false, false, false, false, false, false] #[true, true, true, true, false, false, false, false, true, false, false] rfl rfl rfl rfl (two_of HT_.out (by kernel_rfl)) (by decide) (by decide) (fun K hK => ?_) (fun K hK => ?_)
                              · skip
                                refine goes_ Try.func16 (by kernel_rfl) rfl #[.agg #[.int .i64 t220, .int .i64 t221], .agg #[.int .i64 t222, .int .i64 t223]] (by rfl) rfl rfl (by (try simp only [List.map_toArray, List.map_cons, List.map_nil]); first | done | rfl | (simp only [List.length_drop, List.length_take]; rfl)) ?_
                                with_reducible refine (span_Meet.calls t220 t221 t222 t223 t224 t225 t226 _ A19.out).mono ?_
                                rintro e w64 ⟨rfl, hb⟩
                                refine ⟨_, rfl, ?_⟩
                                have n0_ := Aside0.mk (blk_below (g := gb199) (o := .cells #[.int .i64 a2_0, .int .i64 a2_1] 23 (0, 0)) (by (with_reducible repeat (first | refine blk_drewN ?_ _ | refine blk_drew ?_ | refine blk_alloc ?_ _)); exact BK199.out) hb)
                                have n1_ := Aside0.mk (blk_below (g := gb200) (o := .cells #[.int .i64 a3_0, .int .i64 a3_1] 23 (0, 0)) (by (with_reducible repeat (first | refine blk_drewN ?_ _ | refine blk_drew ?_ | refine blk_alloc ?_ _)); exact BK200.out) hb)
                                have n2_ := Aside0.mk (blk_below (g := gb209) (o := .cells #[.int .i64 t206, .int .i64 t207] 28 (0, 0)) (by (with_reducible repeat (first | refine blk_drewN ?_ _ | refine blk_drew ?_ | refine blk_alloc ?_ _)); exact BK209.out) hb)
                                have n3_ := Aside0.mk (blk_below (g := gb213) (o := .cells #[.int .i64 t210, .int .i64 t211] 23 (0, 0)) (by (with_reducible repeat (first | refine blk_drewN ?_ _ | refine blk_drew ?_ | refine blk_alloc ?_ _)); exact BK213.out) hb)
                                have n4_ := Aside0.mk (below_step (by repeat (first | (with_reducible first | exact HB.out | apply below_alloc | apply pw_below_drewN | apply below_drew1 | refine below_set ?_ GE199.out | refine below_set ?_ GE200.out | refine below_set ?_ GE209.out | refine below_set ?_ GE213.out) | exact HB.out)) hb)
                                clear BK199
                                clear BK200
                                clear BK209
                                clear BK213
                                clear HB
                                have BK199 := n0_
                                have BK200 := n1_
                                have BK209 := n2_
                                have BK213 := n3_
                                have HB := n4_
                                clear n0_ n1_ n2_ n3_ n4_
                                (try clear hb)
                                (try clear hb2)
                                (try clear hk)
                                (try clear hi)
                                refine hK.out _ _ ⟨(blk_cell BK199.out 0).trans rfl, (blk_cell BK199.out 1).trans rfl, (blk_cell BK200.out 0).trans rfl, (blk_cell BK200.out 1).trans rfl⟩ (fun hHeld => ?_)
                                clear hK K
                                refine norm_ (a' := ?_) ?_ ?_
                                rotate_left
                                · show Act.put _ (some 73) _ = _
                                  simp only [Act.put, List.setIfInBounds_toArray, List.set_cons_zero, List.set_cons_succ, i64_w, i32_w]
                                  rfl
                                refine pure_ (i := 5) (N := some 68) (v := ?_) (a' := ?_) #[true, true, true, true, true, true, false, false, false, false, false] rfl rfl (any_of HT_.out (by kernel_rfl)) (fun _ _ _ h => h) (Or.inl ⟨by rfl, ?_⟩) ?_ ?_
                                rotate_left
                                · intro w'
                                  go_simp
                                  with_reducible rfl
                                rotate_left
                                · simp only [Act.put, List.setIfInBounds_toArray, List.set_cons_zero, List.set_cons_succ, i64_w, i32_w]
                                  rfl
                                refine pure_ (i := 6) (N := some 74) (v := ?_) (a' := ?_) #[true, true, true, true, true, true, true, false, false, false, false] rfl rfl (any_of HT_.out (by kernel_rfl)) (fun _ _ _ h => h) (Or.inl ⟨by rfl, ?_⟩) ?_ ?_
                                rotate_left
                                · intro w'
                                  go_simp
                                  with_reducible rfl
                                rotate_left
                                · simp only [Act.put, List.setIfInBounds_toArray, List.set_cons_zero, List.set_cons_succ, i64_w, i32_w]
                                  rfl
                                refine pure_ (i := 7) (N := some 75) (v := ?_) (a' := ?_) #[true, true, true, true, true, true, true, true, false, false, false] rfl rfl (any_of HT_.out (by kernel_rfl)) (fun _ _ _ h => h) (Or.inl ⟨by rfl, ?_⟩) ?_ ?_
                                rotate_left
                                · intro w'
                                  go_simp
                                  with_reducible rfl
                                rotate_left
                                · simp only [Act.put, List.setIfInBounds_toArray, List.set_cons_zero, List.set_cons_succ, i64_w, i32_w]
                                  rfl
                                refine one_ (i := 8) (N := some 22) #[true, true, true, true, true, true, true, true, true, false, false] rfl rfl (one_of HT_.out (by kernel_rfl)) (by decide) (fun K hK => ?_)
                                refine box_step ?hg (N := 22) ?hd (cs := #[.int .i64 0, .int .i64 0]) (t := 28) ?hr ?_; (case hd => rfl); (case hg => rfl); (case hr => first | (go_simp; done) | (go_simp; rfl))
                                intro gb227 hg w65 hbox hb
                                have n0_ := Aside0.mk (blk_below (g := gb199) (o := .cells #[.int .i64 a2_0, .int .i64 a2_1] 23 (0, 0)) (by (with_reducible repeat (first | refine blk_drewN ?_ _ | refine blk_drew ?_ | refine blk_alloc ?_ _)); exact BK199.out) hb)
                                have n1_ := Aside0.mk (blk_below (g := gb200) (o := .cells #[.int .i64 a3_0, .int .i64 a3_1] 23 (0, 0)) (by (with_reducible repeat (first | refine blk_drewN ?_ _ | refine blk_drew ?_ | refine blk_alloc ?_ _)); exact BK200.out) hb)
                                have n2_ := Aside0.mk (blk_below (g := gb209) (o := .cells #[.int .i64 t206, .int .i64 t207] 28 (0, 0)) (by (with_reducible repeat (first | refine blk_drewN ?_ _ | refine blk_drew ?_ | refine blk_alloc ?_ _)); exact BK209.out) hb)
                                have n3_ := Aside0.mk (blk_below (g := gb213) (o := .cells #[.int .i64 t210, .int .i64 t211] 23 (0, 0)) (by (with_reducible repeat (first | refine blk_drewN ?_ _ | refine blk_drew ?_ | refine blk_alloc ?_ _)); exact BK213.out) hb)
                                have n4_ := Aside0.mk (below_step (by repeat (first | (with_reducible first | exact HB.out | apply below_alloc | apply pw_below_drewN | apply below_drew1 | refine below_set ?_ GE199.out | refine below_set ?_ GE200.out | refine below_set ?_ GE209.out | refine below_set ?_ GE213.out) | exact HB.out)) hb)
                                have n5_ := Aside0.mk (hbox)
                                have n6_ := Aside0.mk ((by rw [hg]; exact (below_size (by repeat (first | (with_reducible first | exact HB.out | apply below_alloc | apply pw_below_drewN | apply below_drew1 | refine below_set ?_ GE199.out | refine below_set ?_ GE200.out | refine below_set ?_ GE209.out | refine below_set ?_ GE213.out) | exact HB.out))) : w.heap.size ≤ gb227))
                                have n7_ := Aside0.mk ((by rw [hg]; exact (below_size (by repeat (first | (with_reducible first | exact HB.out | apply below_alloc | apply pw_below_drewN | apply below_drew1 | refine below_set ?_ GE199.out | refine below_set ?_ GE200.out | refine below_set ?_ GE209.out | refine below_set ?_ GE213.out) | exact HB.out))) : w.heap.size ≤ gb227))
                                have n8_ := Aside0.mk ((by rw [hg]; exact Nat.ne_of_lt (blk_lt (g := gb199) (o := .cells #[.int .i64 a2_0, .int .i64 a2_1] 23 (0, 0)) (by (with_reducible repeat (first | refine blk_drewN ?_ _ | refine blk_drew ?_ | refine blk_alloc ?_ _)); exact BK199.out)) : gb199 ≠ gb227))
                                have n9_ := Aside0.mk ((by rw [hg]; exact Nat.ne_of_gt (blk_lt (g := gb199) (o := .cells #[.int .i64 a2_0, .int .i64 a2_1] 23 (0, 0)) (by (with_reducible repeat (first | refine blk_drewN ?_ _ | refine blk_drew ?_ | refine blk_alloc ?_ _)); exact BK199.out)) : gb227 ≠ gb199))
                                have n10_ := Aside0.mk ((by rw [hg]; exact Nat.ne_of_lt (blk_lt (g := gb200) (o := .cells #[.int .i64 a3_0, .int .i64 a3_1] 23 (0, 0)) (by (with_reducible repeat (first | refine blk_drewN ?_ _ | refine blk_drew ?_ | refine blk_alloc ?_ _)); exact BK200.out)) : gb200 ≠ gb227))
                                have n11_ := Aside0.mk ((by rw [hg]; exact Nat.ne_of_gt (blk_lt (g := gb200) (o := .cells #[.int .i64 a3_0, .int .i64 a3_1] 23 (0, 0)) (by (with_reducible repeat (first | refine blk_drewN ?_ _ | refine blk_drew ?_ | refine blk_alloc ?_ _)); exact BK200.out)) : gb227 ≠ gb200))
                                have n12_ := Aside0.mk ((by rw [hg]; exact Nat.ne_of_lt (blk_lt (g := gb209) (o := .cells #[.int .i64 t206, .int .i64 t207] 28 (0, 0)) (by (with_reducible repeat (first | refine blk_drewN ?_ _ | refine blk_drew ?_ | refine blk_alloc ?_ _)); exact BK209.out)) : gb209 ≠ gb227))
                                have n13_ := Aside0.mk ((by rw [hg]; exact Nat.ne_of_gt (blk_lt (g := gb209) (o := .cells #[.int .i64 t206, .int .i64 t207] 28 (0, 0)) (by (with_reducible repeat (first | refine blk_drewN ?_ _ | refine blk_drew ?_ | refine blk_alloc ?_ _)); exact BK209.out)) : gb227 ≠ gb209))
                                have n14_ := Aside0.mk ((by rw [hg]; exact Nat.ne_of_lt (blk_lt (g := gb213) (o := .cells #[.int .i64 t210, .int .i64 t211] 23 (0, 0)) (by (with_reducible repeat (first | refine blk_drewN ?_ _ | refine blk_drew ?_ | refine blk_alloc ?_ _)); exact BK213.out)) : gb213 ≠ gb227))
                                have n15_ := Aside0.mk ((by rw [hg]; exact Nat.ne_of_gt (blk_lt (g := gb213) (o := .cells #[.int .i64 t210, .int .i64 t211] 23 (0, 0)) (by (with_reducible repeat (first | refine blk_drewN ?_ _ | refine blk_drew ?_ | refine blk_alloc ?_ _)); exact BK213.out)) : gb227 ≠ gb213))
                                clear BK199
                                clear BK200
                                clear BK209
                                clear BK213
                                clear HB
                                have BK199 := n0_
                                have BK200 := n1_
                                have BK209 := n2_
                                have BK213 := n3_
                                have HB := n4_
                                have BK227 := n5_
                                have GW227 := n6_
                                have GE227 := n7_
                                have NB199_227 := n8_
                                have NB227_199 := n9_
                                have NB200_227 := n10_
                                have NB227_200 := n11_
                                have NB209_227 := n12_
                                have NB227_209 := n13_
                                have NB213_227 := n14_
                                have NB227_213 := n15_
                                clear n0_ n1_ n2_ n3_ n4_ n5_ n6_ n7_ n8_ n9_ n10_ n11_ n12_ n13_ n14_ n15_
                                clear hb hbox hg
                                refine hK.out _ _ ⟨(blk_cell BK199.out 0).trans rfl, (blk_cell BK199.out 1).trans rfl, (blk_cell BK200.out 0).trans rfl, (blk_cell BK200.out 1).trans rfl⟩ (fun hHeld => ?_)
                                clear hK K
                                refine norm_ (a' := ?_) ?_ ?_
                                rotate_left
                                · show Act.put _ (some 22) _ = _
                                  simp only [Act.put, List.setIfInBounds_toArray, List.set_cons_zero, List.set_cons_succ, i64_w, i32_w]
                                  rfl
                                exact norm_ (by simp only [putAll, Act.put, List.setIfInBounds_toArray, List.set_cons_zero, List.set_cons_succ]) (hCont (gb227) _ ⟨hHeld, (by (with_reducible repeat (first | refine blk_drewN ?_ _ | refine blk_drew ?_ | refine blk_alloc ?_ _)); exact BK199.out), (by (with_reducible repeat (first | refine blk_drewN ?_ _ | refine blk_drew ?_ | refine blk_alloc ?_ _)); exact BK200.out), (by (with_reducible repeat (first | refine blk_drewN ?_ _ | refine blk_drew ?_ | refine blk_alloc ?_ _)); exact BK209.out), (by (with_reducible repeat (first | refine blk_drewN ?_ _ | refine blk_drew ?_ | refine blk_alloc ?_ _)); exact BK213.out), (by (with_reducible repeat (first | refine blk_drewN ?_ _ | refine blk_drew ?_ | refine blk_alloc ?_ _)); exact BK227.out), GW227.out, GE227.out, NB199_227.out, NB227_199.out, NB200_227.out, NB227_200.out, NB209_227.out, NB227_209.out, NB213_227.out, NB227_213.out, (by repeat (first | (with_reducible first | exact HB.out | apply below_alloc | apply pw_below_drewN | apply below_drew1 | refine below_set ?_ GE199.out | refine below_set ?_ GE200.out | refine below_set ?_ GE209.out | refine below_set ?_ GE213.out | refine below_set ?_ GE227.out) | exact HB.out))⟩)
                              · skip
                                refine box_step ?hg (N := 22) ?hd (cs := #[.int .i64 0, .int .i64 0]) (t := 28) ?hr ?_; (case hd => rfl); (case hg => rfl); (case hr => first | (go_simp; done) | (go_simp; rfl))
                                intro gb227 hg w64 hbox hb
                                have n0_ := Aside0.mk (blk_below (g := gb199) (o := .cells #[.int .i64 a2_0, .int .i64 a2_1] 23 (0, 0)) (by (with_reducible repeat (first | refine blk_drewN ?_ _ | refine blk_drew ?_ | refine blk_alloc ?_ _)); exact BK199.out) hb)
                                have n1_ := Aside0.mk (blk_below (g := gb200) (o := .cells #[.int .i64 a3_0, .int .i64 a3_1] 23 (0, 0)) (by (with_reducible repeat (first | refine blk_drewN ?_ _ | refine blk_drew ?_ | refine blk_alloc ?_ _)); exact BK200.out) hb)
                                have n2_ := Aside0.mk (blk_below (g := gb209) (o := .cells #[.int .i64 t206, .int .i64 t207] 28 (0, 0)) (by (with_reducible repeat (first | refine blk_drewN ?_ _ | refine blk_drew ?_ | refine blk_alloc ?_ _)); exact BK209.out) hb)
                                have n3_ := Aside0.mk (blk_below (g := gb213) (o := .cells #[.int .i64 t210, .int .i64 t211] 23 (0, 0)) (by (with_reducible repeat (first | refine blk_drewN ?_ _ | refine blk_drew ?_ | refine blk_alloc ?_ _)); exact BK213.out) hb)
                                have n4_ := Aside0.mk (below_step (by repeat (first | (with_reducible first | exact HB.out | apply below_alloc | apply pw_below_drewN | apply below_drew1 | refine below_set ?_ GE199.out | refine below_set ?_ GE200.out | refine below_set ?_ GE209.out | refine below_set ?_ GE213.out) | exact HB.out)) hb)
                                have n5_ := Aside0.mk (hbox)
                                have n6_ := Aside0.mk ((by rw [hg]; exact (below_size (by repeat (first | (with_reducible first | exact HB.out | apply below_alloc | apply pw_below_drewN | apply below_drew1 | refine below_set ?_ GE199.out | refine below_set ?_ GE200.out | refine below_set ?_ GE209.out | refine below_set ?_ GE213.out) | exact HB.out))) : w.heap.size ≤ gb227))
                                have n7_ := Aside0.mk ((by rw [hg]; exact (below_size (by repeat (first | (with_reducible first | exact HB.out | apply below_alloc | apply pw_below_drewN | apply below_drew1 | refine below_set ?_ GE199.out | refine below_set ?_ GE200.out | refine below_set ?_ GE209.out | refine below_set ?_ GE213.out) | exact HB.out))) : w.heap.size ≤ gb227))
                                have n8_ := Aside0.mk ((by rw [hg]; exact Nat.ne_of_lt (blk_lt (g := gb199) (o := .cells #[.int .i64 a2_0, .int .i64 a2_1] 23 (0, 0)) (by (with_reducible repeat (first | refine blk_drewN ?_ _ | refine blk_drew ?_ | refine blk_alloc ?_ _)); exact BK199.out)) : gb199 ≠ gb227))
                                have n9_ := Aside0.mk ((by rw [hg]; exact Nat.ne_of_gt (blk_lt (g := gb199) (o := .cells #[.int .i64 a2_0, .int .i64 a2_1] 23 (0, 0)) (by (with_reducible repeat (first | refine blk_drewN ?_ _ | refine blk_drew ?_ | refine blk_alloc ?_ _)); exact BK199.out)) : gb227 ≠ gb199))
                                have n10_ := Aside0.mk ((by rw [hg]; exact Nat.ne_of_lt (blk_lt (g := gb200) (o := .cells #[.int .i64 a3_0, .int .i64 a3_1] 23 (0, 0)) (by (with_reducible repeat (first | refine blk_drewN ?_ _ | refine blk_drew ?_ | refine blk_alloc ?_ _)); exact BK200.out)) : gb200 ≠ gb227))
                                have n11_ := Aside0.mk ((by rw [hg]; exact Nat.ne_of_gt (blk_lt (g := gb200) (o := .cells #[.int .i64 a3_0, .int .i64 a3_1] 23 (0, 0)) (by (with_reducible repeat (first | refine blk_drewN ?_ _ | refine blk_drew ?_ | refine blk_alloc ?_ _)); exact BK200.out)) : gb227 ≠ gb200))
                                have n12_ := Aside0.mk ((by rw [hg]; exact Nat.ne_of_lt (blk_lt (g := gb209) (o := .cells #[.int .i64 t206, .int .i64 t207] 28 (0, 0)) (by (with_reducible repeat (first | refine blk_drewN ?_ _ | refine blk_drew ?_ | refine blk_alloc ?_ _)); exact BK209.out)) : gb209 ≠ gb227))
                                have n13_ := Aside0.mk ((by rw [hg]; exact Nat.ne_of_gt (blk_lt (g := gb209) (o := .cells #[.int .i64 t206, .int .i64 t207] 28 (0, 0)) (by (with_reducible repeat (first | refine blk_drewN ?_ _ | refine blk_drew ?_ | refine blk_alloc ?_ _)); exact BK209.out)) : gb227 ≠ gb209))
                                have n14_ := Aside0.mk ((by rw [hg]; exact Nat.ne_of_lt (blk_lt (g := gb213) (o := .cells #[.int .i64 t210, .int .i64 t211] 23 (0, 0)) (by (with_reducible repeat (first | refine blk_drewN ?_ _ | refine blk_drew ?_ | refine blk_alloc ?_ _)); exact BK213.out)) : gb213 ≠ gb227))
                                have n15_ := Aside0.mk ((by rw [hg]; exact Nat.ne_of_gt (blk_lt (g := gb213) (o := .cells #[.int .i64 t210, .int .i64 t211] 23 (0, 0)) (by (with_reducible repeat (first | refine blk_drewN ?_ _ | refine blk_drew ?_ | refine blk_alloc ?_ _)); exact BK213.out)) : gb227 ≠ gb213))
                                clear BK199
                                clear BK200
                                clear BK209
                                clear BK213
                                clear HB
                                have BK199 := n0_
                                have BK200 := n1_
                                have BK209 := n2_
                                have BK213 := n3_
                                have HB := n4_
                                have BK227 := n5_
                                have GW227 := n6_
                                have GE227 := n7_
                                have NB199_227 := n8_
                                have NB227_199 := n9_
                                have NB200_227 := n10_
                                have NB227_200 := n11_
                                have NB209_227 := n12_
                                have NB227_209 := n13_
                                have NB213_227 := n14_
                                have NB227_213 := n15_
                                clear n0_ n1_ n2_ n3_ n4_ n5_ n6_ n7_ n8_ n9_ n10_ n11_ n12_ n13_ n14_ n15_
                                clear hb hbox hg
                                refine hK.out _ _ ⟨(blk_cell BK199.out 0).trans rfl, (blk_cell BK199.out 1).trans rfl, (blk_cell BK200.out 0).trans rfl, (blk_cell BK200.out 1).trans rfl⟩ (fun hHeld => ?_)
                                clear hK K
                                refine norm_ (a' := ?_) ?_ ?_
                                rotate_left
                                · show Act.put _ (some 22) _ = _
                                  simp only [Act.put, List.setIfInBounds_toArray, List.set_cons_zero, List.set_cons_succ, i64_w, i32_w]
                                  rfl
                                refine one_ (i := 4) (N := some 73) #[true, true, true, true, true, false, false, false, true, false, false] rfl rfl (one_of HT_.out (by kernel_rfl)) (by decide) (fun K hK => ?_)
                                refine goes_ Try.func16 (by kernel_rfl) rfl #[.agg #[.int .i64 t220, .int .i64 t221], .agg #[.int .i64 t222, .int .i64 t223]] (by rfl) rfl rfl (by (try simp only [List.map_toArray, List.map_cons, List.map_nil]); first | done | rfl | (simp only [List.length_drop, List.length_take]; rfl)) ?_
                                with_reducible refine (span_Meet.calls t220 t221 t222 t223 t224 t225 t226 _ A19.out).mono ?_
                                rintro e w65 ⟨rfl, hb⟩
                                refine ⟨_, rfl, ?_⟩
                                have n0_ := Aside0.mk (blk_below (g := gb199) (o := .cells #[.int .i64 a2_0, .int .i64 a2_1] 23 (0, 0)) (by (with_reducible repeat (first | refine blk_drewN ?_ _ | refine blk_drew ?_ | refine blk_alloc ?_ _)); exact BK199.out) hb)
                                have n1_ := Aside0.mk (blk_below (g := gb200) (o := .cells #[.int .i64 a3_0, .int .i64 a3_1] 23 (0, 0)) (by (with_reducible repeat (first | refine blk_drewN ?_ _ | refine blk_drew ?_ | refine blk_alloc ?_ _)); exact BK200.out) hb)
                                have n2_ := Aside0.mk (blk_below (g := gb209) (o := .cells #[.int .i64 t206, .int .i64 t207] 28 (0, 0)) (by (with_reducible repeat (first | refine blk_drewN ?_ _ | refine blk_drew ?_ | refine blk_alloc ?_ _)); exact BK209.out) hb)
                                have n3_ := Aside0.mk (blk_below (g := gb213) (o := .cells #[.int .i64 t210, .int .i64 t211] 23 (0, 0)) (by (with_reducible repeat (first | refine blk_drewN ?_ _ | refine blk_drew ?_ | refine blk_alloc ?_ _)); exact BK213.out) hb)
                                have n4_ := Aside0.mk (blk_below (g := gb227) (o := .cells #[.int .i64 0, .int .i64 0] 28 (0, 0)) (by (with_reducible repeat (first | refine blk_drewN ?_ _ | refine blk_drew ?_ | refine blk_alloc ?_ _)); exact BK227.out) hb)
                                have n5_ := Aside0.mk (below_step (by repeat (first | (with_reducible first | exact HB.out | apply below_alloc | apply pw_below_drewN | apply below_drew1 | refine below_set ?_ GE199.out | refine below_set ?_ GE200.out | refine below_set ?_ GE209.out | refine below_set ?_ GE213.out | refine below_set ?_ GE227.out) | exact HB.out)) hb)
                                clear BK199
                                clear BK200
                                clear BK209
                                clear BK213
                                clear BK227
                                clear HB
                                have BK199 := n0_
                                have BK200 := n1_
                                have BK209 := n2_
                                have BK213 := n3_
                                have BK227 := n4_
                                have HB := n5_
                                clear n0_ n1_ n2_ n3_ n4_ n5_
                                (try clear hb)
                                (try clear hb2)
                                (try clear hk)
                                (try clear hi)
                                refine hK.out _ _ ⟨(blk_cell BK199.out 0).trans rfl, (blk_cell BK199.out 1).trans rfl, (blk_cell BK200.out 0).trans rfl, (blk_cell BK200.out 1).trans rfl⟩ (fun hHeld => ?_)
                                clear hK K
                                refine norm_ (a' := ?_) ?_ ?_
                                rotate_left
                                · show Act.put _ (some 73) _ = _
                                  simp only [Act.put, List.setIfInBounds_toArray, List.set_cons_zero, List.set_cons_succ, i64_w, i32_w]
                                  rfl
                                refine pure_ (i := 5) (N := some 68) (v := ?_) (a' := ?_) #[true, true, true, true, true, true, false, false, true, false, false] rfl rfl (any_of HT_.out (by kernel_rfl)) (fun _ _ _ h => h) (Or.inl ⟨by rfl, ?_⟩) ?_ ?_
                                rotate_left
                                · intro w'
                                  go_simp
                                  with_reducible rfl
                                rotate_left
                                · simp only [Act.put, List.setIfInBounds_toArray, List.set_cons_zero, List.set_cons_succ, i64_w, i32_w]
                                  rfl
                                refine pure_ (i := 6) (N := some 74) (v := ?_) (a' := ?_) #[true, true, true, true, true, true, true, false, true, false, false] rfl rfl (any_of HT_.out (by kernel_rfl)) (fun _ _ _ h => h) (Or.inl ⟨by rfl, ?_⟩) ?_ ?_
                                rotate_left
                                · intro w'
                                  go_simp
                                  with_reducible rfl
                                rotate_left
                                · simp only [Act.put, List.setIfInBounds_toArray, List.set_cons_zero, List.set_cons_succ, i64_w, i32_w]
                                  rfl
                                refine pure_ (i := 7) (N := some 75) (v := ?_) (a' := ?_) #[true, true, true, true, true, true, true, true, true, false, false] rfl rfl (any_of HT_.out (by kernel_rfl)) (fun _ _ _ h => h) (Or.inl ⟨by rfl, ?_⟩) ?_ ?_
                                rotate_left
                                · intro w'
                                  go_simp
                                  with_reducible rfl
                                rotate_left
                                · simp only [Act.put, List.setIfInBounds_toArray, List.set_cons_zero, List.set_cons_succ, i64_w, i32_w]
                                  rfl
                                exact norm_ (by simp only [putAll, Act.put, List.setIfInBounds_toArray, List.set_cons_zero, List.set_cons_succ]) (hCont (gb227) _ ⟨hHeld, (by (with_reducible repeat (first | refine blk_drewN ?_ _ | refine blk_drew ?_ | refine blk_alloc ?_ _)); exact BK199.out), (by (with_reducible repeat (first | refine blk_drewN ?_ _ | refine blk_drew ?_ | refine blk_alloc ?_ _)); exact BK200.out), (by (with_reducible repeat (first | refine blk_drewN ?_ _ | refine blk_drew ?_ | refine blk_alloc ?_ _)); exact BK209.out), (by (with_reducible repeat (first | refine blk_drewN ?_ _ | refine blk_drew ?_ | refine blk_alloc ?_ _)); exact BK213.out), (by (with_reducible repeat (first | refine blk_drewN ?_ _ | refine blk_drew ?_ | refine blk_alloc ?_ _)); exact BK227.out), GW227.out, GE227.out, NB199_227.out, NB227_199.out, NB200_227.out, NB227_200.out, NB209_227.out, NB227_209.out, NB213_227.out, NB227_213.out, (by repeat (first | (with_reducible first | exact HB.out | apply below_alloc | apply pw_below_drewN | apply below_drew1 | refine below_set ?_ GE199.out | refine below_set ?_ GE200.out | refine below_set ?_ GE209.out | refine below_set ?_ GE213.out | refine below_set ?_ GE227.out) | exact HB.out))⟩)
                            · skip
                              refine box_step ?hg (N := 22) ?hd (cs := #[.int .i64 0, .int .i64 0]) (t := 28) ?hr ?_; (case hd => rfl); (case hg => rfl); (case hr => first | (go_simp; done) | (go_simp; rfl))
                              intro gb227 hg w63 hbox hb
                              have n0_ := Aside0.mk (blk_below (g := gb199) (o := .cells #[.int .i64 a2_0, .int .i64 a2_1] 23 (0, 0)) (by (with_reducible repeat (first | refine blk_drewN ?_ _ | refine blk_drew ?_ | refine blk_alloc ?_ _)); exact BK199.out) hb)
                              have n1_ := Aside0.mk (blk_below (g := gb200) (o := .cells #[.int .i64 a3_0, .int .i64 a3_1] 23 (0, 0)) (by (with_reducible repeat (first | refine blk_drewN ?_ _ | refine blk_drew ?_ | refine blk_alloc ?_ _)); exact BK200.out) hb)
                              have n2_ := Aside0.mk (blk_below (g := gb209) (o := .cells #[.int .i64 t206, .int .i64 t207] 28 (0, 0)) (by (with_reducible repeat (first | refine blk_drewN ?_ _ | refine blk_drew ?_ | refine blk_alloc ?_ _)); exact BK209.out) hb)
                              have n3_ := Aside0.mk (blk_below (g := gb213) (o := .cells #[.int .i64 t210, .int .i64 t211] 23 (0, 0)) (by (with_reducible repeat (first | refine blk_drewN ?_ _ | refine blk_drew ?_ | refine blk_alloc ?_ _)); exact BK213.out) hb)
                              have n4_ := Aside0.mk (below_step (by repeat (first | (with_reducible first | exact HB.out | apply below_alloc | apply pw_below_drewN | apply below_drew1 | refine below_set ?_ GE199.out | refine below_set ?_ GE200.out | refine below_set ?_ GE209.out | refine below_set ?_ GE213.out) | exact HB.out)) hb)
                              have n5_ := Aside0.mk (hbox)
                              have n6_ := Aside0.mk ((by rw [hg]; exact (below_size (by repeat (first | (with_reducible first | exact HB.out | apply below_alloc | apply pw_below_drewN | apply below_drew1 | refine below_set ?_ GE199.out | refine below_set ?_ GE200.out | refine below_set ?_ GE209.out | refine below_set ?_ GE213.out) | exact HB.out))) : w.heap.size ≤ gb227))
                              have n7_ := Aside0.mk ((by rw [hg]; exact (below_size (by repeat (first | (with_reducible first | exact HB.out | apply below_alloc | apply pw_below_drewN | apply below_drew1 | refine below_set ?_ GE199.out | refine below_set ?_ GE200.out | refine below_set ?_ GE209.out | refine below_set ?_ GE213.out) | exact HB.out))) : w.heap.size ≤ gb227))
                              have n8_ := Aside0.mk ((by rw [hg]; exact Nat.ne_of_lt (blk_lt (g := gb199) (o := .cells #[.int .i64 a2_0, .int .i64 a2_1] 23 (0, 0)) (by (with_reducible repeat (first | refine blk_drewN ?_ _ | refine blk_drew ?_ | refine blk_alloc ?_ _)); exact BK199.out)) : gb199 ≠ gb227))
                              have n9_ := Aside0.mk ((by rw [hg]; exact Nat.ne_of_gt (blk_lt (g := gb199) (o := .cells #[.int .i64 a2_0, .int .i64 a2_1] 23 (0, 0)) (by (with_reducible repeat (first | refine blk_drewN ?_ _ | refine blk_drew ?_ | refine blk_alloc ?_ _)); exact BK199.out)) : gb227 ≠ gb199))
                              have n10_ := Aside0.mk ((by rw [hg]; exact Nat.ne_of_lt (blk_lt (g := gb200) (o := .cells #[.int .i64 a3_0, .int .i64 a3_1] 23 (0, 0)) (by (with_reducible repeat (first | refine blk_drewN ?_ _ | refine blk_drew ?_ | refine blk_alloc ?_ _)); exact BK200.out)) : gb200 ≠ gb227))
                              have n11_ := Aside0.mk ((by rw [hg]; exact Nat.ne_of_gt (blk_lt (g := gb200) (o := .cells #[.int .i64 a3_0, .int .i64 a3_1] 23 (0, 0)) (by (with_reducible repeat (first | refine blk_drewN ?_ _ | refine blk_drew ?_ | refine blk_alloc ?_ _)); exact BK200.out)) : gb227 ≠ gb200))
                              have n12_ := Aside0.mk ((by rw [hg]; exact Nat.ne_of_lt (blk_lt (g := gb209) (o := .cells #[.int .i64 t206, .int .i64 t207] 28 (0, 0)) (by (with_reducible repeat (first | refine blk_drewN ?_ _ | refine blk_drew ?_ | refine blk_alloc ?_ _)); exact BK209.out)) : gb209 ≠ gb227))
                              have n13_ := Aside0.mk ((by rw [hg]; exact Nat.ne_of_gt (blk_lt (g := gb209) (o := .cells #[.int .i64 t206, .int .i64 t207] 28 (0, 0)) (by (with_reducible repeat (first | refine blk_drewN ?_ _ | refine blk_drew ?_ | refine blk_alloc ?_ _)); exact BK209.out)) : gb227 ≠ gb209))
                              have n14_ := Aside0.mk ((by rw [hg]; exact Nat.ne_of_lt (blk_lt (g := gb213) (o := .cells #[.int .i64 t210, .int .i64 t211] 23 (0, 0)) (by (with_reducible repeat (first | refine blk_drewN ?_ _ | refine blk_drew ?_ | refine blk_alloc ?_ _)); exact BK213.out)) : gb213 ≠ gb227))
                              have n15_ := Aside0.mk ((by rw [hg]; exact Nat.ne_of_gt (blk_lt (g := gb213) (o := .cells #[.int .i64 t210, .int .i64 t211] 23 (0, 0)) (by (with_reducible repeat (first | refine blk_drewN ?_ _ | refine blk_drew ?_ | refine blk_alloc ?_ _)); exact BK213.out)) : gb227 ≠ gb213))
                              clear BK199
                              clear BK200
                              clear BK209
                              clear BK213
                              clear HB
                              have BK199 := n0_
                              have BK200 := n1_
                              have BK209 := n2_
                              have BK213 := n3_
                              have HB := n4_
                              have BK227 := n5_
                              have GW227 := n6_
                              have GE227 := n7_
                              have NB199_227 := n8_
                              have NB227_199 := n9_
                              have NB200_227 := n10_
                              have NB227_200 := n11_
                              have NB209_227 := n12_
                              have NB227_209 := n13_
                              have NB213_227 := n14_
                              have NB227_213 := n15_
                              clear n0_ n1_ n2_ n3_ n4_ n5_ n6_ n7_ n8_ n9_ n10_ n11_ n12_ n13_ n14_ n15_
                              clear hb hbox hg
                              refine hK.out _ _ ⟨(blk_cell BK199.out 0).trans rfl, (blk_cell BK199.out 1).trans rfl, (blk_cell BK200.out 0).trans rfl, (blk_cell BK200.out 1).trans rfl⟩ (fun hHeld => ?_)
                              clear hK K
                              refine norm_ (a' := ?_) ?_ ?_
                              rotate_left
                              · show Act.put _ (some 22) _ = _
                                simp only [Act.put, List.setIfInBounds_toArray, List.set_cons_zero, List.set_cons_succ, i64_w, i32_w]
                                rfl
                              refine one_ (i := 3) (N := some 72) #[true, true, true, true, false, false, false, false, true, false, false] rfl rfl (one_of HT_.out (by kernel_rfl)) (by decide) (fun K hK => ?_)
                              refine goes_ Try.func12 (by kernel_rfl) rfl #[.agg #[.int .i64 a3_0, .int .i64 a3_1]] (by rfl) rfl rfl (by (try simp only [List.map_toArray, List.map_cons, List.map_nil]); first | done | rfl | (simp only [List.length_drop, List.length_take]; rfl)) ?_
                              with_reducible refine (heronrylaw12_ours.calls a3_0 a3_1 t222 t223 _ A18.out).mono ?_
                              rintro e w64 ⟨rfl, hb⟩
                              refine ⟨_, rfl, ?_⟩
                              have n0_ := Aside0.mk (blk_below (g := gb199) (o := .cells #[.int .i64 a2_0, .int .i64 a2_1] 23 (0, 0)) (by (with_reducible repeat (first | refine blk_drewN ?_ _ | refine blk_drew ?_ | refine blk_alloc ?_ _)); exact BK199.out) hb)
                              have n1_ := Aside0.mk (blk_below (g := gb200) (o := .cells #[.int .i64 a3_0, .int .i64 a3_1] 23 (0, 0)) (by (with_reducible repeat (first | refine blk_drewN ?_ _ | refine blk_drew ?_ | refine blk_alloc ?_ _)); exact BK200.out) hb)
                              have n2_ := Aside0.mk (blk_below (g := gb209) (o := .cells #[.int .i64 t206, .int .i64 t207] 28 (0, 0)) (by (with_reducible repeat (first | refine blk_drewN ?_ _ | refine blk_drew ?_ | refine blk_alloc ?_ _)); exact BK209.out) hb)
                              have n3_ := Aside0.mk (blk_below (g := gb213) (o := .cells #[.int .i64 t210, .int .i64 t211] 23 (0, 0)) (by (with_reducible repeat (first | refine blk_drewN ?_ _ | refine blk_drew ?_ | refine blk_alloc ?_ _)); exact BK213.out) hb)
                              have n4_ := Aside0.mk (blk_below (g := gb227) (o := .cells #[.int .i64 0, .int .i64 0] 28 (0, 0)) (by (with_reducible repeat (first | refine blk_drewN ?_ _ | refine blk_drew ?_ | refine blk_alloc ?_ _)); exact BK227.out) hb)
                              have n5_ := Aside0.mk (below_step (by repeat (first | (with_reducible first | exact HB.out | apply below_alloc | apply pw_below_drewN | apply below_drew1 | refine below_set ?_ GE199.out | refine below_set ?_ GE200.out | refine below_set ?_ GE209.out | refine below_set ?_ GE213.out | refine below_set ?_ GE227.out) | exact HB.out)) hb)
                              clear BK199
                              clear BK200
                              clear BK209
                              clear BK213
                              clear BK227
                              clear HB
                              have BK199 := n0_
                              have BK200 := n1_
                              have BK209 := n2_
                              have BK213 := n3_
                              have BK227 := n4_
                              have HB := n5_
                              clear n0_ n1_ n2_ n3_ n4_ n5_
                              (try clear hb)
                              (try clear hb2)
                              (try clear hk)
                              (try clear hi)
                              refine hK.out _ _ ⟨(blk_cell BK199.out 0).trans rfl, (blk_cell BK199.out 1).trans rfl, (blk_cell BK200.out 0).trans rfl, (blk_cell BK200.out 1).trans rfl⟩ (fun hHeld => ?_)
                              clear hK K
                              refine norm_ (a' := ?_) ?_ ?_
                              rotate_left
                              · show Act.put _ (some 72) _ = _
                                simp only [Act.put, List.setIfInBounds_toArray, List.set_cons_zero, List.set_cons_succ, i64_w, i32_w]
                                rfl
                              refine one_ (i := 4) (N := some 73) #[true, true, true, true, true, false, false, false, true, false, false] rfl rfl (one_of HT_.out (by kernel_rfl)) (by decide) (fun K hK => ?_)
                              refine goes_ Try.func16 (by kernel_rfl) rfl #[.agg #[.int .i64 t220, .int .i64 t221], .agg #[.int .i64 t222, .int .i64 t223]] (by rfl) rfl rfl (by (try simp only [List.map_toArray, List.map_cons, List.map_nil]); first | done | rfl | (simp only [List.length_drop, List.length_take]; rfl)) ?_
                              with_reducible refine (span_Meet.calls t220 t221 t222 t223 t224 t225 t226 _ A19.out).mono ?_
                              rintro e w65 ⟨rfl, hb⟩
                              refine ⟨_, rfl, ?_⟩
                              have n0_ := Aside0.mk (blk_below (g := gb199) (o := .cells #[.int .i64 a2_0, .int .i64 a2_1] 23 (0, 0)) (by (with_reducible repeat (first | refine blk_drewN ?_ _ | refine blk_drew ?_ | refine blk_alloc ?_ _)); exact BK199.out) hb)
                              have n1_ := Aside0.mk (blk_below (g := gb200) (o := .cells #[.int .i64 a3_0, .int .i64 a3_1] 23 (0, 0)) (by (with_reducible repeat (first | refine blk_drewN ?_ _ | refine blk_drew ?_ | refine blk_alloc ?_ _)); exact BK200.out) hb)
                              have n2_ := Aside0.mk (blk_below (g := gb209) (o := .cells #[.int .i64 t206, .int .i64 t207] 28 (0, 0)) (by (with_reducible repeat (first | refine blk_drewN ?_ _ | refine blk_drew ?_ | refine blk_alloc ?_ _)); exact BK209.out) hb)
                              have n3_ := Aside0.mk (blk_below (g := gb213) (o := .cells #[.int .i64 t210, .int .i64 t211] 23 (0, 0)) (by (with_reducible repeat (first | refine blk_drewN ?_ _ | refine blk_drew ?_ | refine blk_alloc ?_ _)); exact BK213.out) hb)
                              have n4_ := Aside0.mk (blk_below (g := gb227) (o := .cells #[.int .i64 0, .int .i64 0] 28 (0, 0)) (by (with_reducible repeat (first | refine blk_drewN ?_ _ | refine blk_drew ?_ | refine blk_alloc ?_ _)); exact BK227.out) hb)
                              have n5_ := Aside0.mk (below_step (by repeat (first | (with_reducible first | exact HB.out | apply below_alloc | apply pw_below_drewN | apply below_drew1 | refine below_set ?_ GE199.out | refine below_set ?_ GE200.out | refine below_set ?_ GE209.out | refine below_set ?_ GE213.out | refine below_set ?_ GE227.out) | exact HB.out)) hb)
                              clear BK199
                              clear BK200
                              clear BK209
                              clear BK213
                              clear BK227
                              clear HB
                              have BK199 := n0_
                              have BK200 := n1_
                              have BK209 := n2_
                              have BK213 := n3_
                              have BK227 := n4_
                              have HB := n5_
                              clear n0_ n1_ n2_ n3_ n4_ n5_
                              (try clear hb)
                              (try clear hb2)
                              (try clear hk)
                              (try clear hi)
                              refine hK.out _ _ ⟨(blk_cell BK199.out 0).trans rfl, (blk_cell BK199.out 1).trans rfl, (blk_cell BK200.out 0).trans rfl, (blk_cell BK200.out 1).trans rfl⟩ (fun hHeld => ?_)
                              clear hK K
                              refine norm_ (a' := ?_) ?_ ?_
                              rotate_left
                              · show Act.put _ (some 73) _ = _
                                simp only [Act.put, List.setIfInBounds_toArray, List.set_cons_zero, List.set_cons_succ, i64_w, i32_w]
                                rfl
                              refine pure_ (i := 5) (N := some 68) (v := ?_) (a' := ?_) #[true, true, true, true, true, true, false, false, true, false, false] rfl rfl (any_of HT_.out (by kernel_rfl)) (fun _ _ _ h => h) (Or.inl ⟨by rfl, ?_⟩) ?_ ?_
                              rotate_left
                              · intro w'
                                go_simp
                                with_reducible rfl
                              rotate_left
                              · simp only [Act.put, List.setIfInBounds_toArray, List.set_cons_zero, List.set_cons_succ, i64_w, i32_w]
                                rfl
                              refine pure_ (i := 6) (N := some 74) (v := ?_) (a' := ?_) #[true, true, true, true, true, true, true, false, true, false, false] rfl rfl (any_of HT_.out (by kernel_rfl)) (fun _ _ _ h => h) (Or.inl ⟨by rfl, ?_⟩) ?_ ?_
                              rotate_left
                              · intro w'
                                go_simp
                                with_reducible rfl
                              rotate_left
                              · simp only [Act.put, List.setIfInBounds_toArray, List.set_cons_zero, List.set_cons_succ, i64_w, i32_w]
                                rfl
                              refine pure_ (i := 7) (N := some 75) (v := ?_) (a' := ?_) #[true, true, true, true, true, true, true, true, true, false, false] rfl rfl (any_of HT_.out (by kernel_rfl)) (fun _ _ _ h => h) (Or.inl ⟨by rfl, ?_⟩) ?_ ?_
                              rotate_left
                              · intro w'
                                go_simp
                                with_reducible rfl
                              rotate_left
                              · simp only [Act.put, List.setIfInBounds_toArray, List.set_cons_zero, List.set_cons_succ, i64_w, i32_w]
                                rfl
                              exact norm_ (by simp only [putAll, Act.put, List.setIfInBounds_toArray, List.set_cons_zero, List.set_cons_succ]) (hCont (gb227) _ ⟨hHeld, (by (with_reducible repeat (first | refine blk_drewN ?_ _ | refine blk_drew ?_ | refine blk_alloc ?_ _)); exact BK199.out), (by (with_reducible repeat (first | refine blk_drewN ?_ _ | refine blk_drew ?_ | refine blk_alloc ?_ _)); exact BK200.out), (by (with_reducible repeat (first | refine blk_drewN ?_ _ | refine blk_drew ?_ | refine blk_alloc ?_ _)); exact BK209.out), (by (with_reducible repeat (first | refine blk_drewN ?_ _ | refine blk_drew ?_ | refine blk_alloc ?_ _)); exact BK213.out), (by (with_reducible repeat (first | refine blk_drewN ?_ _ | refine blk_drew ?_ | refine blk_alloc ?_ _)); exact BK227.out), GW227.out, GE227.out, NB199_227.out, NB227_199.out, NB200_227.out, NB227_200.out, NB209_227.out, NB227_209.out, NB213_227.out, NB227_213.out, (by repeat (first | (with_reducible first | exact HB.out | apply below_alloc | apply pw_below_drewN | apply below_drew1 | refine below_set ?_ GE199.out | refine below_set ?_ GE200.out | refine below_set ?_ GE209.out | refine below_set ?_ GE213.out | refine below_set ?_ GE227.out) | exact HB.out))⟩)
                          · skip
                            refine box_step ?hg (N := 22) ?hd (cs := #[.int .i64 0, .int .i64 0]) (t := 28) ?hr ?_; (case hd => rfl); (case hg => rfl); (case hr => first | (go_simp; done) | (go_simp; rfl))
                            intro gb227 hg w62 hbox hb
                            have n0_ := Aside0.mk (blk_below (g := gb199) (o := .cells #[.int .i64 a2_0, .int .i64 a2_1] 23 (0, 0)) (by (with_reducible repeat (first | refine blk_drewN ?_ _ | refine blk_drew ?_ | refine blk_alloc ?_ _)); exact BK199.out) hb)
                            have n1_ := Aside0.mk (blk_below (g := gb200) (o := .cells #[.int .i64 a3_0, .int .i64 a3_1] 23 (0, 0)) (by (with_reducible repeat (first | refine blk_drewN ?_ _ | refine blk_drew ?_ | refine blk_alloc ?_ _)); exact BK200.out) hb)
                            have n2_ := Aside0.mk (blk_below (g := gb209) (o := .cells #[.int .i64 t206, .int .i64 t207] 28 (0, 0)) (by (with_reducible repeat (first | refine blk_drewN ?_ _ | refine blk_drew ?_ | refine blk_alloc ?_ _)); exact BK209.out) hb)
                            have n3_ := Aside0.mk (blk_below (g := gb213) (o := .cells #[.int .i64 t210, .int .i64 t211] 23 (0, 0)) (by (with_reducible repeat (first | refine blk_drewN ?_ _ | refine blk_drew ?_ | refine blk_alloc ?_ _)); exact BK213.out) hb)
                            have n4_ := Aside0.mk (below_step (by repeat (first | (with_reducible first | exact HB.out | apply below_alloc | apply pw_below_drewN | apply below_drew1 | refine below_set ?_ GE199.out | refine below_set ?_ GE200.out | refine below_set ?_ GE209.out | refine below_set ?_ GE213.out) | exact HB.out)) hb)
                            have n5_ := Aside0.mk (hbox)
                            have n6_ := Aside0.mk ((by rw [hg]; exact (below_size (by repeat (first | (with_reducible first | exact HB.out | apply below_alloc | apply pw_below_drewN | apply below_drew1 | refine below_set ?_ GE199.out | refine below_set ?_ GE200.out | refine below_set ?_ GE209.out | refine below_set ?_ GE213.out) | exact HB.out))) : w.heap.size ≤ gb227))
                            have n7_ := Aside0.mk ((by rw [hg]; exact (below_size (by repeat (first | (with_reducible first | exact HB.out | apply below_alloc | apply pw_below_drewN | apply below_drew1 | refine below_set ?_ GE199.out | refine below_set ?_ GE200.out | refine below_set ?_ GE209.out | refine below_set ?_ GE213.out) | exact HB.out))) : w.heap.size ≤ gb227))
                            have n8_ := Aside0.mk ((by rw [hg]; exact Nat.ne_of_lt (blk_lt (g := gb199) (o := .cells #[.int .i64 a2_0, .int .i64 a2_1] 23 (0, 0)) (by (with_reducible repeat (first | refine blk_drewN ?_ _ | refine blk_drew ?_ | refine blk_alloc ?_ _)); exact BK199.out)) : gb199 ≠ gb227))
                            have n9_ := Aside0.mk ((by rw [hg]; exact Nat.ne_of_gt (blk_lt (g := gb199) (o := .cells #[.int .i64 a2_0, .int .i64 a2_1] 23 (0, 0)) (by (with_reducible repeat (first | refine blk_drewN ?_ _ | refine blk_drew ?_ | refine blk_alloc ?_ _)); exact BK199.out)) : gb227 ≠ gb199))
                            have n10_ := Aside0.mk ((by rw [hg]; exact Nat.ne_of_lt (blk_lt (g := gb200) (o := .cells #[.int .i64 a3_0, .int .i64 a3_1] 23 (0, 0)) (by (with_reducible repeat (first | refine blk_drewN ?_ _ | refine blk_drew ?_ | refine blk_alloc ?_ _)); exact BK200.out)) : gb200 ≠ gb227))
                            have n11_ := Aside0.mk ((by rw [hg]; exact Nat.ne_of_gt (blk_lt (g := gb200) (o := .cells #[.int .i64 a3_0, .int .i64 a3_1] 23 (0, 0)) (by (with_reducible repeat (first | refine blk_drewN ?_ _ | refine blk_drew ?_ | refine blk_alloc ?_ _)); exact BK200.out)) : gb227 ≠ gb200))
                            have n12_ := Aside0.mk ((by rw [hg]; exact Nat.ne_of_lt (blk_lt (g := gb209) (o := .cells #[.int .i64 t206, .int .i64 t207] 28 (0, 0)) (by (with_reducible repeat (first | refine blk_drewN ?_ _ | refine blk_drew ?_ | refine blk_alloc ?_ _)); exact BK209.out)) : gb209 ≠ gb227))
                            have n13_ := Aside0.mk ((by rw [hg]; exact Nat.ne_of_gt (blk_lt (g := gb209) (o := .cells #[.int .i64 t206, .int .i64 t207] 28 (0, 0)) (by (with_reducible repeat (first | refine blk_drewN ?_ _ | refine blk_drew ?_ | refine blk_alloc ?_ _)); exact BK209.out)) : gb227 ≠ gb209))
                            have n14_ := Aside0.mk ((by rw [hg]; exact Nat.ne_of_lt (blk_lt (g := gb213) (o := .cells #[.int .i64 t210, .int .i64 t211] 23 (0, 0)) (by (with_reducible repeat (first | refine blk_drewN ?_ _ | refine blk_drew ?_ | refine blk_alloc ?_ _)); exact BK213.out)) : gb213 ≠ gb227))
                            have n15_ := Aside0.mk ((by rw [hg]; exact Nat.ne_of_gt (blk_lt (g := gb213) (o := .cells #[.int .i64 t210, .int .i64 t211] 23 (0, 0)) (by (with_reducible repeat (first | refine blk_drewN ?_ _ | refine blk_drew ?_ | refine blk_alloc ?_ _)); exact BK213.out)) : gb227 ≠ gb213))
                            clear BK199
                            clear BK200
                            clear BK209
                            clear BK213
                            clear HB
                            have BK199 := n0_
                            have BK200 := n1_
                            have BK209 := n2_
                            have BK213 := n3_
                            have HB := n4_
                            have BK227 := n5_
                            have GW227 := n6_
                            have GE227 := n7_
                            have NB199_227 := n8_
                            have NB227_199 := n9_
                            have NB200_227 := n10_
                            have NB227_200 := n11_
                            have NB209_227 := n12_
                            have NB227_209 := n13_
                            have NB213_227 := n14_
                            have NB227_213 := n15_
                            clear n0_ n1_ n2_ n3_ n4_ n5_ n6_ n7_ n8_ n9_ n10_ n11_ n12_ n13_ n14_ n15_
                            clear hb hbox hg
                            refine hK.out _ _ ⟨(blk_cell BK199.out 0).trans rfl, (blk_cell BK199.out 1).trans rfl, (blk_cell BK200.out 0).trans rfl, (blk_cell BK200.out 1).trans rfl⟩ (fun hHeld => ?_)
                            clear hK K
                            refine norm_ (a' := ?_) ?_ ?_
                            rotate_left
                            · show Act.put _ (some 22) _ = _
                              simp only [Act.put, List.setIfInBounds_toArray, List.set_cons_zero, List.set_cons_succ, i64_w, i32_w]
                              rfl
                            refine one_ (i := 1) (N := some 70) #[true, true, true, false, false, false, false, false, true, false, false] rfl rfl (one_of HT_.out (by kernel_rfl)) (by decide) (fun K hK => ?_)
                            refine goes_ Try.func12 (by kernel_rfl) rfl #[.agg #[.int .i64 a2_0, .int .i64 a2_1]] (by rfl) rfl rfl (by (try simp only [List.map_toArray, List.map_cons, List.map_nil]); first | done | rfl | (simp only [List.length_drop, List.length_take]; rfl)) ?_
                            with_reducible refine (heronrylaw12_ours.calls a2_0 a2_1 t220 t221 _ A17.out).mono ?_
                            rintro e w63 ⟨rfl, hb⟩
                            refine ⟨_, rfl, ?_⟩
                            have n0_ := Aside0.mk (blk_below (g := gb199) (o := .cells #[.int .i64 a2_0, .int .i64 a2_1] 23 (0, 0)) (by (with_reducible repeat (first | refine blk_drewN ?_ _ | refine blk_drew ?_ | refine blk_alloc ?_ _)); exact BK199.out) hb)
                            have n1_ := Aside0.mk (blk_below (g := gb200) (o := .cells #[.int .i64 a3_0, .int .i64 a3_1] 23 (0, 0)) (by (with_reducible repeat (first | refine blk_drewN ?_ _ | refine blk_drew ?_ | refine blk_alloc ?_ _)); exact BK200.out) hb)
                            have n2_ := Aside0.mk (blk_below (g := gb209) (o := .cells #[.int .i64 t206, .int .i64 t207] 28 (0, 0)) (by (with_reducible repeat (first | refine blk_drewN ?_ _ | refine blk_drew ?_ | refine blk_alloc ?_ _)); exact BK209.out) hb)
                            have n3_ := Aside0.mk (blk_below (g := gb213) (o := .cells #[.int .i64 t210, .int .i64 t211] 23 (0, 0)) (by (with_reducible repeat (first | refine blk_drewN ?_ _ | refine blk_drew ?_ | refine blk_alloc ?_ _)); exact BK213.out) hb)
                            have n4_ := Aside0.mk (blk_below (g := gb227) (o := .cells #[.int .i64 0, .int .i64 0] 28 (0, 0)) (by (with_reducible repeat (first | refine blk_drewN ?_ _ | refine blk_drew ?_ | refine blk_alloc ?_ _)); exact BK227.out) hb)
                            have n5_ := Aside0.mk (below_step (by repeat (first | (with_reducible first | exact HB.out | apply below_alloc | apply pw_below_drewN | apply below_drew1 | refine below_set ?_ GE199.out | refine below_set ?_ GE200.out | refine below_set ?_ GE209.out | refine below_set ?_ GE213.out | refine below_set ?_ GE227.out) | exact HB.out)) hb)
                            clear BK199
                            clear BK200
                            clear BK209
                            clear BK213
                            clear BK227
                            clear HB
                            have BK199 := n0_
                            have BK200 := n1_
                            have BK209 := n2_
                            have BK213 := n3_
                            have BK227 := n4_
                            have HB := n5_
                            clear n0_ n1_ n2_ n3_ n4_ n5_
                            (try clear hb)
                            (try clear hb2)
                            (try clear hk)
                            (try clear hi)
                            refine hK.out _ _ ⟨(blk_cell BK199.out 0).trans rfl, (blk_cell BK199.out 1).trans rfl, (blk_cell BK200.out 0).trans rfl, (blk_cell BK200.out 1).trans rfl⟩ (fun hHeld => ?_)
                            clear hK K
                            refine norm_ (a' := ?_) ?_ ?_
                            rotate_left
                            · show Act.put _ (some 70) _ = _
                              simp only [Act.put, List.setIfInBounds_toArray, List.set_cons_zero, List.set_cons_succ, i64_w, i32_w]
                              rfl
                            refine one_ (i := 3) (N := some 72) #[true, true, true, true, false, false, false, false, true, false, false] rfl rfl (one_of HT_.out (by kernel_rfl)) (by decide) (fun K hK => ?_)
                            refine goes_ Try.func12 (by kernel_rfl) rfl #[.agg #[.int .i64 a3_0, .int .i64 a3_1]] (by rfl) rfl rfl (by (try simp only [List.map_toArray, List.map_cons, List.map_nil]); first | done | rfl | (simp only [List.length_drop, List.length_take]; rfl)) ?_
                            with_reducible refine (heronrylaw12_ours.calls a3_0 a3_1 t222 t223 _ A18.out).mono ?_
                            rintro e w64 ⟨rfl, hb⟩
                            refine ⟨_, rfl, ?_⟩
                            have n0_ := Aside0.mk (blk_below (g := gb199) (o := .cells #[.int .i64 a2_0, .int .i64 a2_1] 23 (0, 0)) (by (with_reducible repeat (first | refine blk_drewN ?_ _ | refine blk_drew ?_ | refine blk_alloc ?_ _)); exact BK199.out) hb)
                            have n1_ := Aside0.mk (blk_below (g := gb200) (o := .cells #[.int .i64 a3_0, .int .i64 a3_1] 23 (0, 0)) (by (with_reducible repeat (first | refine blk_drewN ?_ _ | refine blk_drew ?_ | refine blk_alloc ?_ _)); exact BK200.out) hb)
                            have n2_ := Aside0.mk (blk_below (g := gb209) (o := .cells #[.int .i64 t206, .int .i64 t207] 28 (0, 0)) (by (with_reducible repeat (first | refine blk_drewN ?_ _ | refine blk_drew ?_ | refine blk_alloc ?_ _)); exact BK209.out) hb)
                            have n3_ := Aside0.mk (blk_below (g := gb213) (o := .cells #[.int .i64 t210, .int .i64 t211] 23 (0, 0)) (by (with_reducible repeat (first | refine blk_drewN ?_ _ | refine blk_drew ?_ | refine blk_alloc ?_ _)); exact BK213.out) hb)
                            have n4_ := Aside0.mk (blk_below (g := gb227) (o := .cells #[.int .i64 0, .int .i64 0] 28 (0, 0)) (by (with_reducible repeat (first | refine blk_drewN ?_ _ | refine blk_drew ?_ | refine blk_alloc ?_ _)); exact BK227.out) hb)
                            have n5_ := Aside0.mk (below_step (by repeat (first | (with_reducible first | exact HB.out | apply below_alloc | apply pw_below_drewN | apply below_drew1 | refine below_set ?_ GE199.out | refine below_set ?_ GE200.out | refine below_set ?_ GE209.out | refine below_set ?_ GE213.out | refine below_set ?_ GE227.out) | exact HB.out)) hb)
                            clear BK199
                            clear BK200
                            clear BK209
                            clear BK213
                            clear BK227
                            clear HB
                            have BK199 := n0_
                            have BK200 := n1_
                            have BK209 := n2_
                            have BK213 := n3_
                            have BK227 := n4_
                            have HB := n5_
                            clear n0_ n1_ n2_ n3_ n4_ n5_
                            (try clear hb)
                            (try clear hb2)
                            (try clear hk)
                            (try clear hi)
                            refine hK.out _ _ ⟨(blk_cell BK199.out 0).trans rfl, (blk_cell BK199.out 1).trans rfl, (blk_cell BK200.out 0).trans rfl, (blk_cell BK200.out 1).trans rfl⟩ (fun hHeld => ?_)
                            clear hK K
                            refine norm_ (a' := ?_) ?_ ?_
                            rotate_left
                            · show Act.put _ (some 72) _ = _
                              simp only [Act.put, List.setIfInBounds_toArray, List.set_cons_zero, List.set_cons_succ, i64_w, i32_w]
                              rfl
                            refine one_ (i := 4) (N := some 73) #[true, true, true, true, true, false, false, false, true, false, false] rfl rfl (one_of HT_.out (by kernel_rfl)) (by decide) (fun K hK => ?_)
                            refine goes_ Try.func16 (by kernel_rfl) rfl #[.agg #[.int .i64 t220, .int .i64 t221], .agg #[.int .i64 t222, .int .i64 t223]] (by rfl) rfl rfl (by (try simp only [List.map_toArray, List.map_cons, List.map_nil]); first | done | rfl | (simp only [List.length_drop, List.length_take]; rfl)) ?_
                            with_reducible refine (span_Meet.calls t220 t221 t222 t223 t224 t225 t226 _ A19.out).mono ?_
                            rintro e w65 ⟨rfl, hb⟩
                            refine ⟨_, rfl, ?_⟩
                            have n0_ := Aside0.mk (blk_below (g := gb199) (o := .cells #[.int .i64 a2_0, .int .i64 a2_1] 23 (0, 0)) (by (with_reducible repeat (first | refine blk_drewN ?_ _ | refine blk_drew ?_ | refine blk_alloc ?_ _)); exact BK199.out) hb)
                            have n1_ := Aside0.mk (blk_below (g := gb200) (o := .cells #[.int .i64 a3_0, .int .i64 a3_1] 23 (0, 0)) (by (with_reducible repeat (first | refine blk_drewN ?_ _ | refine blk_drew ?_ | refine blk_alloc ?_ _)); exact BK200.out) hb)
                            have n2_ := Aside0.mk (blk_below (g := gb209) (o := .cells #[.int .i64 t206, .int .i64 t207] 28 (0, 0)) (by (with_reducible repeat (first | refine blk_drewN ?_ _ | refine blk_drew ?_ | refine blk_alloc ?_ _)); exact BK209.out) hb)
                            have n3_ := Aside0.mk (blk_below (g := gb213) (o := .cells #[.int .i64 t210, .int .i64 t211] 23 (0, 0)) (by (with_reducible repeat (first | refine blk_drewN ?_ _ | refine blk_drew ?_ | refine blk_alloc ?_ _)); exact BK213.out) hb)
                            have n4_ := Aside0.mk (blk_below (g := gb227) (o := .cells #[.int .i64 0, .int .i64 0] 28 (0, 0)) (by (with_reducible repeat (first | refine blk_drewN ?_ _ | refine blk_drew ?_ | refine blk_alloc ?_ _)); exact BK227.out) hb)
                            have n5_ := Aside0.mk (below_step (by repeat (first | (with_reducible first | exact HB.out | apply below_alloc | apply pw_below_drewN | apply below_drew1 | refine below_set ?_ GE199.out | refine below_set ?_ GE200.out | refine below_set ?_ GE209.out | refine below_set ?_ GE213.out | refine below_set ?_ GE227.out) | exact HB.out)) hb)
                            clear BK199
                            clear BK200
                            clear BK209
                            clear BK213
                            clear BK227
                            clear HB
                            have BK199 := n0_
                            have BK200 := n1_
                            have BK209 := n2_
                            have BK213 := n3_
                            have BK227 := n4_
                            have HB := n5_
                            clear n0_ n1_ n2_ n3_ n4_ n5_
                            (try clear hb)
                            (try clear hb2)
                            (try clear hk)
                            (try clear hi)
                            refine hK.out _ _ ⟨(blk_cell BK199.out 0).trans rfl, (blk_cell BK199.out 1).trans rfl, (blk_cell BK200.out 0).trans rfl, (blk_cell BK200.out 1).trans rfl⟩ (fun hHeld => ?_)
                            clear hK K
                            refine norm_ (a' := ?_) ?_ ?_
                            rotate_left
                            · show Act.put _ (some 73) _ = _
                              simp only [Act.put, List.setIfInBounds_toArray, List.set_cons_zero, List.set_cons_succ, i64_w, i32_w]
                              rfl
                            refine pure_ (i := 5) (N := some 68) (v := ?_) (a' := ?_) #[true, true, true, true, true, true, false, false, true, false, false] rfl rfl (any_of HT_.out (by kernel_rfl)) (fun _ _ _ h => h) (Or.inl ⟨by rfl, ?_⟩) ?_ ?_
                            rotate_left
                            · intro w'
                              go_simp
                              with_reducible rfl
                            rotate_left
                            · simp only [Act.put, List.setIfInBounds_toArray, List.set_cons_zero, List.set_cons_succ, i64_w, i32_w]
                              rfl
                            refine pure_ (i := 6) (N := some 74) (v := ?_) (a' := ?_) #[true, true, true, true, true, true, true, false, true, false, false] rfl rfl (any_of HT_.out (by kernel_rfl)) (fun _ _ _ h => h) (Or.inl ⟨by rfl, ?_⟩) ?_ ?_
                            rotate_left
                            · intro w'
                              go_simp
                              with_reducible rfl
                            rotate_left
                            · simp only [Act.put, List.setIfInBounds_toArray, List.set_cons_zero, List.set_cons_succ, i64_w, i32_w]
                              rfl
                            refine pure_ (i := 7) (N := some 75) (v := ?_) (a' := ?_) #[true, true, true, true, true, true, true, true, true, false, false] rfl rfl (any_of HT_.out (by kernel_rfl)) (fun _ _ _ h => h) (Or.inl ⟨by rfl, ?_⟩) ?_ ?_
                            rotate_left
                            · intro w'
                              go_simp
                              with_reducible rfl
                            rotate_left
                            · simp only [Act.put, List.setIfInBounds_toArray, List.set_cons_zero, List.set_cons_succ, i64_w, i32_w]
                              rfl
                            exact norm_ (by simp only [putAll, Act.put, List.setIfInBounds_toArray, List.set_cons_zero, List.set_cons_succ]) (hCont (gb227) _ ⟨hHeld, (by (with_reducible repeat (first | refine blk_drewN ?_ _ | refine blk_drew ?_ | refine blk_alloc ?_ _)); exact BK199.out), (by (with_reducible repeat (first | refine blk_drewN ?_ _ | refine blk_drew ?_ | refine blk_alloc ?_ _)); exact BK200.out), (by (with_reducible repeat (first | refine blk_drewN ?_ _ | refine blk_drew ?_ | refine blk_alloc ?_ _)); exact BK209.out), (by (with_reducible repeat (first | refine blk_drewN ?_ _ | refine blk_drew ?_ | refine blk_alloc ?_ _)); exact BK213.out), (by (with_reducible repeat (first | refine blk_drewN ?_ _ | refine blk_drew ?_ | refine blk_alloc ?_ _)); exact BK227.out), GW227.out, GE227.out, NB199_227.out, NB227_199.out, NB200_227.out, NB227_200.out, NB209_227.out, NB227_209.out, NB213_227.out, NB227_213.out, (by repeat (first | (with_reducible first | exact HB.out | apply below_alloc | apply pw_below_drewN | apply below_drew1 | refine below_set ?_ GE199.out | refine below_set ?_ GE200.out | refine below_set ?_ GE209.out | refine below_set ?_ GE213.out | refine below_set ?_ GE227.out) | exact HB.out))⟩)
                        rintro gb227 w66 ⟨hS_, h0_, h1_, h2_, h3_, h4_, h5_, h6_, h7_, h8_, h9_, h10_, h11_, h12_, h13_, h14_, h15_⟩
                        have n0_ : Aside0 (w66.heap[gb199]? = some (.cells #[.int .i64 a2_0, .int .i64 a2_1] 23 (0, 0))) := ⟨h0_⟩
                        have n1_ : Aside0 (w66.heap[gb200]? = some (.cells #[.int .i64 a3_0, .int .i64 a3_1] 23 (0, 0))) := ⟨h1_⟩
                        have n2_ : Aside0 (w66.heap[gb209]? = some (.cells #[.int .i64 t206, .int .i64 t207] 28 (0, 0))) := ⟨h2_⟩
                        have n3_ : Aside0 (w66.heap[gb213]? = some (.cells #[.int .i64 t210, .int .i64 t211] 23 (0, 0))) := ⟨h3_⟩
                        have n4_ : Aside0 (w66.heap[gb227]? = some (.cells #[.int .i64 0, .int .i64 0] 28 (0, 0))) := ⟨h4_⟩
                        have n5_ : Aside0 (w.heap.size ≤ gb227) := ⟨h5_⟩
                        have n6_ : Aside0 (w.heap.size ≤ gb227) := ⟨h6_⟩
                        have n7_ : Aside0 (gb199 ≠ gb227) := ⟨h7_⟩
                        have n8_ : Aside0 (gb227 ≠ gb199) := ⟨h8_⟩
                        have n9_ : Aside0 (gb200 ≠ gb227) := ⟨h9_⟩
                        have n10_ : Aside0 (gb227 ≠ gb200) := ⟨h10_⟩
                        have n11_ : Aside0 (gb209 ≠ gb227) := ⟨h11_⟩
                        have n12_ : Aside0 (gb227 ≠ gb209) := ⟨h12_⟩
                        have n13_ : Aside0 (gb213 ≠ gb227) := ⟨h13_⟩
                        have n14_ : Aside0 (gb227 ≠ gb213) := ⟨h14_⟩
                        have n15_ : Aside0 (Below w.heap.size w w66) := ⟨h15_⟩
                        clear BK199
                        clear BK200
                        clear BK209
                        clear BK213
                        clear HB
                        clear h0_ h1_ h2_ h3_ h4_ h5_ h6_ h7_ h8_ h9_ h10_ h11_ h12_ h13_ h14_ h15_
                        have BK199 := n0_
                        have BK200 := n1_
                        have BK209 := n2_
                        have BK213 := n3_
                        have BK227 := n4_
                        have GW227 := n5_
                        have GE227 := n6_
                        have NB199_227 := n7_
                        have NB227_199 := n8_
                        have NB200_227 := n9_
                        have NB227_200 := n10_
                        have NB209_227 := n11_
                        have NB227_209 := n12_
                        have NB213_227 := n13_
                        have NB227_213 := n14_
                        have HB := n15_
                        clear n0_ n1_ n2_ n3_ n4_ n5_ n6_ n7_ n8_ n9_ n10_ n11_ n12_ n13_ n14_ n15_
                        have hHeld : w66.cell? ⟨gb199, 0, none⟩ = some (.int .i64 a2_0) ∧ w66.cell? ⟨gb199, 1, none⟩ = some (.int .i64 a2_1) ∧ w66.cell? ⟨gb200, 0, none⟩ = some (.int .i64 a3_0) ∧ w66.cell? ⟨gb200, 1, none⟩ = some (.int .i64 a3_1) := hS_
                        refine norm_ (a' := ?_) ?_ ?_
                        rotate_left
                        · simp only [putAll, Act.put, List.setIfInBounds_toArray, List.set_cons_zero, List.set_cons_succ]
                          rfl
                        refine one_ (i := 9) (N := none) #[true, true, true, true, true, true, true, true, true, true, false] rfl rfl (one_of HT_.out (by kernel_rfl)) (by decide) (fun K hK => ?_)
                        have hs67 : w66.cell? ⟨gb227, 0, none⟩ = some (.int .i64 0) := (blk_cell BK227.out 0).trans rfl
                        have hfs67 := blk_frozen BK227.out 0
                        have hns67_0 := NB199_227.out
                        have hns67_1 := NB200_227.out
                        have hns67_2 := NB209_227.out
                        have hns67_3 := NB213_227.out
                        have hms67_0 := NB227_199.out
                        have hms67_1 := NB227_200.out
                        have hms67_2 := NB227_209.out
                        have hms67_3 := NB227_213.out
                        have hs68 : w66.cell? ⟨gb227, 1, none⟩ = some (.int .i64 0) := (blk_cell BK227.out 1).trans rfl
                        have hfs68 := blk_frozen BK227.out 1
                        have hns68_0 := NB199_227.out
                        have hns68_1 := NB200_227.out
                        have hns68_2 := NB209_227.out
                        have hns68_3 := NB213_227.out
                        have hms68_0 := NB227_199.out
                        have hms68_1 := NB227_200.out
                        have hms68_2 := NB227_209.out
                        have hms68_3 := NB227_213.out
                        refine skip_ (w1 := ?_) (by rfl) rfl ?_ ?_
                        rotate_left
                        · go_simp
                          rfl
                        refine hK.out _ _ ⟨((cell_far (p := ⟨gb227, _, none⟩) NB199_227.out _).trans (((cell_far (p := ⟨gb227, _, none⟩) NB199_227.out _).trans (hHeld.1)))), ((cell_far (p := ⟨gb227, _, none⟩) NB199_227.out _).trans (((cell_far (p := ⟨gb227, _, none⟩) NB199_227.out _).trans (hHeld.2.1)))), ((cell_far (p := ⟨gb227, _, none⟩) NB200_227.out _).trans (((cell_far (p := ⟨gb227, _, none⟩) NB200_227.out _).trans (hHeld.2.2.1)))), ((cell_far (p := ⟨gb227, _, none⟩) NB200_227.out _).trans (((cell_far (p := ⟨gb227, _, none⟩) NB200_227.out _).trans (hHeld.2.2.2))))⟩ (fun hHeld => ?_)
                        clear hK K
                        refine pure_ (i := 10) (N := some 23) (v := ?_) (a' := ?_) #[true, true, true, true, true, true, true, true, true, true, true] rfl rfl (any_of HT_.out (by kernel_rfl)) (fun _ _ _ h => h) (Or.inl ⟨by rfl, ?_⟩) ?_ ?_
                        rotate_left
                        · intro w'
                          go_simp
                          with_reducible rfl
                        rotate_left
                        · simp only [Act.put, List.setIfInBounds_toArray, List.set_cons_zero, List.set_cons_succ, i64_w, i32_w]
                          rfl
                        refine done_ (done_of HT_.out (by kernel_rfl)) ?_
                        have hnb69 := NB199_227.out
                        have hnc69 := NB227_199.out
                        have hcz70_0 : w66.cell? ⟨gb199, 0, none⟩ = some (.int .i64 a2_0) := (blk_cell BK199.out 0).trans rfl
                        have hcz70_1 : w66.cell? ⟨gb199, 1, none⟩ = some (.int .i64 a2_1) := (blk_cell BK199.out 1).trans rfl
                        have hfz70_0 := blk_frozen BK199.out 0
                        have hfz70_1 := blk_frozen BK199.out 1
                        have hnb71 := NB200_227.out
                        have hnc71 := NB227_200.out
                        have hcz72_0 : w66.cell? ⟨gb200, 0, none⟩ = some (.int .i64 a3_0) := (blk_cell BK200.out 0).trans rfl
                        have hcz72_1 : w66.cell? ⟨gb200, 1, none⟩ = some (.int .i64 a3_1) := (blk_cell BK200.out 1).trans rfl
                        have hfz72_0 := blk_frozen BK200.out 0
                        have hfz72_1 := blk_frozen BK200.out 1
                        try go_wp2_with (first | ((with_reducible refine gate_callee (f := 21) rfl ?_); refine goesL_ (some 79) rfl rfl Try.func21 (by kernel_rfl) rfl #[.agg #[.int .i64 a2_0, .int .i64 a2_1], .agg #[.int .i64 a3_0, .int .i64 a3_1]] rfl (by (try simp only [List.map_toArray, List.map_cons, List.map_nil]); first | done | rfl | (simp only [List.length_drop, List.length_take]; rfl)) ?_; (with_reducible refine (heronryref12_Meet.calls a2_0 a2_1 a3_0 a3_1 t228 t229 t230 _ A20.out).mono ?_); rintro e w73 ⟨rfl, hb⟩; refine ⟨_, rfl, ?_⟩; have n0_ := Aside0.mk (blk_below (g := gb199) (o := .cells #[.int .i64 a2_0, .int .i64 a2_1] 23 (0, 0)) (by (with_reducible repeat (first | refine blk_drewN ?_ _ | refine blk_drew ?_ | refine blk_alloc ?_ _)); refine blk_far ?_ NB199_227.out _; (with_reducible repeat (first | refine blk_drewN ?_ _ | refine blk_drew ?_ | refine blk_alloc ?_ _)); refine blk_far ?_ NB199_227.out _; (with_reducible repeat (first | refine blk_drewN ?_ _ | refine blk_drew ?_ | refine blk_alloc ?_ _)); exact BK199.out) hb); have n1_ := Aside0.mk (blk_below (g := gb200) (o := .cells #[.int .i64 a3_0, .int .i64 a3_1] 23 (0, 0)) (by (with_reducible repeat (first | refine blk_drewN ?_ _ | refine blk_drew ?_ | refine blk_alloc ?_ _)); refine blk_far ?_ NB200_227.out _; (with_reducible repeat (first | refine blk_drewN ?_ _ | refine blk_drew ?_ | refine blk_alloc ?_ _)); refine blk_far ?_ NB200_227.out _; (with_reducible repeat (first | refine blk_drewN ?_ _ | refine blk_drew ?_ | refine blk_alloc ?_ _)); exact BK200.out) hb); have n2_ := Aside0.mk (blk_below (g := gb209) (o := .cells #[.int .i64 t206, .int .i64 t207] 28 (0, 0)) (by (with_reducible repeat (first | refine blk_drewN ?_ _ | refine blk_drew ?_ | refine blk_alloc ?_ _)); refine blk_far ?_ NB209_227.out _; (with_reducible repeat (first | refine blk_drewN ?_ _ | refine blk_drew ?_ | refine blk_alloc ?_ _)); refine blk_far ?_ NB209_227.out _; (with_reducible repeat (first | refine blk_drewN ?_ _ | refine blk_drew ?_ | refine blk_alloc ?_ _)); exact BK209.out) hb); have n3_ := Aside0.mk (blk_below (g := gb213) (o := .cells #[.int .i64 t210, .int .i64 t211] 23 (0, 0)) (by (with_reducible repeat (first | refine blk_drewN ?_ _ | refine blk_drew ?_ | refine blk_alloc ?_ _)); refine blk_far ?_ NB213_227.out _; (with_reducible repeat (first | refine blk_drewN ?_ _ | refine blk_drew ?_ | refine blk_alloc ?_ _)); refine blk_far ?_ NB213_227.out _; (with_reducible repeat (first | refine blk_drewN ?_ _ | refine blk_drew ?_ | refine blk_alloc ?_ _)); exact BK213.out) hb); have n4_ := Aside0.mk (blk_below (g := gb227) (o := .cells #[.int .i64 t224, .int .i64 t225] 28 (0, 0)) (by (with_reducible repeat (first | refine blk_drewN ?_ _ | refine blk_drew ?_ | refine blk_alloc ?_ _)); refine blk_put (cs := #[.int .i64 t224, .int .i64 0]) ?_ 1 _ rfl; (with_reducible repeat (first | refine blk_drewN ?_ _ | refine blk_drew ?_ | refine blk_alloc ?_ _)); refine blk_put (cs := #[.int .i64 0, .int .i64 0]) ?_ 0 _ rfl; (with_reducible repeat (first | refine blk_drewN ?_ _ | refine blk_drew ?_ | refine blk_alloc ?_ _)); exact BK227.out) hb); have n5_ := Aside0.mk (below_step (by repeat (first | (with_reducible first | exact HB.out | apply below_alloc | apply pw_below_drewN | apply below_drew1 | refine below_set ?_ GE199.out | refine below_set ?_ GE200.out | refine below_set ?_ GE209.out | refine below_set ?_ GE213.out | refine below_set ?_ GE227.out) | exact HB.out)) hb); clear BK199; clear BK200; clear BK209; clear BK213; clear BK227; clear HB; have BK199 := n0_; have BK200 := n1_; have BK209 := n2_; have BK213 := n3_; have BK227 := n4_; have HB := n5_; clear n0_ n1_ n2_ n3_ n4_ n5_; (try clear hb); (try clear hb2); (try clear hk); (try clear hi)) | ((with_reducible refine gate_dst (N := 24) rfl ?_); refine box_event ?hg (N := 24) ?hd (cs := #[.int .i64 0, .int .i64 0]) (t := 23) ?hr ?_; (case hd => rfl); (case hg => rfl); (case hr => first | (go_simp; done) | (go_simp; rfl)); intro gb231 hg w74 hbox hb; have n0_ := Aside0.mk (blk_below (g := gb199) (o := .cells #[.int .i64 a2_0, .int .i64 a2_1] 23 (0, 0)) (by (with_reducible repeat (first | refine blk_drewN ?_ _ | refine blk_drew ?_ | refine blk_alloc ?_ _)); exact BK199.out) hb); have n1_ := Aside0.mk (blk_below (g := gb200) (o := .cells #[.int .i64 a3_0, .int .i64 a3_1] 23 (0, 0)) (by (with_reducible repeat (first | refine blk_drewN ?_ _ | refine blk_drew ?_ | refine blk_alloc ?_ _)); exact BK200.out) hb); have n2_ := Aside0.mk (blk_below (g := gb209) (o := .cells #[.int .i64 t206, .int .i64 t207] 28 (0, 0)) (by (with_reducible repeat (first | refine blk_drewN ?_ _ | refine blk_drew ?_ | refine blk_alloc ?_ _)); exact BK209.out) hb); have n3_ := Aside0.mk (blk_below (g := gb213) (o := .cells #[.int .i64 t210, .int .i64 t211] 23 (0, 0)) (by (with_reducible repeat (first | refine blk_drewN ?_ _ | refine blk_drew ?_ | refine blk_alloc ?_ _)); exact BK213.out) hb); have n4_ := Aside0.mk (blk_below (g := gb227) (o := .cells #[.int .i64 t224, .int .i64 t225] 28 (0, 0)) (by (with_reducible repeat (first | refine blk_drewN ?_ _ | refine blk_drew ?_ | refine blk_alloc ?_ _)); exact BK227.out) hb); have n5_ := Aside0.mk (below_step (by repeat (first | (with_reducible first | exact HB.out | apply below_alloc | apply pw_below_drewN | apply below_drew1 | refine below_set ?_ GE199.out | refine below_set ?_ GE200.out | refine below_set ?_ GE209.out | refine below_set ?_ GE213.out | refine below_set ?_ GE227.out) | exact HB.out)) hb); have n6_ := Aside0.mk (hbox); have n7_ := Aside0.mk ((by rw [hg]; exact (below_size (by repeat (first | (with_reducible first | exact HB.out | apply below_alloc | apply pw_below_drewN | apply below_drew1 | refine below_set ?_ GE199.out | refine below_set ?_ GE200.out | refine below_set ?_ GE209.out | refine below_set ?_ GE213.out | refine below_set ?_ GE227.out) | exact HB.out))) : w.heap.size ≤ gb231)); have n8_ := Aside0.mk ((by rw [hg]; exact (below_size (by repeat (first | (with_reducible first | exact HB.out | apply below_alloc | apply pw_below_drewN | apply below_drew1 | refine below_set ?_ GE199.out | refine below_set ?_ GE200.out | refine below_set ?_ GE209.out | refine below_set ?_ GE213.out | refine below_set ?_ GE227.out) | exact HB.out))) : w.heap.size ≤ gb231)); have n9_ := Aside0.mk ((by rw [hg]; exact Nat.ne_of_lt (blk_lt (g := gb199) (o := .cells #[.int .i64 a2_0, .int .i64 a2_1] 23 (0, 0)) (by (with_reducible repeat (first | refine blk_drewN ?_ _ | refine blk_drew ?_ | refine blk_alloc ?_ _)); exact BK199.out)) : gb199 ≠ gb231)); have n10_ := Aside0.mk ((by rw [hg]; exact Nat.ne_of_gt (blk_lt (g := gb199) (o := .cells #[.int .i64 a2_0, .int .i64 a2_1] 23 (0, 0)) (by (with_reducible repeat (first | refine blk_drewN ?_ _ | refine blk_drew ?_ | refine blk_alloc ?_ _)); exact BK199.out)) : gb231 ≠ gb199)); have n11_ := Aside0.mk ((by rw [hg]; exact Nat.ne_of_lt (blk_lt (g := gb200) (o := .cells #[.int .i64 a3_0, .int .i64 a3_1] 23 (0, 0)) (by (with_reducible repeat (first | refine blk_drewN ?_ _ | refine blk_drew ?_ | refine blk_alloc ?_ _)); exact BK200.out)) : gb200 ≠ gb231)); have n12_ := Aside0.mk ((by rw [hg]; exact Nat.ne_of_gt (blk_lt (g := gb200) (o := .cells #[.int .i64 a3_0, .int .i64 a3_1] 23 (0, 0)) (by (with_reducible repeat (first | refine blk_drewN ?_ _ | refine blk_drew ?_ | refine blk_alloc ?_ _)); exact BK200.out)) : gb231 ≠ gb200)); have n13_ := Aside0.mk ((by rw [hg]; exact Nat.ne_of_lt (blk_lt (g := gb209) (o := .cells #[.int .i64 t206, .int .i64 t207] 28 (0, 0)) (by (with_reducible repeat (first | refine blk_drewN ?_ _ | refine blk_drew ?_ | refine blk_alloc ?_ _)); exact BK209.out)) : gb209 ≠ gb231)); have n14_ := Aside0.mk ((by rw [hg]; exact Nat.ne_of_gt (blk_lt (g := gb209) (o := .cells #[.int .i64 t206, .int .i64 t207] 28 (0, 0)) (by (with_reducible repeat (first | refine blk_drewN ?_ _ | refine blk_drew ?_ | refine blk_alloc ?_ _)); exact BK209.out)) : gb231 ≠ gb209)); have n15_ := Aside0.mk ((by rw [hg]; exact Nat.ne_of_lt (blk_lt (g := gb213) (o := .cells #[.int .i64 t210, .int .i64 t211] 23 (0, 0)) (by (with_reducible repeat (first | refine blk_drewN ?_ _ | refine blk_drew ?_ | refine blk_alloc ?_ _)); exact BK213.out)) : gb213 ≠ gb231)); have n16_ := Aside0.mk ((by rw [hg]; exact Nat.ne_of_gt (blk_lt (g := gb213) (o := .cells #[.int .i64 t210, .int .i64 t211] 23 (0, 0)) (by (with_reducible repeat (first | refine blk_drewN ?_ _ | refine blk_drew ?_ | refine blk_alloc ?_ _)); exact BK213.out)) : gb231 ≠ gb213)); have n17_ := Aside0.mk ((by rw [hg]; exact Nat.ne_of_lt (blk_lt (g := gb227) (o := .cells #[.int .i64 t224, .int .i64 t225] 28 (0, 0)) (by (with_reducible repeat (first | refine blk_drewN ?_ _ | refine blk_drew ?_ | refine blk_alloc ?_ _)); exact BK227.out)) : gb227 ≠ gb231)); have n18_ := Aside0.mk ((by rw [hg]; exact Nat.ne_of_gt (blk_lt (g := gb227) (o := .cells #[.int .i64 t224, .int .i64 t225] 28 (0, 0)) (by (with_reducible repeat (first | refine blk_drewN ?_ _ | refine blk_drew ?_ | refine blk_alloc ?_ _)); exact BK227.out)) : gb231 ≠ gb227)); clear BK199; clear BK200; clear BK209; clear BK213; clear BK227; clear HB; have BK199 := n0_; have BK200 := n1_; have BK209 := n2_; have BK213 := n3_; have BK227 := n4_; have HB := n5_; have BK231 := n6_; have GW231 := n7_; have GE231 := n8_; have NB199_231 := n9_; have NB231_199 := n10_; have NB200_231 := n11_; have NB231_200 := n12_; have NB209_231 := n13_; have NB231_209 := n14_; have NB213_231 := n15_; have NB231_213 := n16_; have NB227_231 := n17_; have NB231_227 := n18_; clear n0_ n1_ n2_ n3_ n4_ n5_ n6_ n7_ n8_ n9_ n10_ n11_ n12_ n13_ n14_ n15_ n16_ n17_ n18_; clear hb hbox hg; have hnb75 := NB231_199.out; have hnc75 := NB199_231.out; have hnb76 := NB231_200.out; have hnc76 := NB200_231.out; have hnb77 := NB231_209.out; have hnc77 := NB209_231.out; have hnb78 := NB231_213.out; have hnc78 := NB213_231.out; have hnb79 := NB231_227.out; have hnc79 := NB227_231.out; have hcz80_0 : w74.cell? ⟨gb231, 0, none⟩ = some (.int .i64 0) := (blk_cell BK231.out 0).trans rfl; have hcz80_1 : w74.cell? ⟨gb231, 1, none⟩ = some (.int .i64 0) := (blk_cell BK231.out 1).trans rfl; have hfz80_0 := blk_frozen BK231.out 0; have hfz80_1 := blk_frozen BK231.out 1))
                        have n0_ : Aside0 (((w74.setCell ⟨gb231, 0, none⟩ (.int .i64 t228)).setCell ⟨gb231, 1, none⟩ (.int .i64 t229)).heap[gb199]? = some (.cells #[.int .i64 a2_0, .int .i64 a2_1] 23 (0, 0))) := ⟨by (with_reducible repeat (first | refine blk_drewN ?_ _ | refine blk_drew ?_ | refine blk_alloc ?_ _)); refine blk_far ?_ NB199_231.out _; (with_reducible repeat (first | refine blk_drewN ?_ _ | refine blk_drew ?_ | refine blk_alloc ?_ _)); refine blk_far ?_ NB199_231.out _; (with_reducible repeat (first | refine blk_drewN ?_ _ | refine blk_drew ?_ | refine blk_alloc ?_ _)); exact BK199.out⟩
                        have n1_ : Aside0 (((w74.setCell ⟨gb231, 0, none⟩ (.int .i64 t228)).setCell ⟨gb231, 1, none⟩ (.int .i64 t229)).heap[gb200]? = some (.cells #[.int .i64 a3_0, .int .i64 a3_1] 23 (0, 0))) := ⟨by (with_reducible repeat (first | refine blk_drewN ?_ _ | refine blk_drew ?_ | refine blk_alloc ?_ _)); refine blk_far ?_ NB200_231.out _; (with_reducible repeat (first | refine blk_drewN ?_ _ | refine blk_drew ?_ | refine blk_alloc ?_ _)); refine blk_far ?_ NB200_231.out _; (with_reducible repeat (first | refine blk_drewN ?_ _ | refine blk_drew ?_ | refine blk_alloc ?_ _)); exact BK200.out⟩
                        have n2_ : Aside0 (((w74.setCell ⟨gb231, 0, none⟩ (.int .i64 t228)).setCell ⟨gb231, 1, none⟩ (.int .i64 t229)).heap[gb209]? = some (.cells #[.int .i64 t206, .int .i64 t207] 28 (0, 0))) := ⟨by (with_reducible repeat (first | refine blk_drewN ?_ _ | refine blk_drew ?_ | refine blk_alloc ?_ _)); refine blk_far ?_ NB209_231.out _; (with_reducible repeat (first | refine blk_drewN ?_ _ | refine blk_drew ?_ | refine blk_alloc ?_ _)); refine blk_far ?_ NB209_231.out _; (with_reducible repeat (first | refine blk_drewN ?_ _ | refine blk_drew ?_ | refine blk_alloc ?_ _)); exact BK209.out⟩
                        have n3_ : Aside0 (((w74.setCell ⟨gb231, 0, none⟩ (.int .i64 t228)).setCell ⟨gb231, 1, none⟩ (.int .i64 t229)).heap[gb213]? = some (.cells #[.int .i64 t210, .int .i64 t211] 23 (0, 0))) := ⟨by (with_reducible repeat (first | refine blk_drewN ?_ _ | refine blk_drew ?_ | refine blk_alloc ?_ _)); refine blk_far ?_ NB213_231.out _; (with_reducible repeat (first | refine blk_drewN ?_ _ | refine blk_drew ?_ | refine blk_alloc ?_ _)); refine blk_far ?_ NB213_231.out _; (with_reducible repeat (first | refine blk_drewN ?_ _ | refine blk_drew ?_ | refine blk_alloc ?_ _)); exact BK213.out⟩
                        have n4_ : Aside0 (((w74.setCell ⟨gb231, 0, none⟩ (.int .i64 t228)).setCell ⟨gb231, 1, none⟩ (.int .i64 t229)).heap[gb227]? = some (.cells #[.int .i64 t224, .int .i64 t225] 28 (0, 0))) := ⟨by (with_reducible repeat (first | refine blk_drewN ?_ _ | refine blk_drew ?_ | refine blk_alloc ?_ _)); refine blk_far ?_ NB227_231.out _; (with_reducible repeat (first | refine blk_drewN ?_ _ | refine blk_drew ?_ | refine blk_alloc ?_ _)); refine blk_far ?_ NB227_231.out _; (with_reducible repeat (first | refine blk_drewN ?_ _ | refine blk_drew ?_ | refine blk_alloc ?_ _)); exact BK227.out⟩
                        have n5_ : Aside0 (((w74.setCell ⟨gb231, 0, none⟩ (.int .i64 t228)).setCell ⟨gb231, 1, none⟩ (.int .i64 t229)).heap[gb231]? = some (.cells #[.int .i64 t228, .int .i64 t229] 23 (0, 0))) := ⟨by (with_reducible repeat (first | refine blk_drewN ?_ _ | refine blk_drew ?_ | refine blk_alloc ?_ _)); refine blk_put (cs := #[.int .i64 t228, .int .i64 0]) ?_ 1 _ rfl; (with_reducible repeat (first | refine blk_drewN ?_ _ | refine blk_drew ?_ | refine blk_alloc ?_ _)); refine blk_put (cs := #[.int .i64 0, .int .i64 0]) ?_ 0 _ rfl; (with_reducible repeat (first | refine blk_drewN ?_ _ | refine blk_drew ?_ | refine blk_alloc ?_ _)); exact BK231.out⟩
                        have n6_ : Aside0 (Below w.heap.size w ((w74.setCell ⟨gb231, 0, none⟩ (.int .i64 t228)).setCell ⟨gb231, 1, none⟩ (.int .i64 t229))) := ⟨by repeat (first | (with_reducible first | exact HB.out | apply below_alloc | apply pw_below_drewN | apply below_drew1 | refine below_set ?_ GE199.out | refine below_set ?_ GE200.out | refine below_set ?_ GE209.out | refine below_set ?_ GE213.out | refine below_set ?_ GE227.out | refine below_set ?_ GE231.out) | exact HB.out)⟩
                        (try clear BK199)
                        (try clear BK200)
                        (try clear BK209)
                        (try clear BK213)
                        (try clear BK227)
                        (try clear BK231)
                        (try clear HB)
                        generalize ((w74.setCell ⟨gb231, 0, none⟩ (.int .i64 t228)).setCell ⟨gb231, 1, none⟩ (.int .i64 t229)) = w81 at n0_ n1_ n2_ n3_ n4_ n5_ n6_ ⊢
                        have BK199 := n0_
                        have BK200 := n1_
                        have BK209 := n2_
                        have BK213 := n3_
                        have BK227 := n4_
                        have BK231 := n5_
                        have HB := n6_
                        clear n0_ n1_ n2_ n3_ n4_ n5_ n6_
                        have n0_ := Aside0.mk (blk_drew BK199.out)
                        have n1_ := Aside0.mk (blk_drew BK200.out)
                        have n2_ := Aside0.mk (blk_drew BK209.out)
                        have n3_ := Aside0.mk (blk_drew BK213.out)
                        have n4_ := Aside0.mk (blk_drew BK227.out)
                        have n5_ := Aside0.mk (blk_drew BK231.out)
                        have n6_ := Aside0.mk (below_drew1 HB.out)
                        clear BK199
                        clear BK200
                        clear BK209
                        clear BK213
                        clear BK227
                        clear BK231
                        clear HB
                        have BK199 := n0_
                        have BK200 := n1_
                        have BK209 := n2_
                        have BK213 := n3_
                        have BK227 := n4_
                        have BK231 := n5_
                        have HB := n6_
                        clear n0_ n1_ n2_ n3_ n4_ n5_ n6_
                        refine start_ (n := 66) (S := fun w' => w'.cell? ⟨gb209, 0, none⟩ = some (.int .i64 t206) ∧ w'.cell? ⟨gb209, 1, none⟩ = some (.int .i64 t207) ∧ w'.cell? ⟨gb213, 0, none⟩ = some (.int .i64 t210) ∧ w'.cell? ⟨gb213, 1, none⟩ = some (.int .i64 t211) ∧ w'.cell? ⟨gb199, 0, none⟩ = some (.int .i64 a2_0) ∧ w'.cell? ⟨gb199, 1, none⟩ = some (.int .i64 a2_1) ∧ w'.cell? ⟨gb227, 0, none⟩ = some (.int .i64 t224) ∧ w'.cell? ⟨gb227, 1, none⟩ = some (.int .i64 t225) ∧ w'.cell? ⟨gb231, 0, none⟩ = some (.int .i64 t228) ∧ w'.cell? ⟨gb231, 1, none⟩ = some (.int .i64 t229)) (ds := []) #[false, false, false, false, false, false, false, false, false, false, false, false, false, false, false, false, false, false, false, false, false, false, false, false, false, false, false, false, false, false, false, false, false, false, false, false, false, false, false, false, false, false, false, false, false, false, false, false, false, false, false, false, false, false, false, false, false, false, false, false, false, false, false, false, false, false] (by kernel_rfl) rfl rfl ⟨(blk_cell BK209.out 0).trans rfl, (blk_cell BK209.out 1).trans rfl, (blk_cell BK213.out 0).trans rfl, (blk_cell BK213.out 1).trans rfl, (blk_cell BK199.out 0).trans rfl, (blk_cell BK199.out 1).trans rfl, (blk_cell BK227.out 0).trans rfl, (blk_cell BK227.out 1).trans rfl, (blk_cell BK231.out 0).trans rfl, (blk_cell BK231.out 1).trans rfl⟩ (fun hHeld => ?_); refine with_tabW heronrylaw12_SpanIs.tab12 heronrylaw12_SpanIs.bits12 (fun HT_ HW_ => ?_)
                        generalize w81.drew = w82 at BK199 BK200 BK209 BK213 BK227 BK231 HB hHeld ⊢
                        refine pure_ (i := 0) (N := some 82) (v := ?_) (a' := ?_) #[true, false, false, false, false, false, false, false, false, false, false, false, false, false, false, false, false, false, false, false, false, false, false, false, false, false, false, false, false, false, false, false, false, false, false, false, false, false, false, false, false, false, false, false, false, false, false, false, false, false, false, false, false, false, false, false, false, false, false, false, false, false, false, false, false, false] rfl rfl (any_of HT_.out (by kernel_rfl)) (fun _ _ _ h => h) (Or.inl ⟨by rfl, ?_⟩) ?_ ?_
                        rotate_left
                        · intro w'
                          go_simp
                          with_reducible rfl
                        rotate_left
                        · simp only [Act.put, List.setIfInBounds_toArray, List.set_cons_zero, List.set_cons_succ, i64_w, i32_w]
                          rfl
                        refine pure_ (i := 1) (N := some 83) (v := ?_) (a' := ?_) #[true, true, false, false, false, false, false, false, false, false, false, false, false, false, false, false, false, false, false, false, false, false, false, false, false, false, false, false, false, false, false, false, false, false, false, false, false, false, false, false, false, false, false, false, false, false, false, false, false, false, false, false, false, false, false, false, false, false, false, false, false, false, false, false, false, false] rfl rfl (any_of HT_.out (by kernel_rfl)) (fun _ _ _ h => h) (Or.inl ⟨by rfl, ?_⟩) ?_ ?_
                        rotate_left
                        · intro w'
                          go_simp
                          with_reducible rfl
                        rotate_left
                        · simp only [Act.put, List.setIfInBounds_toArray, List.set_cons_zero, List.set_cons_succ, i64_w, i32_w]
                          rfl
                        refine pure_ (i := 2) (N := some 84) (v := ?_) (a' := ?_) #[true, true, true, false, false, false, false, false, false, false, false, false, false, false, false, false, false, false, false, false, false, false, false, false, false, false, false, false, false, false, false, false, false, false, false, false, false, false, false, false, false, false, false, false, false, false, false, false, false, false, false, false, false, false, false, false, false, false, false, false, false, false, false, false, false, false] rfl rfl (any_of HT_.out (by kernel_rfl)) (fun _ _ _ h => h) (Or.inl ⟨by rfl, ?_⟩) ?_ ?_
                        rotate_left
                        · intro w'
                          go_simp
                          with_reducible rfl
                        rotate_left
                        · simp only [Act.put, List.setIfInBounds_toArray, List.set_cons_zero, List.set_cons_succ, i64_w, i32_w]
                          rfl
                        refine pure_ (i := 3) (N := some 85) (v := ?_) (a' := ?_) #[true, true, true, true, false, false, false, false, false, false, false, false, false, false, false, false, false, false, false, false, false, false, false, false, false, false, false, false, false, false, false, false, false, false, false, false, false, false, false, false, false, false, false, false, false, false, false, false, false, false, false, false, false, false, false, false, false, false, false, false, false, false, false, false, false, false] rfl rfl (any_of HT_.out (by kernel_rfl)) (fun _ _ _ h => h) (Or.inl ⟨by rfl, ?_⟩) ?_ ?_
                        rotate_left
                        · intro w'
                          go_simp
                          with_reducible rfl
                        rotate_left
                        · simp only [Act.put, List.setIfInBounds_toArray, List.set_cons_zero, List.set_cons_succ, i64_w, i32_w]
                          rfl
                        refine pure_ (i := 4) (N := some 86) (v := ?_) (a' := ?_) #[true, true, true, true, true, false, false, false, false, false, false, false, false, false, false, false, false, false, false, false, false, false, false, false, false, false, false, false, false, false, false, false, false, false, false, false, false, false, false, false, false, false, false, false, false, false, false, false, false, false, false, false, false, false, false, false, false, false, false, false, false, false, false, false, false, false] rfl rfl (any_of HT_.out (by kernel_rfl)) (fun _ _ _ h => h) (Or.inl ⟨by rfl, ?_⟩) ?_ ?_
                        rotate_left
                        · intro w'
                          go_simp
                          with_reducible rfl
                        rotate_left
                        · simp only [Act.put, List.setIfInBounds_toArray, List.set_cons_zero, List.set_cons_succ, i64_w, i32_w]
                          rfl
                        refine pure_ (i := 5) (N := some 87) (v := ?_) (a' := ?_) #[true, true, true, true, true, true, false, false, false, false, false, false, false, false, false, false, false, false, false, false, false, false, false, false, false, false, false, false, false, false, false, false, false, false, false, false, false, false, false, false, false, false, false, false, false, false, false, false, false, false, false, false, false, false, false, false, false, false, false, false, false, false, false, false, false, false] rfl rfl (any_of HT_.out (by kernel_rfl)) (fun _ _ _ h => h) (Or.inl ⟨by rfl, ?_⟩) ?_ ?_
                        rotate_left
                        · intro w'
                          go_simp
                          with_reducible rfl
                        rotate_left
                        · simp only [Act.put, List.setIfInBounds_toArray, List.set_cons_zero, List.set_cons_succ, i64_w, i32_w]
                          rfl
                        refine pure_ (i := 6) (N := some 88) (v := ?_) (a' := ?_) #[true, true, true, true, true, true, true, false, false, false, false, false, false, false, false, false, false, false, false, false, false, false, false, false, false, false, false, false, false, false, false, false, false, false, false, false, false, false, false, false, false, false, false, false, false, false, false, false, false, false, false, false, false, false, false, false, false, false, false, false, false, false, false, false, false, false] rfl rfl (any_of HT_.out (by kernel_rfl)) (fun _ _ _ h => h) (Or.inl ⟨by rfl, ?_⟩) ?_ ?_
                        rotate_left
                        · intro w'
                          go_simp
                          with_reducible rfl
                        rotate_left
                        · simp only [Act.put, List.setIfInBounds_toArray, List.set_cons_zero, List.set_cons_succ, i64_w, i32_w]
                          rfl
                        refine pure_ (i := 7) (N := some 89) (v := ?_) (a' := ?_) #[true, true, true, true, true, true, true, true, false, false, false, false, false, false, false, false, false, false, false, false, false, false, false, false, false, false, false, false, false, false, false, false, false, false, false, false, false, false, false, false, false, false, false, false, false, false, false, false, false, false, false, false, false, false, false, false, false, false, false, false, false, false, false, false, false, false] rfl rfl (any_of HT_.out (by kernel_rfl)) (fun _ _ _ h => h) (Or.inl ⟨by rfl, ?_⟩) ?_ ?_
                        rotate_left
                        · intro w'
                          go_simp
                          with_reducible rfl
                        rotate_left
                        · simp only [Act.put, List.setIfInBounds_toArray, List.set_cons_zero, List.set_cons_succ, i64_w, i32_w]
                          rfl
                        refine pure_ (i := 8) (N := some 90) (v := ?_) (a' := ?_) #[true, true, true, true, true, true, true, true, true, false, false, false, false, false, false, false, false, false, false, false, false, false, false, false, false, false, false, false, false, false, false, false, false, false, false, false, false, false, false, false, false, false, false, false, false, false, false, false, false, false, false, false, false, false, false, false, false, false, false, false, false, false, false, false, false, false] rfl rfl (any_of HT_.out (by kernel_rfl)) (fun _ _ _ h => h) (Or.inl ⟨by rfl, ?_⟩) ?_ ?_
                        rotate_left
                        · intro w'
                          go_simp
                          with_reducible rfl
                        rotate_left
                        · simp only [Act.put, List.setIfInBounds_toArray, List.set_cons_zero, List.set_cons_succ, i64_w, i32_w]
                          rfl
                        refine pure_ (i := 9) (N := some 91) (v := ?_) (a' := ?_) #[true, true, true, true, true, true, true, true, true, true, false, false, false, false, false, false, false, false, false, false, false, false, false, false, false, false, false, false, false, false, false, false, false, false, false, false, false, false, false, false, false, false, false, false, false, false, false, false, false, false, false, false, false, false, false, false, false, false, false, false, false, false, false, false, false, false] rfl rfl (any_of HT_.out (by kernel_rfl)) (fun _ _ _ h => h) (Or.inl ⟨by rfl, ?_⟩) ?_ ?_
                        rotate_left
                        · intro w'
                          go_simp
                          with_reducible rfl
                        rotate_left
                        · simp only [Act.put, List.setIfInBounds_toArray, List.set_cons_zero, List.set_cons_succ, i64_w, i32_w]
                          rfl
                        refine pure_ (i := 10) (N := some 92) (v := ?_) (a' := ?_) #[true, true, true, true, true, true, true, true, true, true, true, false, false, false, false, false, false, false, false, false, false, false, false, false, false, false, false, false, false, false, false, false, false, false, false, false, false, false, false, false, false, false, false, false, false, false, false, false, false, false, false, false, false, false, false, false, false, false, false, false, false, false, false, false, false, false] rfl rfl (any_of HT_.out (by kernel_rfl)) (fun _ _ _ h => h) (Or.inl ⟨by rfl, ?_⟩) ?_ ?_
                        rotate_left
                        · intro w'
                          go_simp
                          with_reducible rfl
                        rotate_left
                        · simp only [Act.put, List.setIfInBounds_toArray, List.set_cons_zero, List.set_cons_succ, i64_w, i32_w]
                          rfl
                        refine pure_ (i := 11) (N := some 93) (v := ?_) (a' := ?_) #[true, true, true, true, true, true, true, true, true, true, true, true, false, false, false, false, false, false, false, false, false, false, false, false, false, false, false, false, false, false, false, false, false, false, false, false, false, false, false, false, false, false, false, false, false, false, false, false, false, false, false, false, false, false, false, false, false, false, false, false, false, false, false, false, false, false] rfl rfl (any_of HT_.out (by kernel_rfl)) (fun _ _ _ h => h) (Or.inl ⟨by rfl, ?_⟩) ?_ ?_
                        rotate_left
                        · intro w'
                          go_simp
                          with_reducible rfl
                        rotate_left
                        · simp only [Act.put, List.setIfInBounds_toArray, List.set_cons_zero, List.set_cons_succ, i64_w, i32_w]
                          rfl
                        refine take_ (i := 12) (N := some 94) (v := ?_) (a' := ?_) #[true, true, true, true, true, true, true, true, true, true, true, true, true, false, false, false, false, false, false, false, false, false, false, false, false, false, false, false, false, false, false, false, false, false, false, false, false, false, false, false, false, false, false, false, false, false, false, false, false, false, false, false, false, false, false, false, false, false, false, false, false, false, false, false, false, false] rfl rfl (take_ofW HT_.out HW_.out (by kernel_rfl)) (fun _ _ _ h => h) (Or.inl ⟨by rfl, ?_⟩) hHeld ?_ ?_
                        rotate_left
                        · rintro w' ⟨s0, s1, s2, s3, s4, s5, s6, s7, s8, s9⟩
                          go_simp
                          with_reducible rfl
                        rotate_left
                        · simp only [Act.put, List.setIfInBounds_toArray, List.set_cons_zero, List.set_cons_succ, i64_w, i32_w]
                          rfl
                        refine take_ (i := 14) (N := some 96) (v := ?_) (a' := ?_) #[true, true, true, true, true, true, true, true, true, true, true, true, true, false, true, false, false, false, false, false, false, false, false, false, false, false, false, false, false, false, false, false, false, false, false, false, false, false, false, false, false, false, false, false, false, false, false, false, false, false, false, false, false, false, false, false, false, false, false, false, false, false, false, false, false, false] rfl rfl (take_ofW HT_.out HW_.out (by kernel_rfl)) (fun _ _ _ h => h) (Or.inl ⟨by rfl, ?_⟩) hHeld ?_ ?_
                        rotate_left
                        · rintro w' ⟨s0, s1, s2, s3, s4, s5, s6, s7, s8, s9⟩
                          go_simp
                          with_reducible rfl
                        rotate_left
                        · simp only [Act.put, List.setIfInBounds_toArray, List.set_cons_zero, List.set_cons_succ, i64_w, i32_w]
                          rfl
                        refine one_ (i := 13) (N := some 95) #[true, true, true, true, true, true, true, true, true, true, true, true, true, true, true, false, false, false, false, false, false, false, false, false, false, false, false, false, false, false, false, false, false, false, false, false, false, false, false, false, false, false, false, false, false, false, false, false, false, false, false, false, false, false, false, false, false, false, false, false, false, false, false, false, false, false] rfl rfl (one_of HT_.out (by kernel_rfl)) (by decide) (fun K hK => ?_)
                        refine goes_ Try.func22 (by kernel_rfl) rfl #[.agg #[.int .i64 t206, .int .i64 t207]] (by rfl) rfl rfl (by (try simp only [List.map_toArray, List.map_cons, List.map_nil]); first | done | rfl | (simp only [List.length_drop, List.length_take]; rfl)) ?_
                        with_reducible refine (heronrylaw12_theirs.calls t206 t207 t232 t233 _ A24.out).mono ?_
                        rintro e w83 ⟨rfl, hb⟩
                        refine ⟨_, rfl, ?_⟩
                        have n0_ := Aside0.mk (blk_below (g := gb199) (o := .cells #[.int .i64 a2_0, .int .i64 a2_1] 23 (0, 0)) (by (with_reducible repeat (first | refine blk_drewN ?_ _ | refine blk_drew ?_ | refine blk_alloc ?_ _)); exact BK199.out) hb)
                        have n1_ := Aside0.mk (blk_below (g := gb200) (o := .cells #[.int .i64 a3_0, .int .i64 a3_1] 23 (0, 0)) (by (with_reducible repeat (first | refine blk_drewN ?_ _ | refine blk_drew ?_ | refine blk_alloc ?_ _)); exact BK200.out) hb)
                        have n2_ := Aside0.mk (blk_below (g := gb209) (o := .cells #[.int .i64 t206, .int .i64 t207] 28 (0, 0)) (by (with_reducible repeat (first | refine blk_drewN ?_ _ | refine blk_drew ?_ | refine blk_alloc ?_ _)); exact BK209.out) hb)
                        have n3_ := Aside0.mk (blk_below (g := gb213) (o := .cells #[.int .i64 t210, .int .i64 t211] 23 (0, 0)) (by (with_reducible repeat (first | refine blk_drewN ?_ _ | refine blk_drew ?_ | refine blk_alloc ?_ _)); exact BK213.out) hb)
                        have n4_ := Aside0.mk (blk_below (g := gb227) (o := .cells #[.int .i64 t224, .int .i64 t225] 28 (0, 0)) (by (with_reducible repeat (first | refine blk_drewN ?_ _ | refine blk_drew ?_ | refine blk_alloc ?_ _)); exact BK227.out) hb)
                        have n5_ := Aside0.mk (blk_below (g := gb231) (o := .cells #[.int .i64 t228, .int .i64 t229] 23 (0, 0)) (by (with_reducible repeat (first | refine blk_drewN ?_ _ | refine blk_drew ?_ | refine blk_alloc ?_ _)); exact BK231.out) hb)
                        have n6_ := Aside0.mk (below_step (by repeat (first | (with_reducible first | exact HB.out | apply below_alloc | apply pw_below_drewN | apply below_drew1 | refine below_set ?_ GE199.out | refine below_set ?_ GE200.out | refine below_set ?_ GE209.out | refine below_set ?_ GE213.out | refine below_set ?_ GE227.out | refine below_set ?_ GE231.out) | exact HB.out)) hb)
                        clear BK199
                        clear BK200
                        clear BK209
                        clear BK213
                        clear BK227
                        clear BK231
                        clear HB
                        have BK199 := n0_
                        have BK200 := n1_
                        have BK209 := n2_
                        have BK213 := n3_
                        have BK227 := n4_
                        have BK231 := n5_
                        have HB := n6_
                        clear n0_ n1_ n2_ n3_ n4_ n5_ n6_
                        (try clear hb)
                        (try clear hb2)
                        (try clear hk)
                        (try clear hi)
                        refine hK.out _ _ ⟨(blk_cell BK209.out 0).trans rfl, (blk_cell BK209.out 1).trans rfl, (blk_cell BK213.out 0).trans rfl, (blk_cell BK213.out 1).trans rfl, (blk_cell BK199.out 0).trans rfl, (blk_cell BK199.out 1).trans rfl, (blk_cell BK227.out 0).trans rfl, (blk_cell BK227.out 1).trans rfl, (blk_cell BK231.out 0).trans rfl, (blk_cell BK231.out 1).trans rfl⟩ (fun hHeld => ?_)
                        clear hK K
                        refine norm_ (a' := ?_) ?_ ?_
                        rotate_left
                        · show Act.put _ (some 95) _ = _
                          simp only [Act.put, List.setIfInBounds_toArray, List.set_cons_zero, List.set_cons_succ, i64_w, i32_w]
                          rfl
                        refine pure_ (i := 15) (N := some 97) (v := ?_) (a' := ?_) #[true, true, true, true, true, true, true, true, true, true, true, true, true, true, true, true, false, false, false, false, false, false, false, false, false, false, false, false, false, false, false, false, false, false, false, false, false, false, false, false, false, false, false, false, false, false, false, false, false, false, false, false, false, false, false, false, false, false, false, false, false, false, false, false, false, false] rfl rfl (any_of HT_.out (by kernel_rfl)) (fun _ _ _ h => h) (Or.inl ⟨by rfl, ?_⟩) ?_ ?_
                        rotate_left
                        · intro w'
                          go_simp
                          with_reducible rfl
                        rotate_left
                        · simp only [Act.put, List.setIfInBounds_toArray, List.set_cons_zero, List.set_cons_succ, i64_w, i32_w]
                          rfl
                        refine pure_ (i := 16) (N := some 98) (v := ?_) (a' := ?_) #[true, true, true, true, true, true, true, true, true, true, true, true, true, true, true, true, true, false, false, false, false, false, false, false, false, false, false, false, false, false, false, false, false, false, false, false, false, false, false, false, false, false, false, false, false, false, false, false, false, false, false, false, false, false, false, false, false, false, false, false, false, false, false, false, false, false] rfl rfl (any_of HT_.out (by kernel_rfl)) (fun _ _ _ h => h) (Or.inl ⟨by rfl, ?_⟩) ?_ ?_
                        rotate_left
                        · intro w'
                          go_simp
                          with_reducible rfl
                        rotate_left
                        · simp only [Act.put, List.setIfInBounds_toArray, List.set_cons_zero, List.set_cons_succ, i64_w, i32_w]
                          rfl
                        refine pure_ (i := 17) (N := some 99) (v := ?_) (a' := ?_) #[true, true, true, true, true, true, true, true, true, true, true, true, true, true, true, true, true, true, false, false, false, false, false, false, false, false, false, false, false, false, false, false, false, false, false, false, false, false, false, false, false, false, false, false, false, false, false, false, false, false, false, false, false, false, false, false, false, false, false, false, false, false, false, false, false, false] rfl rfl (any_of HT_.out (by kernel_rfl)) (fun _ _ _ h => h) (Or.inl ⟨by rfl, ?_⟩) ?_ ?_
                        rotate_left
                        · intro w'
                          go_simp
                          with_reducible rfl
                        rotate_left
                        · simp only [Act.put, List.setIfInBounds_toArray, List.set_cons_zero, List.set_cons_succ, i64_w, i32_w]
                          rfl
                        refine pure_ (i := 18) (N := some 100) (v := ?_) (a' := ?_) #[true, true, true, true, true, true, true, true, true, true, true, true, true, true, true, true, true, true, true, false, false, false, false, false, false, false, false, false, false, false, false, false, false, false, false, false, false, false, false, false, false, false, false, false, false, false, false, false, false, false, false, false, false, false, false, false, false, false, false, false, false, false, false, false, false, false] rfl rfl (any_of HT_.out (by kernel_rfl)) (fun _ _ _ h => h) (Or.inl ⟨by rfl, ?_⟩) ?_ ?_
                        rotate_left
                        · intro w'
                          go_simp
                          with_reducible rfl
                        rotate_left
                        · simp only [Act.put, List.setIfInBounds_toArray, List.set_cons_zero, List.set_cons_succ, i64_w, i32_w]
                          rfl
                        refine pure_ (i := 19) (N := some 101) (v := ?_) (a' := ?_) #[true, true, true, true, true, true, true, true, true, true, true, true, true, true, true, true, true, true, true, true, false, false, false, false, false, false, false, false, false, false, false, false, false, false, false, false, false, false, false, false, false, false, false, false, false, false, false, false, false, false, false, false, false, false, false, false, false, false, false, false, false, false, false, false, false, false] rfl rfl (any_of HT_.out (by kernel_rfl)) (fun _ _ _ h => h) (Or.inl ⟨by rfl, ?_⟩) ?_ ?_
                        rotate_left
                        · intro w'
                          go_simp
                          with_reducible rfl
                        rotate_left
                        · simp only [Act.put, List.setIfInBounds_toArray, List.set_cons_zero, List.set_cons_succ, i64_w, i32_w]
                          rfl
                        refine pure_ (i := 20) (N := some 102) (v := ?_) (a' := ?_) #[true, true, true, true, true, true, true, true, true, true, true, true, true, true, true, true, true, true, true, true, true, false, false, false, false, false, false, false, false, false, false, false, false, false, false, false, false, false, false, false, false, false, false, false, false, false, false, false, false, false, false, false, false, false, false, false, false, false, false, false, false, false, false, false, false, false] rfl rfl (any_of HT_.out (by kernel_rfl)) (fun _ _ _ h => h) (Or.inl ⟨by rfl, ?_⟩) ?_ ?_
                        rotate_left
                        · intro w'
                          go_simp
                          with_reducible rfl
                        rotate_left
                        · simp only [Act.put, List.setIfInBounds_toArray, List.set_cons_zero, List.set_cons_succ, i64_w, i32_w]
                          rfl
                        refine pure_ (i := 21) (N := some 103) (v := ?_) (a' := ?_) #[true, true, true, true, true, true, true, true, true, true, true, true, true, true, true, true, true, true, true, true, true, true, false, false, false, false, false, false, false, false, false, false, false, false, false, false, false, false, false, false, false, false, false, false, false, false, false, false, false, false, false, false, false, false, false, false, false, false, false, false, false, false, false, false, false, false] rfl rfl (any_of HT_.out (by kernel_rfl)) (fun _ _ _ h => h) (Or.inl ⟨by rfl, ?_⟩) ?_ ?_
                        rotate_left
                        · intro w'
                          go_simp
                          with_reducible rfl
                        rotate_left
                        · simp only [Act.put, List.setIfInBounds_toArray, List.set_cons_zero, List.set_cons_succ, i64_w, i32_w]
                          rfl
                        refine pure_ (i := 22) (N := some 104) (v := ?_) (a' := ?_) #[true, true, true, true, true, true, true, true, true, true, true, true, true, true, true, true, true, true, true, true, true, true, true, false, false, false, false, false, false, false, false, false, false, false, false, false, false, false, false, false, false, false, false, false, false, false, false, false, false, false, false, false, false, false, false, false, false, false, false, false, false, false, false, false, false, false] rfl rfl (any_of HT_.out (by kernel_rfl)) (fun _ _ _ h => h) (Or.inl ⟨by rfl, ?_⟩) ?_ ?_
                        rotate_left
                        · intro w'
                          go_simp
                          with_reducible rfl
                        rotate_left
                        · simp only [Act.put, List.setIfInBounds_toArray, List.set_cons_zero, List.set_cons_succ, i64_w, i32_w]
                          rfl
                        refine pure_ (i := 25) (N := some 107) (v := ?_) (a' := ?_) #[true, true, true, true, true, true, true, true, true, true, true, true, true, true, true, true, true, true, true, true, true, true, true, false, false, true, false, false, false, false, false, false, false, false, false, false, false, false, false, false, false, false, false, false, false, false, false, false, false, false, false, false, false, false, false, false, false, false, false, false, false, false, false, false, false, false] rfl rfl (any_of HT_.out (by kernel_rfl)) (fun _ _ _ h => h) (Or.inl ⟨by rfl, ?_⟩) ?_ ?_
                        rotate_left
                        · intro w'
                          go_simp
                          with_reducible rfl
                        rotate_left
                        · simp only [Act.put, List.setIfInBounds_toArray, List.set_cons_zero, List.set_cons_succ, i64_w, i32_w]
                          rfl
                        refine pure_ (i := 28) (N := some 110) (v := ?_) (a' := ?_) #[true, true, true, true, true, true, true, true, true, true, true, true, true, true, true, true, true, true, true, true, true, true, true, false, false, true, false, false, true, false, false, false, false, false, false, false, false, false, false, false, false, false, false, false, false, false, false, false, false, false, false, false, false, false, false, false, false, false, false, false, false, false, false, false, false, false] rfl rfl (any_of HT_.out (by kernel_rfl)) (fun _ _ _ h => h) (Or.inl ⟨by rfl, ?_⟩) ?_ ?_
                        rotate_left
                        · intro w'
                          go_simp
                          with_reducible rfl
                        rotate_left
                        · simp only [Act.put, List.setIfInBounds_toArray, List.set_cons_zero, List.set_cons_succ, i64_w, i32_w]
                          rfl
                        refine take_ (i := 23) (N := some 105) (v := ?_) (a' := ?_) #[true, true, true, true, true, true, true, true, true, true, true, true, true, true, true, true, true, true, true, true, true, true, true, true, false, true, false, false, true, false, false, false, false, false, false, false, false, false, false, false, false, false, false, false, false, false, false, false, false, false, false, false, false, false, false, false, false, false, false, false, false, false, false, false, false, false] rfl rfl (take_ofW HT_.out HW_.out (by kernel_rfl)) (fun _ _ _ h => h) (Or.inl ⟨by rfl, ?_⟩) hHeld ?_ ?_
                        rotate_left
                        · rintro w' ⟨s0, s1, s2, s3, s4, s5, s6, s7, s8, s9⟩
                          go_simp
                          with_reducible rfl
                        rotate_left
                        · simp only [Act.put, List.setIfInBounds_toArray, List.set_cons_zero, List.set_cons_succ, i64_w, i32_w]
                          rfl
                        refine take_ (i := 27) (N := some 109) (v := ?_) (a' := ?_) #[true, true, true, true, true, true, true, true, true, true, true, true, true, true, true, true, true, true, true, true, true, true, true, true, false, true, false, true, true, false, false, false, false, false, false, false, false, false, false, false, false, false, false, false, false, false, false, false, false, false, false, false, false, false, false, false, false, false, false, false, false, false, false, false, false, false] rfl rfl (take_ofW HT_.out HW_.out (by kernel_rfl)) (fun _ _ _ h => h) (Or.inl ⟨by rfl, ?_⟩) hHeld ?_ ?_
                        rotate_left
                        · rintro w' ⟨s0, s1, s2, s3, s4, s5, s6, s7, s8, s9⟩
                          go_simp
                          with_reducible rfl
                        rotate_left
                        · simp only [Act.put, List.setIfInBounds_toArray, List.set_cons_zero, List.set_cons_succ, i64_w, i32_w]
                          rfl
                        refine one_ (i := 24) (N := some 106) #[true, true, true, true, true, true, true, true, true, true, true, true, true, true, true, true, true, true, true, true, true, true, true, true, true, true, false, true, true, false, false, false, false, false, false, false, false, false, false, false, false, false, false, false, false, false, false, false, false, false, false, false, false, false, false, false, false, false, false, false, false, false, false, false, false, false] rfl rfl (one_of HT_.out (by kernel_rfl)) (by decide) (fun K hK => ?_)
                        refine goes_ Try.func12 (by kernel_rfl) rfl #[.agg #[.int .i64 a2_0, .int .i64 a2_1]] (by rfl) rfl rfl (by (try simp only [List.map_toArray, List.map_cons, List.map_nil]); first | done | rfl | (simp only [List.length_drop, List.length_take]; rfl)) ?_
                        with_reducible refine (heronrylaw12_ours.calls a2_0 a2_1 t234 t235 _ A27.out).mono ?_
                        rintro e w84 ⟨rfl, hb⟩
                        refine ⟨_, rfl, ?_⟩
                        have n0_ := Aside0.mk (blk_below (g := gb199) (o := .cells #[.int .i64 a2_0, .int .i64 a2_1] 23 (0, 0)) (by (with_reducible repeat (first | refine blk_drewN ?_ _ | refine blk_drew ?_ | refine blk_alloc ?_ _)); exact BK199.out) hb)
                        have n1_ := Aside0.mk (blk_below (g := gb200) (o := .cells #[.int .i64 a3_0, .int .i64 a3_1] 23 (0, 0)) (by (with_reducible repeat (first | refine blk_drewN ?_ _ | refine blk_drew ?_ | refine blk_alloc ?_ _)); exact BK200.out) hb)
                        have n2_ := Aside0.mk (blk_below (g := gb209) (o := .cells #[.int .i64 t206, .int .i64 t207] 28 (0, 0)) (by (with_reducible repeat (first | refine blk_drewN ?_ _ | refine blk_drew ?_ | refine blk_alloc ?_ _)); exact BK209.out) hb)
                        have n3_ := Aside0.mk (blk_below (g := gb213) (o := .cells #[.int .i64 t210, .int .i64 t211] 23 (0, 0)) (by (with_reducible repeat (first | refine blk_drewN ?_ _ | refine blk_drew ?_ | refine blk_alloc ?_ _)); exact BK213.out) hb)
                        have n4_ := Aside0.mk (blk_below (g := gb227) (o := .cells #[.int .i64 t224, .int .i64 t225] 28 (0, 0)) (by (with_reducible repeat (first | refine blk_drewN ?_ _ | refine blk_drew ?_ | refine blk_alloc ?_ _)); exact BK227.out) hb)
                        have n5_ := Aside0.mk (blk_below (g := gb231) (o := .cells #[.int .i64 t228, .int .i64 t229] 23 (0, 0)) (by (with_reducible repeat (first | refine blk_drewN ?_ _ | refine blk_drew ?_ | refine blk_alloc ?_ _)); exact BK231.out) hb)
                        have n6_ := Aside0.mk (below_step (by repeat (first | (with_reducible first | exact HB.out | apply below_alloc | apply pw_below_drewN | apply below_drew1 | refine below_set ?_ GE199.out | refine below_set ?_ GE200.out | refine below_set ?_ GE209.out | refine below_set ?_ GE213.out | refine below_set ?_ GE227.out | refine below_set ?_ GE231.out) | exact HB.out)) hb)
                        clear BK199
                        clear BK200
                        clear BK209
                        clear BK213
                        clear BK227
                        clear BK231
                        clear HB
                        have BK199 := n0_
                        have BK200 := n1_
                        have BK209 := n2_
                        have BK213 := n3_
                        have BK227 := n4_
                        have BK231 := n5_
                        have HB := n6_
                        clear n0_ n1_ n2_ n3_ n4_ n5_ n6_
                        (try clear hb)
                        (try clear hb2)
                        (try clear hk)
                        (try clear hi)
                        refine hK.out _ _ ⟨(blk_cell BK209.out 0).trans rfl, (blk_cell BK209.out 1).trans rfl, (blk_cell BK213.out 0).trans rfl, (blk_cell BK213.out 1).trans rfl, (blk_cell BK199.out 0).trans rfl, (blk_cell BK199.out 1).trans rfl, (blk_cell BK227.out 0).trans rfl, (blk_cell BK227.out 1).trans rfl, (blk_cell BK231.out 0).trans rfl, (blk_cell BK231.out 1).trans rfl⟩ (fun hHeld => ?_)
                        clear hK K
                        refine norm_ (a' := ?_) ?_ ?_
                        rotate_left
                        · show Act.put _ (some 106) _ = _
                          simp only [Act.put, List.setIfInBounds_toArray, List.set_cons_zero, List.set_cons_succ, i64_w, i32_w]
                          rfl
                        refine one_ (i := 26) (N := some 108) #[true, true, true, true, true, true, true, true, true, true, true, true, true, true, true, true, true, true, true, true, true, true, true, true, true, true, true, true, true, false, false, false, false, false, false, false, false, false, false, false, false, false, false, false, false, false, false, false, false, false, false, false, false, false, false, false, false, false, false, false, false, false, false, false, false, false] rfl rfl (one_of HT_.out (by kernel_rfl)) (by decide) (fun K hK => ?_)
                        refine goes_ Try.func13 (by kernel_rfl) rfl #[.agg #[.int .i64 t234, .int .i64 t235], .int .i64 a0] (by rfl) rfl rfl (by (try simp only [List.map_toArray, List.map_cons, List.map_nil]); first | done | rfl | (simp only [List.length_drop, List.length_take]; rfl)) ?_
                        with_reducible refine (span_Holds.calls t234 t235 a0 t236 _ A28.out).mono ?_
                        rintro e w85 ⟨rfl, hb⟩
                        refine ⟨_, rfl, ?_⟩
                        have n0_ := Aside0.mk (blk_below (g := gb199) (o := .cells #[.int .i64 a2_0, .int .i64 a2_1] 23 (0, 0)) (by (with_reducible repeat (first | refine blk_drewN ?_ _ | refine blk_drew ?_ | refine blk_alloc ?_ _)); exact BK199.out) hb)
                        have n1_ := Aside0.mk (blk_below (g := gb200) (o := .cells #[.int .i64 a3_0, .int .i64 a3_1] 23 (0, 0)) (by (with_reducible repeat (first | refine blk_drewN ?_ _ | refine blk_drew ?_ | refine blk_alloc ?_ _)); exact BK200.out) hb)
                        have n2_ := Aside0.mk (blk_below (g := gb209) (o := .cells #[.int .i64 t206, .int .i64 t207] 28 (0, 0)) (by (with_reducible repeat (first | refine blk_drewN ?_ _ | refine blk_drew ?_ | refine blk_alloc ?_ _)); exact BK209.out) hb)
                        have n3_ := Aside0.mk (blk_below (g := gb213) (o := .cells #[.int .i64 t210, .int .i64 t211] 23 (0, 0)) (by (with_reducible repeat (first | refine blk_drewN ?_ _ | refine blk_drew ?_ | refine blk_alloc ?_ _)); exact BK213.out) hb)
                        have n4_ := Aside0.mk (blk_below (g := gb227) (o := .cells #[.int .i64 t224, .int .i64 t225] 28 (0, 0)) (by (with_reducible repeat (first | refine blk_drewN ?_ _ | refine blk_drew ?_ | refine blk_alloc ?_ _)); exact BK227.out) hb)
                        have n5_ := Aside0.mk (blk_below (g := gb231) (o := .cells #[.int .i64 t228, .int .i64 t229] 23 (0, 0)) (by (with_reducible repeat (first | refine blk_drewN ?_ _ | refine blk_drew ?_ | refine blk_alloc ?_ _)); exact BK231.out) hb)
                        have n6_ := Aside0.mk (below_step (by repeat (first | (with_reducible first | exact HB.out | apply below_alloc | apply pw_below_drewN | apply below_drew1 | refine below_set ?_ GE199.out | refine below_set ?_ GE200.out | refine below_set ?_ GE209.out | refine below_set ?_ GE213.out | refine below_set ?_ GE227.out | refine below_set ?_ GE231.out) | exact HB.out)) hb)
                        clear BK199
                        clear BK200
                        clear BK209
                        clear BK213
                        clear BK227
                        clear BK231
                        clear HB
                        have BK199 := n0_
                        have BK200 := n1_
                        have BK209 := n2_
                        have BK213 := n3_
                        have BK227 := n4_
                        have BK231 := n5_
                        have HB := n6_
                        clear n0_ n1_ n2_ n3_ n4_ n5_ n6_
                        (try clear hb)
                        (try clear hb2)
                        (try clear hk)
                        (try clear hi)
                        refine hK.out _ _ ⟨(blk_cell BK209.out 0).trans rfl, (blk_cell BK209.out 1).trans rfl, (blk_cell BK213.out 0).trans rfl, (blk_cell BK213.out 1).trans rfl, (blk_cell BK199.out 0).trans rfl, (blk_cell BK199.out 1).trans rfl, (blk_cell BK227.out 0).trans rfl, (blk_cell BK227.out 1).trans rfl, (blk_cell BK231.out 0).trans rfl, (blk_cell BK231.out 1).trans rfl⟩ (fun hHeld => ?_)
                        clear hK K
                        refine norm_ (a' := ?_) ?_ ?_
                        rotate_left
                        · show Act.put _ (some 108) _ = _
                          simp only [Act.put, List.setIfInBounds_toArray, List.set_cons_zero, List.set_cons_succ, i64_w, i32_w]
                          rfl
                        refine one_ (i := 29) (N := some 111) #[true, true, true, true, true, true, true, true, true, true, true, true, true, true, true, true, true, true, true, true, true, true, true, true, true, true, true, true, true, true, false, false, false, false, false, false, false, false, false, false, false, false, false, false, false, false, false, false, false, false, false, false, false, false, false, false, false, false, false, false, false, false, false, false, false, false] rfl rfl (one_of HT_.out (by kernel_rfl)) (by decide) (fun K hK => ?_)
                        refine goes_ Try.func23 (by kernel_rfl) rfl #[.agg #[.int .i64 a2_0, .int .i64 a2_1], .int .i64 a0] (by rfl) rfl rfl (by (try simp only [List.map_toArray, List.map_cons, List.map_nil]); first | done | rfl | (simp only [List.length_drop, List.length_take]; rfl)) ?_
                        with_reducible refine (heronryref12_Holds.calls a2_0 a2_1 a0 t237 _ A29.out).mono ?_
                        rintro e w86 ⟨rfl, hb⟩
                        refine ⟨_, rfl, ?_⟩
                        have n0_ := Aside0.mk (blk_below (g := gb199) (o := .cells #[.int .i64 a2_0, .int .i64 a2_1] 23 (0, 0)) (by (with_reducible repeat (first | refine blk_drewN ?_ _ | refine blk_drew ?_ | refine blk_alloc ?_ _)); exact BK199.out) hb)
                        have n1_ := Aside0.mk (blk_below (g := gb200) (o := .cells #[.int .i64 a3_0, .int .i64 a3_1] 23 (0, 0)) (by (with_reducible repeat (first | refine blk_drewN ?_ _ | refine blk_drew ?_ | refine blk_alloc ?_ _)); exact BK200.out) hb)
                        have n2_ := Aside0.mk (blk_below (g := gb209) (o := .cells #[.int .i64 t206, .int .i64 t207] 28 (0, 0)) (by (with_reducible repeat (first | refine blk_drewN ?_ _ | refine blk_drew ?_ | refine blk_alloc ?_ _)); exact BK209.out) hb)
                        have n3_ := Aside0.mk (blk_below (g := gb213) (o := .cells #[.int .i64 t210, .int .i64 t211] 23 (0, 0)) (by (with_reducible repeat (first | refine blk_drewN ?_ _ | refine blk_drew ?_ | refine blk_alloc ?_ _)); exact BK213.out) hb)
                        have n4_ := Aside0.mk (blk_below (g := gb227) (o := .cells #[.int .i64 t224, .int .i64 t225] 28 (0, 0)) (by (with_reducible repeat (first | refine blk_drewN ?_ _ | refine blk_drew ?_ | refine blk_alloc ?_ _)); exact BK227.out) hb)
                        have n5_ := Aside0.mk (blk_below (g := gb231) (o := .cells #[.int .i64 t228, .int .i64 t229] 23 (0, 0)) (by (with_reducible repeat (first | refine blk_drewN ?_ _ | refine blk_drew ?_ | refine blk_alloc ?_ _)); exact BK231.out) hb)
                        have n6_ := Aside0.mk (below_step (by repeat (first | (with_reducible first | exact HB.out | apply below_alloc | apply pw_below_drewN | apply below_drew1 | refine below_set ?_ GE199.out | refine below_set ?_ GE200.out | refine below_set ?_ GE209.out | refine below_set ?_ GE213.out | refine below_set ?_ GE227.out | refine below_set ?_ GE231.out) | exact HB.out)) hb)
                        clear BK199
                        clear BK200
                        clear BK209
                        clear BK213
                        clear BK227
                        clear BK231
                        clear HB
                        have BK199 := n0_
                        have BK200 := n1_
                        have BK209 := n2_
                        have BK213 := n3_
                        have BK227 := n4_
                        have BK231 := n5_
                        have HB := n6_
                        clear n0_ n1_ n2_ n3_ n4_ n5_ n6_
                        (try clear hb)
                        (try clear hb2)
                        (try clear hk)
                        (try clear hi)
                        refine hK.out _ _ ⟨(blk_cell BK209.out 0).trans rfl, (blk_cell BK209.out 1).trans rfl, (blk_cell BK213.out 0).trans rfl, (blk_cell BK213.out 1).trans rfl, (blk_cell BK199.out 0).trans rfl, (blk_cell BK199.out 1).trans rfl, (blk_cell BK227.out 0).trans rfl, (blk_cell BK227.out 1).trans rfl, (blk_cell BK231.out 0).trans rfl, (blk_cell BK231.out 1).trans rfl⟩ (fun hHeld => ?_)
                        clear hK K
                        refine norm_ (a' := ?_) ?_ ?_
                        rotate_left
                        · show Act.put _ (some 111) _ = _
                          simp only [Act.put, List.setIfInBounds_toArray, List.set_cons_zero, List.set_cons_succ, i64_w, i32_w]
                          rfl
                        refine pure_ (i := 30) (N := some 112) (v := ?_) (a' := ?_) #[true, true, true, true, true, true, true, true, true, true, true, true, true, true, true, true, true, true, true, true, true, true, true, true, true, true, true, true, true, true, true, false, false, false, false, false, false, false, false, false, false, false, false, false, false, false, false, false, false, false, false, false, false, false, false, false, false, false, false, false, false, false, false, false, false, false] rfl rfl (any_of HT_.out (by kernel_rfl)) (fun _ _ _ h => h) (Or.inl ⟨by rfl, ?_⟩) ?_ ?_
                        rotate_left
                        · intro w'
                          go_simp
                          with_reducible rfl
                        rotate_left
                        · simp only [Act.put, List.setIfInBounds_toArray, List.set_cons_zero, List.set_cons_succ, i64_w, i32_w]
                          rfl
                        refine pure_ (i := 31) (N := some 113) (v := ?_) (a' := ?_) #[true, true, true, true, true, true, true, true, true, true, true, true, true, true, true, true, true, true, true, true, true, true, true, true, true, true, true, true, true, true, true, true, false, false, false, false, false, false, false, false, false, false, false, false, false, false, false, false, false, false, false, false, false, false, false, false, false, false, false, false, false, false, false, false, false, false] rfl rfl (any_of HT_.out (by kernel_rfl)) (fun _ _ _ h => h) (Or.inl ⟨by rfl, ?_⟩) ?_ ?_
                        rotate_left
                        · intro w'
                          go_simp
                          with_reducible rfl
                        rotate_left
                        · simp only [Act.put, List.setIfInBounds_toArray, List.set_cons_zero, List.set_cons_succ, i64_w, i32_w]
                          rfl
                        refine pure_ (i := 32) (N := some 114) (v := ?_) (a' := ?_) #[true, true, true, true, true, true, true, true, true, true, true, true, true, true, true, true, true, true, true, true, true, true, true, true, true, true, true, true, true, true, true, true, true, false, false, false, false, false, false, false, false, false, false, false, false, false, false, false, false, false, false, false, false, false, false, false, false, false, false, false, false, false, false, false, false, false] rfl rfl (any_of HT_.out (by kernel_rfl)) (fun _ _ _ h => h) (Or.inl ⟨by rfl, ?_⟩) ?_ ?_
                        rotate_left
                        · intro w'
                          go_simp
                          with_reducible rfl
                        rotate_left
                        · simp only [Act.put, List.setIfInBounds_toArray, List.set_cons_zero, List.set_cons_succ, i64_w, i32_w]
                          rfl
                        refine pure_ (i := 35) (N := some 117) (v := ?_) (a' := ?_) #[true, true, true, true, true, true, true, true, true, true, true, true, true, true, true, true, true, true, true, true, true, true, true, true, true, true, true, true, true, true, true, true, true, false, false, true, false, false, false, false, false, false, false, false, false, false, false, false, false, false, false, false, false, false, false, false, false, false, false, false, false, false, false, false, false, false] rfl rfl (any_of HT_.out (by kernel_rfl)) (fun _ _ _ h => h) (Or.inl ⟨by rfl, ?_⟩) ?_ ?_
                        rotate_left
                        · intro w'
                          go_simp
                          with_reducible rfl
                        rotate_left
                        · simp only [Act.put, List.setIfInBounds_toArray, List.set_cons_zero, List.set_cons_succ, i64_w, i32_w]
                          rfl
                        refine pure_ (i := 36) (N := some 118) (v := ?_) (a' := ?_) #[true, true, true, true, true, true, true, true, true, true, true, true, true, true, true, true, true, true, true, true, true, true, true, true, true, true, true, true, true, true, true, true, true, false, false, true, true, false, false, false, false, false, false, false, false, false, false, false, false, false, false, false, false, false, false, false, false, false, false, false, false, false, false, false, false, false] rfl rfl (any_of HT_.out (by kernel_rfl)) (fun _ _ _ h => h) (Or.inl ⟨by rfl, ?_⟩) ?_ ?_
                        rotate_left
                        · intro w'
                          go_simp
                          with_reducible rfl
                        rotate_left
                        · simp only [Act.put, List.setIfInBounds_toArray, List.set_cons_zero, List.set_cons_succ, i64_w, i32_w]
                          rfl
                        refine pure_ (i := 39) (N := some 121) (v := ?_) (a' := ?_) #[true, true, true, true, true, true, true, true, true, true, true, true, true, true, true, true, true, true, true, true, true, true, true, true, true, true, true, true, true, true, true, true, true, false, false, true, true, false, false, true, false, false, false, false, false, false, false, false, false, false, false, false, false, false, false, false, false, false, false, false, false, false, false, false, false, false] rfl rfl (any_of HT_.out (by kernel_rfl)) (fun _ _ _ h => h) (Or.inl ⟨by rfl, ?_⟩) ?_ ?_
                        rotate_left
                        · intro w'
                          go_simp
                          with_reducible rfl
                        rotate_left
                        · simp only [Act.put, List.setIfInBounds_toArray, List.set_cons_zero, List.set_cons_succ, i64_w, i32_w]
                          rfl
                        refine pure_ (i := 40) (N := some 122) (v := ?_) (a' := ?_) #[true, true, true, true, true, true, true, true, true, true, true, true, true, true, true, true, true, true, true, true, true, true, true, true, true, true, true, true, true, true, true, true, true, false, false, true, true, false, false, true, true, false, false, false, false, false, false, false, false, false, false, false, false, false, false, false, false, false, false, false, false, false, false, false, false, false] rfl rfl (any_of HT_.out (by kernel_rfl)) (fun _ _ _ h => h) (Or.inl ⟨by rfl, ?_⟩) ?_ ?_
                        rotate_left
                        · intro w'
                          go_simp
                          with_reducible rfl
                        rotate_left
                        · simp only [Act.put, List.setIfInBounds_toArray, List.set_cons_zero, List.set_cons_succ, i64_w, i32_w]
                          rfl
                        refine take_ (i := 33) (N := some 115) (v := ?_) (a' := ?_) #[true, true, true, true, true, true, true, true, true, true, true, true, true, true, true, true, true, true, true, true, true, true, true, true, true, true, true, true, true, true, true, true, true, true, false, true, true, false, false, true, true, false, false, false, false, false, false, false, false, false, false, false, false, false, false, false, false, false, false, false, false, false, false, false, false, false] rfl rfl (take_ofW HT_.out HW_.out (by kernel_rfl)) (fun _ _ _ h => h) (Or.inl ⟨by rfl, ?_⟩) hHeld ?_ ?_
                        rotate_left
                        · rintro w' ⟨s0, s1, s2, s3, s4, s5, s6, s7, s8, s9⟩
                          go_simp
                          with_reducible rfl
                        rotate_left
                        · simp only [Act.put, List.setIfInBounds_toArray, List.set_cons_zero, List.set_cons_succ, i64_w, i32_w]
                          rfl
                        refine take_ (i := 38) (N := some 120) (v := ?_) (a' := ?_) #[true, true, true, true, true, true, true, true, true, true, true, true, true, true, true, true, true, true, true, true, true, true, true, true, true, true, true, true, true, true, true, true, true, true, false, true, true, false, true, true, true, false, false, false, false, false, false, false, false, false, false, false, false, false, false, false, false, false, false, false, false, false, false, false, false, false] rfl rfl (take_ofW HT_.out HW_.out (by kernel_rfl)) (fun _ _ _ h => h) (Or.inl ⟨by rfl, ?_⟩) hHeld ?_ ?_
                        rotate_left
                        · rintro w' ⟨s0, s1, s2, s3, s4, s5, s6, s7, s8, s9⟩
                          go_simp
                          with_reducible rfl
                        rotate_left
                        · simp only [Act.put, List.setIfInBounds_toArray, List.set_cons_zero, List.set_cons_succ, i64_w, i32_w]
                          rfl
                        refine one_ (i := 34) (N := some 116) #[true, true, true, true, true, true, true, true, true, true, true, true, true, true, true, true, true, true, true, true, true, true, true, true, true, true, true, true, true, true, true, true, true, true, true, true, true, false, true, true, true, false, false, false, false, false, false, false, false, false, false, false, false, false, false, false, false, false, false, false, false, false, false, false, false, false] rfl rfl (one_of HT_.out (by kernel_rfl)) (by decide) (fun K hK => ?_)
                        refine goes_ Try.func12 (by kernel_rfl) rfl #[.agg #[.int .i64 a2_0, .int .i64 a2_1]] (by rfl) rfl rfl (by (try simp only [List.map_toArray, List.map_cons, List.map_nil]); first | done | rfl | (simp only [List.length_drop, List.length_take]; rfl)) ?_
                        with_reducible refine (heronrylaw12_ours.calls a2_0 a2_1 t238 t239 _ A31.out).mono ?_
                        rintro e w87 ⟨rfl, hb⟩
                        refine ⟨_, rfl, ?_⟩
                        have n0_ := Aside0.mk (blk_below (g := gb199) (o := .cells #[.int .i64 a2_0, .int .i64 a2_1] 23 (0, 0)) (by (with_reducible repeat (first | refine blk_drewN ?_ _ | refine blk_drew ?_ | refine blk_alloc ?_ _)); exact BK199.out) hb)
                        have n1_ := Aside0.mk (blk_below (g := gb200) (o := .cells #[.int .i64 a3_0, .int .i64 a3_1] 23 (0, 0)) (by (with_reducible repeat (first | refine blk_drewN ?_ _ | refine blk_drew ?_ | refine blk_alloc ?_ _)); exact BK200.out) hb)
                        have n2_ := Aside0.mk (blk_below (g := gb209) (o := .cells #[.int .i64 t206, .int .i64 t207] 28 (0, 0)) (by (with_reducible repeat (first | refine blk_drewN ?_ _ | refine blk_drew ?_ | refine blk_alloc ?_ _)); exact BK209.out) hb)
                        have n3_ := Aside0.mk (blk_below (g := gb213) (o := .cells #[.int .i64 t210, .int .i64 t211] 23 (0, 0)) (by (with_reducible repeat (first | refine blk_drewN ?_ _ | refine blk_drew ?_ | refine blk_alloc ?_ _)); exact BK213.out) hb)
                        have n4_ := Aside0.mk (blk_below (g := gb227) (o := .cells #[.int .i64 t224, .int .i64 t225] 28 (0, 0)) (by (with_reducible repeat (first | refine blk_drewN ?_ _ | refine blk_drew ?_ | refine blk_alloc ?_ _)); exact BK227.out) hb)
                        have n5_ := Aside0.mk (blk_below (g := gb231) (o := .cells #[.int .i64 t228, .int .i64 t229] 23 (0, 0)) (by (with_reducible repeat (first | refine blk_drewN ?_ _ | refine blk_drew ?_ | refine blk_alloc ?_ _)); exact BK231.out) hb)
                        have n6_ := Aside0.mk (below_step (by repeat (first | (with_reducible first | exact HB.out | apply below_alloc | apply pw_below_drewN | apply below_drew1 | refine below_set ?_ GE199.out | refine below_set ?_ GE200.out | refine below_set ?_ GE209.out | refine below_set ?_ GE213.out | refine below_set ?_ GE227.out | refine below_set ?_ GE231.out) | exact HB.out)) hb)
                        clear BK199
                        clear BK200
                        clear BK209
                        clear BK213
                        clear BK227
                        clear BK231
                        clear HB
                        have BK199 := n0_
                        have BK200 := n1_
                        have BK209 := n2_
                        have BK213 := n3_
                        have BK227 := n4_
                        have BK231 := n5_
                        have HB := n6_
                        clear n0_ n1_ n2_ n3_ n4_ n5_ n6_
                        (try clear hb)
                        (try clear hb2)
                        (try clear hk)
                        (try clear hi)
                        refine hK.out _ _ ⟨(blk_cell BK209.out 0).trans rfl, (blk_cell BK209.out 1).trans rfl, (blk_cell BK213.out 0).trans rfl, (blk_cell BK213.out 1).trans rfl, (blk_cell BK199.out 0).trans rfl, (blk_cell BK199.out 1).trans rfl, (blk_cell BK227.out 0).trans rfl, (blk_cell BK227.out 1).trans rfl, (blk_cell BK231.out 0).trans rfl, (blk_cell BK231.out 1).trans rfl⟩ (fun hHeld => ?_)
                        clear hK K
                        refine norm_ (a' := ?_) ?_ ?_
                        rotate_left
                        · show Act.put _ (some 116) _ = _
                          simp only [Act.put, List.setIfInBounds_toArray, List.set_cons_zero, List.set_cons_succ, i64_w, i32_w]
                          rfl
                        refine one_ (i := 37) (N := some 119) #[true, true, true, true, true, true, true, true, true, true, true, true, true, true, true, true, true, true, true, true, true, true, true, true, true, true, true, true, true, true, true, true, true, true, true, true, true, true, true, true, true, false, false, false, false, false, false, false, false, false, false, false, false, false, false, false, false, false, false, false, false, false, false, false, false, false] rfl rfl (one_of HT_.out (by kernel_rfl)) (by decide) (fun K hK => ?_)
                        refine goes_ Try.func11 (by kernel_rfl) rfl #[.agg #[.int .i64 t238, .int .i64 t239], .int .i64 a0, .slice A1 l1.length c1] (by rfl) rfl rfl (by (try simp only [List.map_toArray, List.map_cons, List.map_nil]); first | done | rfl | (simp only [List.length_drop, List.length_take]; rfl)) ?_
                        with_reducible refine (span_Fits.calls t238 t239 a0 _ _ l1 t240 _ ?side1 ?side2 A32.out).mono ?_
                        (case side1 => repeat (first | exact (Kd.C_below HR1.out HB.out) | (with_reducible refine Kd.C_alloc ?_ _) | (with_reducible refine Kd.C_drewN ?_ _) | (with_reducible refine Kd.C_drew ?_)))
                        (case side2 => exact HC1.out)
                        rintro e w88 ⟨rfl, hb⟩
                        refine ⟨_, rfl, ?_⟩
                        have n0_ := Aside0.mk (blk_below (g := gb199) (o := .cells #[.int .i64 a2_0, .int .i64 a2_1] 23 (0, 0)) (by (with_reducible repeat (first | refine blk_drewN ?_ _ | refine blk_drew ?_ | refine blk_alloc ?_ _)); exact BK199.out) hb)
                        have n1_ := Aside0.mk (blk_below (g := gb200) (o := .cells #[.int .i64 a3_0, .int .i64 a3_1] 23 (0, 0)) (by (with_reducible repeat (first | refine blk_drewN ?_ _ | refine blk_drew ?_ | refine blk_alloc ?_ _)); exact BK200.out) hb)
                        have n2_ := Aside0.mk (blk_below (g := gb209) (o := .cells #[.int .i64 t206, .int .i64 t207] 28 (0, 0)) (by (with_reducible repeat (first | refine blk_drewN ?_ _ | refine blk_drew ?_ | refine blk_alloc ?_ _)); exact BK209.out) hb)
                        have n3_ := Aside0.mk (blk_below (g := gb213) (o := .cells #[.int .i64 t210, .int .i64 t211] 23 (0, 0)) (by (with_reducible repeat (first | refine blk_drewN ?_ _ | refine blk_drew ?_ | refine blk_alloc ?_ _)); exact BK213.out) hb)
                        have n4_ := Aside0.mk (blk_below (g := gb227) (o := .cells #[.int .i64 t224, .int .i64 t225] 28 (0, 0)) (by (with_reducible repeat (first | refine blk_drewN ?_ _ | refine blk_drew ?_ | refine blk_alloc ?_ _)); exact BK227.out) hb)
                        have n5_ := Aside0.mk (blk_below (g := gb231) (o := .cells #[.int .i64 t228, .int .i64 t229] 23 (0, 0)) (by (with_reducible repeat (first | refine blk_drewN ?_ _ | refine blk_drew ?_ | refine blk_alloc ?_ _)); exact BK231.out) hb)
                        have n6_ := Aside0.mk (below_step (by repeat (first | (with_reducible first | exact HB.out | apply below_alloc | apply pw_below_drewN | apply below_drew1 | refine below_set ?_ GE199.out | refine below_set ?_ GE200.out | refine below_set ?_ GE209.out | refine below_set ?_ GE213.out | refine below_set ?_ GE227.out | refine below_set ?_ GE231.out) | exact HB.out)) hb)
                        clear BK199
                        clear BK200
                        clear BK209
                        clear BK213
                        clear BK227
                        clear BK231
                        clear HB
                        have BK199 := n0_
                        have BK200 := n1_
                        have BK209 := n2_
                        have BK213 := n3_
                        have BK227 := n4_
                        have BK231 := n5_
                        have HB := n6_
                        clear n0_ n1_ n2_ n3_ n4_ n5_ n6_
                        (try clear hb)
                        (try clear hb2)
                        (try clear hk)
                        (try clear hi)
                        refine hK.out _ _ ⟨(blk_cell BK209.out 0).trans rfl, (blk_cell BK209.out 1).trans rfl, (blk_cell BK213.out 0).trans rfl, (blk_cell BK213.out 1).trans rfl, (blk_cell BK199.out 0).trans rfl, (blk_cell BK199.out 1).trans rfl, (blk_cell BK227.out 0).trans rfl, (blk_cell BK227.out 1).trans rfl, (blk_cell BK231.out 0).trans rfl, (blk_cell BK231.out 1).trans rfl⟩ (fun hHeld => ?_)
                        clear hK K
                        refine norm_ (a' := ?_) ?_ ?_
                        rotate_left
                        · show Act.put _ (some 119) _ = _
                          simp only [Act.put, List.setIfInBounds_toArray, List.set_cons_zero, List.set_cons_succ, i64_w, i32_w]
                          rfl
                        refine one_ (i := 41) (N := some 123) #[true, true, true, true, true, true, true, true, true, true, true, true, true, true, true, true, true, true, true, true, true, true, true, true, true, true, true, true, true, true, true, true, true, true, true, true, true, true, true, true, true, true, false, false, false, false, false, false, false, false, false, false, false, false, false, false, false, false, false, false, false, false, false, false, false, false] rfl rfl (one_of HT_.out (by kernel_rfl)) (by decide) (fun K hK => ?_)
                        refine goes_ Try.func24 (by kernel_rfl) rfl #[.agg #[.int .i64 a2_0, .int .i64 a2_1], .int .i64 a0, .slice A1 l1.length c1] (by rfl) rfl rfl (by (try simp only [List.map_toArray, List.map_cons, List.map_nil]); first | done | rfl | (simp only [List.length_drop, List.length_take]; rfl)) ?_
                        with_reducible refine (heronryref12_Fits.calls k a2_0 a2_1 a0 _ _ l1 t241 _ ?side1 ?side2 A33.out).mono ?_
                        (case side1 => repeat (first | exact (Kd.C_below HR1.out HB.out) | (with_reducible refine Kd.C_alloc ?_ _) | (with_reducible refine Kd.C_drewN ?_ _) | (with_reducible refine Kd.C_drew ?_)))
                        (case side2 => exact HC1.out)
                        rintro e w89 ⟨rfl, hb⟩
                        refine ⟨_, rfl, ?_⟩
                        have n0_ := Aside0.mk (blk_below (g := gb199) (o := .cells #[.int .i64 a2_0, .int .i64 a2_1] 23 (0, 0)) (by (with_reducible repeat (first | refine blk_drewN ?_ _ | refine blk_drew ?_ | refine blk_alloc ?_ _)); exact BK199.out) hb)
                        have n1_ := Aside0.mk (blk_below (g := gb200) (o := .cells #[.int .i64 a3_0, .int .i64 a3_1] 23 (0, 0)) (by (with_reducible repeat (first | refine blk_drewN ?_ _ | refine blk_drew ?_ | refine blk_alloc ?_ _)); exact BK200.out) hb)
                        have n2_ := Aside0.mk (blk_below (g := gb209) (o := .cells #[.int .i64 t206, .int .i64 t207] 28 (0, 0)) (by (with_reducible repeat (first | refine blk_drewN ?_ _ | refine blk_drew ?_ | refine blk_alloc ?_ _)); exact BK209.out) hb)
                        have n3_ := Aside0.mk (blk_below (g := gb213) (o := .cells #[.int .i64 t210, .int .i64 t211] 23 (0, 0)) (by (with_reducible repeat (first | refine blk_drewN ?_ _ | refine blk_drew ?_ | refine blk_alloc ?_ _)); exact BK213.out) hb)
                        have n4_ := Aside0.mk (blk_below (g := gb227) (o := .cells #[.int .i64 t224, .int .i64 t225] 28 (0, 0)) (by (with_reducible repeat (first | refine blk_drewN ?_ _ | refine blk_drew ?_ | refine blk_alloc ?_ _)); exact BK227.out) hb)
                        have n5_ := Aside0.mk (blk_below (g := gb231) (o := .cells #[.int .i64 t228, .int .i64 t229] 23 (0, 0)) (by (with_reducible repeat (first | refine blk_drewN ?_ _ | refine blk_drew ?_ | refine blk_alloc ?_ _)); exact BK231.out) hb)
                        have n6_ := Aside0.mk (below_step (by repeat (first | (with_reducible first | exact HB.out | apply below_alloc | apply pw_below_drewN | apply below_drew1 | refine below_set ?_ GE199.out | refine below_set ?_ GE200.out | refine below_set ?_ GE209.out | refine below_set ?_ GE213.out | refine below_set ?_ GE227.out | refine below_set ?_ GE231.out) | exact HB.out)) hb)
                        clear BK199
                        clear BK200
                        clear BK209
                        clear BK213
                        clear BK227
                        clear BK231
                        clear HB
                        have BK199 := n0_
                        have BK200 := n1_
                        have BK209 := n2_
                        have BK213 := n3_
                        have BK227 := n4_
                        have BK231 := n5_
                        have HB := n6_
                        clear n0_ n1_ n2_ n3_ n4_ n5_ n6_
                        (try clear hb)
                        (try clear hb2)
                        (try clear hk)
                        (try clear hi)
                        refine hK.out _ _ ⟨(blk_cell BK209.out 0).trans rfl, (blk_cell BK209.out 1).trans rfl, (blk_cell BK213.out 0).trans rfl, (blk_cell BK213.out 1).trans rfl, (blk_cell BK199.out 0).trans rfl, (blk_cell BK199.out 1).trans rfl, (blk_cell BK227.out 0).trans rfl, (blk_cell BK227.out 1).trans rfl, (blk_cell BK231.out 0).trans rfl, (blk_cell BK231.out 1).trans rfl⟩ (fun hHeld => ?_)
                        clear hK K
                        refine norm_ (a' := ?_) ?_ ?_
                        rotate_left
                        · show Act.put _ (some 123) _ = _
                          simp only [Act.put, List.setIfInBounds_toArray, List.set_cons_zero, List.set_cons_succ, i64_w, i32_w]
                          rfl
                        refine pure_ (i := 42) (N := some 124) (v := ?_) (a' := ?_) #[true, true, true, true, true, true, true, true, true, true, true, true, true, true, true, true, true, true, true, true, true, true, true, true, true, true, true, true, true, true, true, true, true, true, true, true, true, true, true, true, true, true, true, false, false, false, false, false, false, false, false, false, false, false, false, false, false, false, false, false, false, false, false, false, false, false] rfl rfl (any_of HT_.out (by kernel_rfl)) (fun _ _ _ h => h) (Or.inl ⟨by rfl, ?_⟩) ?_ ?_
                        rotate_left
                        · intro w'
                          go_simp
                          with_reducible rfl
                        rotate_left
                        · simp only [Act.put, List.setIfInBounds_toArray, List.set_cons_zero, List.set_cons_succ, i64_w, i32_w]
                          rfl
                        refine pure_ (i := 43) (N := some 125) (v := ?_) (a' := ?_) #[true, true, true, true, true, true, true, true, true, true, true, true, true, true, true, true, true, true, true, true, true, true, true, true, true, true, true, true, true, true, true, true, true, true, true, true, true, true, true, true, true, true, true, true, false, false, false, false, false, false, false, false, false, false, false, false, false, false, false, false, false, false, false, false, false, false] rfl rfl (any_of HT_.out (by kernel_rfl)) (fun _ _ _ h => h) (Or.inl ⟨by rfl, ?_⟩) ?_ ?_
                        rotate_left
                        · intro w'
                          go_simp
                          with_reducible rfl
                        rotate_left
                        · simp only [Act.put, List.setIfInBounds_toArray, List.set_cons_zero, List.set_cons_succ, i64_w, i32_w]
                          rfl
                        refine pure_ (i := 44) (N := some 126) (v := ?_) (a' := ?_) #[true, true, true, true, true, true, true, true, true, true, true, true, true, true, true, true, true, true, true, true, true, true, true, true, true, true, true, true, true, true, true, true, true, true, true, true, true, true, true, true, true, true, true, true, true, false, false, false, false, false, false, false, false, false, false, false, false, false, false, false, false, false, false, false, false, false] rfl rfl (any_of HT_.out (by kernel_rfl)) (fun _ _ _ h => h) (Or.inl ⟨by rfl, ?_⟩) ?_ ?_
                        rotate_left
                        · intro w'
                          go_simp
                          with_reducible rfl
                        rotate_left
                        · simp only [Act.put, List.setIfInBounds_toArray, List.set_cons_zero, List.set_cons_succ, i64_w, i32_w]
                          rfl
                        refine pure_ (i := 45) (N := some 127) (v := ?_) (a' := ?_) #[true, true, true, true, true, true, true, true, true, true, true, true, true, true, true, true, true, true, true, true, true, true, true, true, true, true, true, true, true, true, true, true, true, true, true, true, true, true, true, true, true, true, true, true, true, true, false, false, false, false, false, false, false, false, false, false, false, false, false, false, false, false, false, false, false, false] rfl rfl (any_of HT_.out (by kernel_rfl)) (fun _ _ _ h => h) (Or.inl ⟨by rfl, ?_⟩) ?_ ?_
                        rotate_left
                        · intro w'
                          go_simp
                          with_reducible rfl
                        rotate_left
                        · simp only [Act.put, List.setIfInBounds_toArray, List.set_cons_zero, List.set_cons_succ, i64_w, i32_w]
                          rfl
                        refine pure_ (i := 46) (N := some 128) (v := ?_) (a' := ?_) #[true, true, true, true, true, true, true, true, true, true, true, true, true, true, true, true, true, true, true, true, true, true, true, true, true, true, true, true, true, true, true, true, true, true, true, true, true, true, true, true, true, true, true, true, true, true, true, false, false, false, false, false, false, false, false, false, false, false, false, false, false, false, false, false, false, false] rfl rfl (any_of HT_.out (by kernel_rfl)) (fun _ _ _ h => h) (Or.inl ⟨by rfl, ?_⟩) ?_ ?_
                        rotate_left
                        · intro w'
                          go_simp
                          with_reducible rfl
                        rotate_left
                        · simp only [Act.put, List.setIfInBounds_toArray, List.set_cons_zero, List.set_cons_succ, i64_w, i32_w]
                          rfl
                        refine pure_ (i := 47) (N := some 129) (v := ?_) (a' := ?_) #[true, true, true, true, true, true, true, true, true, true, true, true, true, true, true, true, true, true, true, true, true, true, true, true, true, true, true, true, true, true, true, true, true, true, true, true, true, true, true, true, true, true, true, true, true, true, true, true, false, false, false, false, false, false, false, false, false, false, false, false, false, false, false, false, false, false] rfl rfl (any_of HT_.out (by kernel_rfl)) (fun _ _ _ h => h) (Or.inl ⟨by rfl, ?_⟩) ?_ ?_
                        rotate_left
                        · intro w'
                          go_simp
                          with_reducible rfl
                        rotate_left
                        · simp only [Act.put, List.setIfInBounds_toArray, List.set_cons_zero, List.set_cons_succ, i64_w, i32_w]
                          rfl
                        refine pure_ (i := 48) (N := some 130) (v := ?_) (a' := ?_) #[true, true, true, true, true, true, true, true, true, true, true, true, true, true, true, true, true, true, true, true, true, true, true, true, true, true, true, true, true, true, true, true, true, true, true, true, true, true, true, true, true, true, true, true, true, true, true, true, true, false, false, false, false, false, false, false, false, false, false, false, false, false, false, false, false, false] rfl rfl (any_of HT_.out (by kernel_rfl)) (fun _ _ _ h => h) (Or.inl ⟨by rfl, ?_⟩) ?_ ?_
                        rotate_left
                        · intro w'
                          go_simp
                          with_reducible rfl
                        rotate_left
                        · simp only [Act.put, List.setIfInBounds_toArray, List.set_cons_zero, List.set_cons_succ, i64_w, i32_w]
                          rfl
                        refine pure_ (i := 49) (N := some 131) (v := ?_) (a' := ?_) #[true, true, true, true, true, true, true, true, true, true, true, true, true, true, true, true, true, true, true, true, true, true, true, true, true, true, true, true, true, true, true, true, true, true, true, true, true, true, true, true, true, true, true, true, true, true, true, true, true, true, false, false, false, false, false, false, false, false, false, false, false, false, false, false, false, false] rfl rfl (any_of HT_.out (by kernel_rfl)) (fun _ _ _ h => h) (Or.inl ⟨by rfl, ?_⟩) ?_ ?_
                        rotate_left
                        · intro w'
                          go_simp
                          with_reducible rfl
                        rotate_left
                        · simp only [Act.put, List.setIfInBounds_toArray, List.set_cons_zero, List.set_cons_succ, i64_w, i32_w]
                          rfl
                        refine pure_ (i := 50) (N := some 132) (v := ?_) (a' := ?_) #[true, true, true, true, true, true, true, true, true, true, true, true, true, true, true, true, true, true, true, true, true, true, true, true, true, true, true, true, true, true, true, true, true, true, true, true, true, true, true, true, true, true, true, true, true, true, true, true, true, true, true, false, false, false, false, false, false, false, false, false, false, false, false, false, false, false] rfl rfl (any_of HT_.out (by kernel_rfl)) (fun _ _ _ h => h) (Or.inl ⟨by rfl, ?_⟩) ?_ ?_
                        rotate_left
                        · intro w'
                          go_simp
                          with_reducible rfl
                        rotate_left
                        · simp only [Act.put, List.setIfInBounds_toArray, List.set_cons_zero, List.set_cons_succ, i64_w, i32_w]
                          rfl
                        refine pure_ (i := 51) (N := some 133) (v := ?_) (a' := ?_) #[true, true, true, true, true, true, true, true, true, true, true, true, true, true, true, true, true, true, true, true, true, true, true, true, true, true, true, true, true, true, true, true, true, true, true, true, true, true, true, true, true, true, true, true, true, true, true, true, true, true, true, true, false, false, false, false, false, false, false, false, false, false, false, false, false, false] rfl rfl (any_of HT_.out (by kernel_rfl)) (fun _ _ _ h => h) (Or.inl ⟨by rfl, ?_⟩) ?_ ?_
                        rotate_left
                        · intro w'
                          go_simp
                          with_reducible rfl
                        rotate_left
                        · simp only [Act.put, List.setIfInBounds_toArray, List.set_cons_zero, List.set_cons_succ, i64_w, i32_w]
                          rfl
                        refine pure_ (i := 52) (N := some 134) (v := ?_) (a' := ?_) #[true, true, true, true, true, true, true, true, true, true, true, true, true, true, true, true, true, true, true, true, true, true, true, true, true, true, true, true, true, true, true, true, true, true, true, true, true, true, true, true, true, true, true, true, true, true, true, true, true, true, true, true, true, false, false, false, false, false, false, false, false, false, false, false, false, false] rfl rfl (any_of HT_.out (by kernel_rfl)) (fun _ _ _ h => h) (Or.inl ⟨by rfl, ?_⟩) ?_ ?_
                        rotate_left
                        · intro w'
                          go_simp
                          with_reducible rfl
                        rotate_left
                        · simp only [Act.put, List.setIfInBounds_toArray, List.set_cons_zero, List.set_cons_succ, i64_w, i32_w]
                          rfl
                        refine pure_ (i := 53) (N := some 135) (v := ?_) (a' := ?_) #[true, true, true, true, true, true, true, true, true, true, true, true, true, true, true, true, true, true, true, true, true, true, true, true, true, true, true, true, true, true, true, true, true, true, true, true, true, true, true, true, true, true, true, true, true, true, true, true, true, true, true, true, true, true, false, false, false, false, false, false, false, false, false, false, false, false] rfl rfl (any_of HT_.out (by kernel_rfl)) (fun _ _ _ h => h) (Or.inl ⟨by rfl, ?_⟩) ?_ ?_
                        rotate_left
                        · intro w'
                          go_simp
                          with_reducible rfl
                        rotate_left
                        · simp only [Act.put, List.setIfInBounds_toArray, List.set_cons_zero, List.set_cons_succ, i64_w, i32_w]
                          rfl
                        refine pure_ (i := 54) (N := some 136) (v := ?_) (a' := ?_) #[true, true, true, true, true, true, true, true, true, true, true, true, true, true, true, true, true, true, true, true, true, true, true, true, true, true, true, true, true, true, true, true, true, true, true, true, true, true, true, true, true, true, true, true, true, true, true, true, true, true, true, true, true, true, true, false, false, false, false, false, false, false, false, false, false, false] rfl rfl (any_of HT_.out (by kernel_rfl)) (fun _ _ _ h => h) (Or.inl ⟨by rfl, ?_⟩) ?_ ?_
                        rotate_left
                        · intro w'
                          go_simp
                          with_reducible rfl
                        rotate_left
                        · simp only [Act.put, List.setIfInBounds_toArray, List.set_cons_zero, List.set_cons_succ, i64_w, i32_w]
                          rfl
                        refine take_ (i := 55) (N := some 137) (v := ?_) (a' := ?_) #[true, true, true, true, true, true, true, true, true, true, true, true, true, true, true, true, true, true, true, true, true, true, true, true, true, true, true, true, true, true, true, true, true, true, true, true, true, true, true, true, true, true, true, true, true, true, true, true, true, true, true, true, true, true, true, true, false, false, false, false, false, false, false, false, false, false] rfl rfl (take_ofW HT_.out HW_.out (by kernel_rfl)) (fun _ _ _ h => h) (Or.inl ⟨by rfl, ?_⟩) hHeld ?_ ?_
                        rotate_left
                        · rintro w' ⟨s0, s1, s2, s3, s4, s5, s6, s7, s8, s9⟩
                          go_simp
                          with_reducible rfl
                        rotate_left
                        · simp only [Act.put, List.setIfInBounds_toArray, List.set_cons_zero, List.set_cons_succ, i64_w, i32_w]
                          rfl
                        refine take_ (i := 57) (N := some 139) (v := ?_) (a' := ?_) #[true, true, true, true, true, true, true, true, true, true, true, true, true, true, true, true, true, true, true, true, true, true, true, true, true, true, true, true, true, true, true, true, true, true, true, true, true, true, true, true, true, true, true, true, true, true, true, true, true, true, true, true, true, true, true, true, false, true, false, false, false, false, false, false, false, false] rfl rfl (take_ofW HT_.out HW_.out (by kernel_rfl)) (fun _ _ _ h => h) (Or.inl ⟨by rfl, ?_⟩) hHeld ?_ ?_
                        rotate_left
                        · rintro w' ⟨s0, s1, s2, s3, s4, s5, s6, s7, s8, s9⟩
                          go_simp
                          with_reducible rfl
                        rotate_left
                        · simp only [Act.put, List.setIfInBounds_toArray, List.set_cons_zero, List.set_cons_succ, i64_w, i32_w]
                          rfl
                        refine one_ (i := 56) (N := some 138) #[true, true, true, true, true, true, true, true, true, true, true, true, true, true, true, true, true, true, true, true, true, true, true, true, true, true, true, true, true, true, true, true, true, true, true, true, true, true, true, true, true, true, true, true, true, true, true, true, true, true, true, true, true, true, true, true, true, true, false, false, false, false, false, false, false, false] rfl rfl (one_of HT_.out (by kernel_rfl)) (by decide) (fun K hK => ?_)
                        refine goes_ Try.func22 (by kernel_rfl) rfl #[.agg #[.int .i64 t224, .int .i64 t225]] (by rfl) rfl rfl (by (try simp only [List.map_toArray, List.map_cons, List.map_nil]); first | done | rfl | (simp only [List.length_drop, List.length_take]; rfl)) ?_
                        with_reducible refine (heronrylaw12_theirs.calls t224 t225 t242 t243 _ A37.out).mono ?_
                        rintro e w90 ⟨rfl, hb⟩
                        refine ⟨_, rfl, ?_⟩
                        have n0_ := Aside0.mk (blk_below (g := gb199) (o := .cells #[.int .i64 a2_0, .int .i64 a2_1] 23 (0, 0)) (by (with_reducible repeat (first | refine blk_drewN ?_ _ | refine blk_drew ?_ | refine blk_alloc ?_ _)); exact BK199.out) hb)
                        have n1_ := Aside0.mk (blk_below (g := gb200) (o := .cells #[.int .i64 a3_0, .int .i64 a3_1] 23 (0, 0)) (by (with_reducible repeat (first | refine blk_drewN ?_ _ | refine blk_drew ?_ | refine blk_alloc ?_ _)); exact BK200.out) hb)
                        have n2_ := Aside0.mk (blk_below (g := gb209) (o := .cells #[.int .i64 t206, .int .i64 t207] 28 (0, 0)) (by (with_reducible repeat (first | refine blk_drewN ?_ _ | refine blk_drew ?_ | refine blk_alloc ?_ _)); exact BK209.out) hb)
                        have n3_ := Aside0.mk (blk_below (g := gb213) (o := .cells #[.int .i64 t210, .int .i64 t211] 23 (0, 0)) (by (with_reducible repeat (first | refine blk_drewN ?_ _ | refine blk_drew ?_ | refine blk_alloc ?_ _)); exact BK213.out) hb)
                        have n4_ := Aside0.mk (blk_below (g := gb227) (o := .cells #[.int .i64 t224, .int .i64 t225] 28 (0, 0)) (by (with_reducible repeat (first | refine blk_drewN ?_ _ | refine blk_drew ?_ | refine blk_alloc ?_ _)); exact BK227.out) hb)
                        have n5_ := Aside0.mk (blk_below (g := gb231) (o := .cells #[.int .i64 t228, .int .i64 t229] 23 (0, 0)) (by (with_reducible repeat (first | refine blk_drewN ?_ _ | refine blk_drew ?_ | refine blk_alloc ?_ _)); exact BK231.out) hb)
                        have n6_ := Aside0.mk (below_step (by repeat (first | (with_reducible first | exact HB.out | apply below_alloc | apply pw_below_drewN | apply below_drew1 | refine below_set ?_ GE199.out | refine below_set ?_ GE200.out | refine below_set ?_ GE209.out | refine below_set ?_ GE213.out | refine below_set ?_ GE227.out | refine below_set ?_ GE231.out) | exact HB.out)) hb)
                        clear BK199
                        clear BK200
                        clear BK209
                        clear BK213
                        clear BK227
                        clear BK231
                        clear HB
                        have BK199 := n0_
                        have BK200 := n1_
                        have BK209 := n2_
                        have BK213 := n3_
                        have BK227 := n4_
                        have BK231 := n5_
                        have HB := n6_
                        clear n0_ n1_ n2_ n3_ n4_ n5_ n6_
                        (try clear hb)
                        (try clear hb2)
                        (try clear hk)
                        (try clear hi)
                        refine hK.out _ _ ⟨(blk_cell BK209.out 0).trans rfl, (blk_cell BK209.out 1).trans rfl, (blk_cell BK213.out 0).trans rfl, (blk_cell BK213.out 1).trans rfl, (blk_cell BK199.out 0).trans rfl, (blk_cell BK199.out 1).trans rfl, (blk_cell BK227.out 0).trans rfl, (blk_cell BK227.out 1).trans rfl, (blk_cell BK231.out 0).trans rfl, (blk_cell BK231.out 1).trans rfl⟩ (fun hHeld => ?_)
                        clear hK K
                        refine norm_ (a' := ?_) ?_ ?_
                        rotate_left
                        · show Act.put _ (some 138) _ = _
                          simp only [Act.put, List.setIfInBounds_toArray, List.set_cons_zero, List.set_cons_succ, i64_w, i32_w]
                          rfl
                        refine pure_ (i := 58) (N := some 140) (v := ?_) (a' := ?_) #[true, true, true, true, true, true, true, true, true, true, true, true, true, true, true, true, true, true, true, true, true, true, true, true, true, true, true, true, true, true, true, true, true, true, true, true, true, true, true, true, true, true, true, true, true, true, true, true, true, true, true, true, true, true, true, true, true, true, true, false, false, false, false, false, false, false] rfl rfl (any_of HT_.out (by kernel_rfl)) (fun _ _ _ h => h) (Or.inl ⟨by rfl, ?_⟩) ?_ ?_
                        rotate_left
                        · intro w'
                          go_simp
                          with_reducible rfl
                        rotate_left
                        · simp only [Act.put, List.setIfInBounds_toArray, List.set_cons_zero, List.set_cons_succ, i64_w, i32_w]
                          rfl
                        refine pure_ (i := 59) (N := some 141) (v := ?_) (a' := ?_) #[true, true, true, true, true, true, true, true, true, true, true, true, true, true, true, true, true, true, true, true, true, true, true, true, true, true, true, true, true, true, true, true, true, true, true, true, true, true, true, true, true, true, true, true, true, true, true, true, true, true, true, true, true, true, true, true, true, true, true, true, false, false, false, false, false, false] rfl rfl (any_of HT_.out (by kernel_rfl)) (fun _ _ _ h => h) (Or.inl ⟨by rfl, ?_⟩) ?_ ?_
                        rotate_left
                        · intro w'
                          go_simp
                          with_reducible rfl
                        rotate_left
                        · simp only [Act.put, List.setIfInBounds_toArray, List.set_cons_zero, List.set_cons_succ, i64_w, i32_w]
                          rfl
                        refine pure_ (i := 60) (N := some 142) (v := ?_) (a' := ?_) #[true, true, true, true, true, true, true, true, true, true, true, true, true, true, true, true, true, true, true, true, true, true, true, true, true, true, true, true, true, true, true, true, true, true, true, true, true, true, true, true, true, true, true, true, true, true, true, true, true, true, true, true, true, true, true, true, true, true, true, true, true, false, false, false, false, false] rfl rfl (any_of HT_.out (by kernel_rfl)) (fun _ _ _ h => h) (Or.inl ⟨by rfl, ?_⟩) ?_ ?_
                        rotate_left
                        · intro w'
                          go_simp
                          with_reducible rfl
                        rotate_left
                        · simp only [Act.put, List.setIfInBounds_toArray, List.set_cons_zero, List.set_cons_succ, i64_w, i32_w]
                          rfl
                        refine pure_ (i := 61) (N := some 143) (v := ?_) (a' := ?_) #[true, true, true, true, true, true, true, true, true, true, true, true, true, true, true, true, true, true, true, true, true, true, true, true, true, true, true, true, true, true, true, true, true, true, true, true, true, true, true, true, true, true, true, true, true, true, true, true, true, true, true, true, true, true, true, true, true, true, true, true, true, true, false, false, false, false] rfl rfl (any_of HT_.out (by kernel_rfl)) (fun _ _ _ h => h) (Or.inl ⟨by rfl, ?_⟩) ?_ ?_
                        rotate_left
                        · intro w'
                          go_simp
                          with_reducible rfl
                        rotate_left
                        · simp only [Act.put, List.setIfInBounds_toArray, List.set_cons_zero, List.set_cons_succ, i64_w, i32_w]
                          rfl
                        refine pure_ (i := 62) (N := some 144) (v := ?_) (a' := ?_) #[true, true, true, true, true, true, true, true, true, true, true, true, true, true, true, true, true, true, true, true, true, true, true, true, true, true, true, true, true, true, true, true, true, true, true, true, true, true, true, true, true, true, true, true, true, true, true, true, true, true, true, true, true, true, true, true, true, true, true, true, true, true, true, false, false, false] rfl rfl (any_of HT_.out (by kernel_rfl)) (fun _ _ _ h => h) (Or.inl ⟨by rfl, ?_⟩) ?_ ?_
                        rotate_left
                        · intro w'
                          go_simp
                          with_reducible rfl
                        rotate_left
                        · simp only [Act.put, List.setIfInBounds_toArray, List.set_cons_zero, List.set_cons_succ, i64_w, i32_w]
                          rfl
                        refine pure_ (i := 63) (N := some 145) (v := ?_) (a' := ?_) #[true, true, true, true, true, true, true, true, true, true, true, true, true, true, true, true, true, true, true, true, true, true, true, true, true, true, true, true, true, true, true, true, true, true, true, true, true, true, true, true, true, true, true, true, true, true, true, true, true, true, true, true, true, true, true, true, true, true, true, true, true, true, true, true, false, false] rfl rfl (any_of HT_.out (by kernel_rfl)) (fun _ _ _ h => h) (Or.inl ⟨by rfl, ?_⟩) ?_ ?_
                        rotate_left
                        · intro w'
                          go_simp
                          with_reducible rfl
                        rotate_left
                        · simp only [Act.put, List.setIfInBounds_toArray, List.set_cons_zero, List.set_cons_succ, i64_w, i32_w]
                          rfl
                        refine pure_ (i := 64) (N := some 146) (v := ?_) (a' := ?_) #[true, true, true, true, true, true, true, true, true, true, true, true, true, true, true, true, true, true, true, true, true, true, true, true, true, true, true, true, true, true, true, true, true, true, true, true, true, true, true, true, true, true, true, true, true, true, true, true, true, true, true, true, true, true, true, true, true, true, true, true, true, true, true, true, true, false] rfl rfl (any_of HT_.out (by kernel_rfl)) (fun _ _ _ h => h) (Or.inl ⟨by rfl, ?_⟩) ?_ ?_
                        rotate_left
                        · intro w'
                          go_simp
                          with_reducible rfl
                        rotate_left
                        · simp only [Act.put, List.setIfInBounds_toArray, List.set_cons_zero, List.set_cons_succ, i64_w, i32_w]
                          rfl
                        refine pure_ (i := 65) (N := some 8) (v := ?_) (a' := ?_) #[true, true, true, true, true, true, true, true, true, true, true, true, true, true, true, true, true, true, true, true, true, true, true, true, true, true, true, true, true, true, true, true, true, true, true, true, true, true, true, true, true, true, true, true, true, true, true, true, true, true, true, true, true, true, true, true, true, true, true, true, true, true, true, true, true, true] rfl rfl (any_of HT_.out (by kernel_rfl)) (fun _ _ _ h => h) (Or.inl ⟨by rfl, ?_⟩) ?_ ?_
                        rotate_left
                        · intro w'
                          go_simp
                          with_reducible rfl
                        rotate_left
                        · simp only [Act.put, List.setIfInBounds_toArray, List.set_cons_zero, List.set_cons_succ, i64_w, i32_w]
                          rfl
                        refine done_ (done_of HT_.out (by kernel_rfl)) ?_
                        try go_wp2
                        go_ret
                        exact ⟨by first | rfl | (simp [errW_none, errW_some] <;> rfl) | (simp [*, errW_none, errW_some] <;> rfl), by repeat (first | (with_reducible first | exact HB.out | apply below_alloc | apply pw_below_drewN | apply below_drew1 | refine below_set ?_ GE199.out | refine below_set ?_ GE200.out | refine below_set ?_ GE209.out | refine below_set ?_ GE213.out | refine below_set ?_ GE227.out | refine below_set ?_ GE231.out) | exact HB.out)⟩
                      · rw [if_neg c38] at H
                        have c38b0 : (t242 == t228 && (t243 == t229)) = false := by simpa using c38
                        (try (have c38b1 : decide (t242 = t228 && (t243 == t229)) = false := by simpa using c38))
                        (try (have c38b2 : (t242 == t228 && (t243 == t229)) = false := by simpa using c38))
                        (try (have c38b3 : ¬ (t242 = t228 && (t243 == t229)) := by simpa using c38))
                        clear c38
                        obtain rfl := Option.some.inj H
                        exact absurd hT_.out (by decide)
                    · rw [if_neg c36] at H
                      have c36b0 : (t217 == t219) = false := beq_eq_false_iff_ne.mpr c36
                      have c36b1 : (t217 != t219) = true := bne_iff_ne.mpr c36
                      obtain rfl := Option.some.inj H
                      exact absurd hT_.out (by decide)
                  · rw [if_neg c35] at H
                    have c35b0 : (t216 == t218) = false := beq_eq_false_iff_ne.mpr c35
                    have c35b1 : (t216 != t218) = true := bne_iff_ne.mpr c35
                    obtain rfl := Option.some.inj H
                    exact absurd hT_.out (by decide)
                · rw [if_neg c34] at H
                  have c34b0 : (t240 == t241) = false := by simpa using c34
                  (try (have c34b1 : decide (t240 = t241) = false := by simpa using c34))
                  (try (have c34b2 : (t240 == t241) = false := by simpa using c34))
                  (try (have c34b3 : ¬ (t240 = t241) := by simpa using c34))
                  clear c34
                  obtain rfl := Option.some.inj H
                  exact absurd hT_.out (by decide)
              · rw [if_neg c30] at H
                have c30b0 : (t236 == t237) = false := by simpa using c30
                (try (have c30b1 : decide (t236 = t237) = false := by simpa using c30))
                (try (have c30b2 : (t236 == t237) = false := by simpa using c30))
                (try (have c30b3 : ¬ (t236 = t237) := by simpa using c30))
                clear c30
                obtain rfl := Option.some.inj H
                exact absurd hT_.out (by decide)
            · rw [if_neg c26] at H
              have c26b0 : (t208 == t212) = false := beq_eq_false_iff_ne.mpr c26
              have c26b1 : (t208 != t212) = true := bne_iff_ne.mpr c26
              obtain rfl := Option.some.inj H
              exact absurd hT_.out (by decide)
          · rw [if_neg c25] at H
            have c25b0 : (t232 == t210 && (t233 == t211)) = false := by simpa using c25
            (try (have c25b1 : decide (t232 = t210 && (t233 == t211)) = false := by simpa using c25))
            (try (have c25b2 : (t232 == t210 && (t233 == t211)) = false := by simpa using c25))
            (try (have c25b3 : ¬ (t232 = t210 && (t233 == t211)) := by simpa using c25))
            clear c25
            obtain rfl := Option.some.inj H
            exact absurd hT_.out (by decide)
        · rw [if_neg c23] at H
          have c23b0 : (t203 == t205) = false := beq_eq_false_iff_ne.mpr c23
          have c23b1 : (t203 != t205) = true := bne_iff_ne.mpr c23
          obtain rfl := Option.some.inj H
          exact absurd hT_.out (by decide)
      · rw [if_neg c22] at H
        have c22b0 : (t202 == t204) = false := beq_eq_false_iff_ne.mpr c22
        have c22b1 : (t202 != t204) = true := bne_iff_ne.mpr c22
        obtain rfl := Option.some.inj H
        exact absurd hT_.out (by decide)
    · replace c21 := Bool.eq_false_iff.mpr c21
      subst c21
      have H1 : (some false) = some r := by rw [if_neg (show ¬ (false = true) by decide)] at H; exact H
      clear H
      have H := H1
      clear H1
      obtain rfl := Option.some.inj H
      exact absurd hT_.out (by decide)

end Go.Proofs.Ythhhfoogfnnooaa.Q
