-- Cut to what one claim reaches, out of what the kit's print laid for this seat (wip/tools/trim.py).
import Derived.Test.YtnlnglfjehohpaaQ0
import Derived.Test.YtnlnglfjehohpaaQ6
import Derived.Test.YtnlnglfjehohpaaQ7
import Derived.Test.YtnlnglfjehohpaaTO
import Derived.Test.YtnlnglfjehohpaaTV
namespace Go.Proofs.Ytnlnglfjehohpaa.Q
open Go.RowKit Go.Proofs.YtnlnglfjehohpaaW.PrintWords Go.Proofs.YtnlnglfjehohpaaW.PrintLast Go.Proofs.YtnlnglfjehohpaaW.PrintMore
attribute [local go_sem] max2_int min2_int max_two min_two max_three min_three max_four min_four   -- for this text's walks alone
set_option linter.unusedVariables false
set_option linter.unusedSimpArgs false

mutual
def heronrylaw09_TreeOrder.l0 : Nat → Bool → List Int → Int → List (S35) → Int → Option (Bool)
 | 0, _, _, _, _, _ => none
 | k + 1, x3, x5, x6, x334000, x334001 => if x6 < (x5.length : Int) then (heronrylaw09_TreeOrder.l1 k x3 x5 x6 0 x334000 x334001) else (some x3)
def heronrylaw09_TreeOrder.l1 : Nat → Bool → List Int → Int → Int → List (S35) → Int → Option (Bool)
 | 0, _, _, _, _, _, _ => none
 | k + 1, x3, x5, x6, x7, x334000, x334001 => if x7 < x6 then (if 0 ≤ x7 then (if x7 < (x5.length : Int) then (if 0 ≤ (rd x5 x7) then (if (rd x5 x7) < (x334000.length : Int) then (if 0 ≤ x6 then (if x6 < (x5.length : Int) then (if 0 ≤ (rd x5 x6) then (if (rd x5 x6) < (x334000.length : Int) then (if ((rd_T35 x334000 (rd x5 x7)).f0) = ((rd_T35 x334000 (rd x5 x6)).f0) then (if ((rd_T35 x334000 (rd x5 x7)).f3) ≥ ((rd_T35 x334000 (rd x5 x6)).f3) then (some false) else ((tree_Within.f x334000 x334001 (rd x5 x7) (rd x5 x6)).bind fun t345 => (if t345 = true then (some false) else (heronrylaw09_TreeOrder.l1 k x3 x5 x6 (wrap64 (x7 + 1)) x334000 x334001)))) else ((tree_Within.f x334000 x334001 (rd x5 x7) (rd x5 x6)).bind fun t348 => (if t348 = true then (some false) else (heronrylaw09_TreeOrder.l1 k x3 x5 x6 (wrap64 (x7 + 1)) x334000 x334001)))) else (none)) else (none)) else (none)) else (none)) else (none)) else (none)) else (none)) else (none)) else (heronrylaw09_TreeOrder.l0 k x3 x5 (wrap64 (x6 + 1)) x334000 x334001)
end
def heronrylaw09_TreeOrder.f (k : Nat) (l0 : List (S47)) : Option (Bool) := (heronrylaw09_awake.f k).bind fun t328 => (if (l0.length : Int) > 120 then (some t328) else ((heronrylaw09_grown.f k l0).bind fun bt329 => ((tree_Order.f bt329.1 bt329.2).bind fun t334 => (heronrylaw09_TreeOrder.l0 k t328 t334 0 bt329.1 bt329.2))))
def heronrylaw09_TreeOrder.T12 : Bool × List (List Nat × List Nat) := (true, [([], []), ([0], [0]), ([], []), ([], []), ([2, 3], [2, 3]), ([4], [4]), ([1, 5], [1, 5]), ([6], [6]), ([], []), ([8, 7, 0, 1, 2, 3, 4, 5, 6, 7, 8], [7, 8])])
def heronrylaw09_TreeOrder.B12 : List Nat := [0, 1, 0, 0, 12, 28, 63, 127, 0, 511]
theorem heronrylaw09_TreeOrder.tab12 : rtab .any (opsOf Try.f6 12) = heronrylaw09_TreeOrder.T12 := by kernel_rfl
theorem heronrylaw09_TreeOrder.bits12 : waitsOk heronrylaw09_TreeOrder.T12.2 heronrylaw09_TreeOrder.B12 = true := by kernel_rfl
def heronrylaw09_TreeOrder.T13 : Bool × List (List Nat × List Nat) := (true, [([], []), ([0], [0]), ([], []), ([], []), ([2, 3], [2, 3]), ([4], [4]), ([1, 5], [1, 5]), ([6], [6]), ([], []), ([8, 7, 0, 1, 2, 3, 4, 5, 6, 7, 8], [7, 8])])
def heronrylaw09_TreeOrder.B13 : List Nat := [0, 1, 0, 0, 12, 28, 63, 127, 0, 511]
theorem heronrylaw09_TreeOrder.tab13 : rtab .any (opsOf Try.f6 13) = heronrylaw09_TreeOrder.T13 := by kernel_rfl
theorem heronrylaw09_TreeOrder.bits13 : waitsOk heronrylaw09_TreeOrder.T13.2 heronrylaw09_TreeOrder.B13 = true := by kernel_rfl
def heronrylaw09_TreeOrder.T14 : Bool × List (List Nat × List Nat) := (true, [([], []), ([0], [0]), ([], []), ([2], [2]), ([1, 3], [1, 3]), ([4], [4]), ([5], [5]), ([6, 5], [5, 6]), ([5], [5]), ([8, 5], [5, 8]), ([7, 9, 5], [5, 7, 9]), ([5, 10], [5, 10]), ([11, 5], [11]), ([12], [12]), ([12], [12]), ([12], [12]), ([14, 15, 12], [12, 14, 15]), ([16, 12], [12, 16]), ([12], [12]), ([12], [12]), ([18, 19, 12], [12, 18, 19]), ([20, 12], [12, 20]), ([13, 17, 21, 12, 12], [12, 13, 17, 21]), ([12, 22], [12, 22])])
def heronrylaw09_TreeOrder.B14 : List Nat := [0, 1, 0, 4, 15, 31, 63, 127, 63, 319, 1023, 2047, 4095, 8191, 8191, 8191, 57343, 122879, 8191, 8191, 794623, 1843199, 4194303, 8388607]
theorem heronrylaw09_TreeOrder.tab14 : rtab .any (opsOf Try.f6 14) = heronrylaw09_TreeOrder.T14 := by kernel_rfl
theorem heronrylaw09_TreeOrder.bits14 : waitsOk heronrylaw09_TreeOrder.T14.2 heronrylaw09_TreeOrder.B14 = true := by kernel_rfl
set_option maxHeartbeats 8000000 in
set_option maxRecDepth 100000 in
theorem heronrylaw09_TreeOrder.calls (k : Nat) (A0 : Option Addr) (c0 : Nat) (l0 : List (S47)) (r : Bool) (w : World) (hT_ : Aside0 (r = true)) (hr0 : Kd.C k47 w A0 l0.length l0) (hc0 : l0.length ≤ c0) (h : heronrylaw09_TreeOrder.f k l0 = some r) :
  Calls Try.prog 6 #[.slice A0 l0.length c0] w fun e w' => e = .returned (.bool r) ∧ Below w.heap.size w w' := by
 have hu26 := Try.underlying26
 have hu35 := Try.underlying35
 have HR0 := Aside0.mk hr0
 have HC0 := Aside0.mk hc0
 clear hr0 hc0
 have HB := Aside0.mk (Below.refl w.heap.size w)
 have H : ((heronrylaw09_awake.f k).bind fun t328 => (if (l0.length : Int) > 120 then (some t328) else ((heronrylaw09_grown.f k l0).bind fun bt329 => ((tree_Order.f bt329.1 bt329.2).bind fun t334 => (heronrylaw09_TreeOrder.l0 k t328 t334 0 bt329.1 bt329.2))))) = some r := h
 clear h
 replace H := Option.bind_eq_some_iff.mp H
 obtain ⟨t328, A20, H⟩ := H
 replace H : (if (l0.length : Int) > 120 then (some t328) else ((heronrylaw09_grown.f k l0).bind fun bt329 => ((tree_Order.f bt329.1 bt329.2).bind fun t334 => (heronrylaw09_TreeOrder.l0 k t328 t334 0 bt329.1 bt329.2)))) = some r := H
 have A2 := Aside0.mk A20
 clear A20
 by_cases c3 : (l0.length : Int) > 120
 ·rw [if_pos c3] at H
  have c3b0 : decide (120 < (l0.length : Int)) = true := decide_eq_true c3
  have c3b1 : decide (120 < l0.length) = true := decide_eq_true (by omega)
  clear c3
  obtain rfl := Option.some.inj H
  go_enter Try.func6, Try.ntmps6
  go_wp2_with (first | ((with_reducible refine gate_callee (f := 8) rfl ?_); refine goesL_ (some 10) rfl rfl Try.func8 (by kernel_rfl) rfl #[] rfl (by (try simp only [List.map_toArray, List.map_cons, List.map_nil]); first | done | rfl | (simp only [List.length_drop, List.length_take]; rfl)) ?_; (with_reducible refine (heronrylaw09_awake.calls k  t328 _ A2.out).mono ?_); rintro e w4 ⟨rfl, hb⟩; refine ⟨_, rfl, ?_⟩; have n0_ := Aside0.mk (below_step (by repeat (first | (with_reducible first | exact HB.out | apply below_alloc | apply pw_below_drewN | apply below_drew1) | exact HB.out)) hb); clear HB; have HB := n0_; clear n0_; (try clear hb); (try clear hb2); (try clear hk); (try clear hi)))
  go_ret
  exact ⟨by first | rfl | (simp [errW_none, errW_some] <;> rfl) | (simp [*, errW_none, errW_some] <;> rfl), by repeat (first | (with_reducible first | exact HB.out | apply below_alloc | apply pw_below_drewN | apply below_drew1) | exact HB.out)⟩
 ·rw [if_neg c3] at H
  have c3b0 : decide (120 < (l0.length : Int)) = false := decide_eq_false c3
  have c3b1 : decide (120 < l0.length) = false := decide_eq_false (by omega)
  clear c3
  replace H := Option.bind_eq_some_iff.mp H
  obtain ⟨⟨t329, t332⟩, A50, H⟩ := H
  replace H : ((tree_Order.f t329 t332).bind fun t334 => (heronrylaw09_TreeOrder.l0 k t328 t334 0 t329 t332)) = some r := H
  have A5 := Aside0.mk A50
  clear A50
  replace H := Option.bind_eq_some_iff.mp H
  obtain ⟨t334, A60, H⟩ := H
  replace H : (heronrylaw09_TreeOrder.l0 k t328 t334 0 t329 t332) = some r := H
  have A6 := Aside0.mk A60
  clear A60
  have H' := Aside0.mk H
  clear H
  go_enter Try.func6, Try.ntmps6
  go_wp2_with (first | ((with_reducible refine gate_callee (f := 8) rfl ?_); refine goesL_ (some 10) rfl rfl Try.func8 (by kernel_rfl) rfl #[] rfl (by (try simp only [List.map_toArray, List.map_cons, List.map_nil]); first | done | rfl | (simp only [List.length_drop, List.length_take]; rfl)) ?_; (with_reducible refine (heronrylaw09_awake.calls k  t328 _ A2.out).mono ?_); rintro e w7 ⟨rfl, hb⟩; refine ⟨_, rfl, ?_⟩; have n0_ := Aside0.mk (below_step (by repeat (first | (with_reducible first | exact HB.out | apply below_alloc | apply pw_below_drewN | apply below_drew1) | exact HB.out)) hb); clear HB; have HB := n0_; clear n0_; (try clear hb); (try clear hb2); (try clear hk); (try clear hi)) | ((with_reducible refine gate_callee (f := 9) rfl ?_); refine goesL_ (some 16) rfl rfl Try.func9 (by kernel_rfl) rfl #[.slice A0 l0.length c0] rfl (by (try simp only [List.map_toArray, List.map_cons, List.map_nil]); first | done | rfl | (simp only [List.length_drop, List.length_take]; rfl)) ?_; (with_reducible refine (heronrylaw09_grown.calls k _ _ l0 t329 t332 _ ?side1 ?side2 A5.out).mono ?_); (case side1 => repeat (first | exact (Kd.C_below HR0.out HB.out) | (with_reducible refine Kd.C_alloc ?_ _) | (with_reducible refine Kd.C_drewN ?_ _) | (with_reducible refine Kd.C_drew ?_))); (case side2 => exact HC0.out); rintro e w8 ⟨v330, rfl, ho0, hb⟩; refine ⟨_, rfl, ?_⟩; have n0_ := Aside0.mk (Kd.R_lower ho0 (below_size (by repeat (first | (with_reducible first | exact HB.out | apply below_alloc | apply pw_below_drewN | apply below_drew1) | exact HB.out)))); have n1_ := Aside0.mk (below_step (by repeat (first | (with_reducible first | exact HB.out | apply below_alloc | apply pw_below_drewN | apply below_drew1) | exact HB.out)) hb); clear HB; have HO331 := n0_; have HB := n1_; clear n0_ n1_; (try clear hb); (try clear hb2); (try clear hk); (try clear hi); (try clear ho0)) | ((with_reducible refine gate_dst (N := 4) rfl ?_); refine box_event ?hg (N := 4) ?hd (cs := #[.slice none 0 0, .int .i64 0]) (t := 26) ?hr ?_; (case hd => rfl); (case hg => rfl); (case hr => first | (go_simp; done) | (go_simp; rfl)); intro gb333 hg w9 hbox hb; have n0_ := Aside0.mk (Kd.R_below (by (with_reducible repeat (first | apply Kd.R_alloc | apply Kd.R_drewN | apply Kd.R_drew)); exact HO331.out) hb); have n1_ := Aside0.mk (below_step (by repeat (first | (with_reducible first | exact HB.out | apply below_alloc | apply pw_below_drewN | apply below_drew1) | exact HB.out)) hb); have n2_ := Aside0.mk (hbox); have n3_ := Aside0.mk ((by rw [hg]; exact (below_size (by repeat (first | (with_reducible first | exact HB.out | apply below_alloc | apply pw_below_drewN | apply below_drew1) | exact HB.out))) : w.heap.size ≤ gb333)); have n4_ := Aside0.mk ((by rw [hg]; exact (below_size (by repeat (first | (with_reducible first | exact HB.out | apply below_alloc | apply pw_below_drewN | apply below_drew1) | exact HB.out))) : w.heap.size ≤ gb333)); clear HO331; clear HB; have HO331 := n0_; have HB := n1_; have BK333 := n2_; have GW333 := n3_; have GE333 := n4_; clear n0_ n1_ n2_ n3_ n4_; clear hb hbox hg; obtain ⟨Ao10, co10, eo10⟩ := Kd.R_slice HO331.out; subst eo10; have hcz11_0 : w9.cell? ⟨gb333, 0, none⟩ = some (.slice none 0 0) := (blk_cell BK333.out 0).trans rfl; have hcz11_1 : w9.cell? ⟨gb333, 1, none⟩ = some (.int .i64 0) := (blk_cell BK333.out 1).trans rfl; have hfz11_0 := blk_frozen BK333.out 0; have hfz11_1 := blk_frozen BK333.out 1) | ((with_reducible refine gate_callee (f := 19) rfl ?_); refine goesL_ (some 18) rfl rfl Try.func19 (by kernel_rfl) rfl #[.agg #[.slice Ao10 t329.length co10, .int .i64 t332]] rfl (by (try simp only [List.map_toArray, List.map_cons, List.map_nil]); first | done | rfl | (simp only [List.length_drop, List.length_take]; rfl)) ?_; (with_reducible refine (tree_Order.calls _ _ t329 t332 t334 _ ?side1 ?side2 A6.out).mono ?_); (case side1 => refine (Kd.R_reads' (e := 35) (base := w.heap.size) (ok := fun k_ => True) (n := t329.length) (c := co10) ?_).2.2; exact (by (with_reducible repeat (first | apply Kd.R_alloc | apply Kd.R_drewN | apply Kd.R_drew)); exact (Kd.R_mono (Kd.R_far (p := ⟨gb333, 1, none⟩) (Kd.R_far (p := ⟨gb333, 0, none⟩) (Kd.R_types HO331.out BK333.out (by decide)) (fun _ hk => hk.2) (.slice Ao10 t329.length co10)) (fun _ hk => hk.2) (.int .i64 t332)) (fun _ h_ => h_.1)))); (case side2 => exact (Kd.R_reads' HO331.out).2.1); rintro e w12 ⟨v335, rfl, ho0, hb⟩; refine ⟨_, rfl, ?_⟩; have n0_ := Aside0.mk (Kd.R_below (by (with_reducible repeat (first | apply Kd.R_alloc | apply Kd.R_drewN | apply Kd.R_drew)); exact (Kd.R_mono (Kd.R_far (p := ⟨gb333, 1, none⟩) (Kd.R_far (p := ⟨gb333, 0, none⟩) (Kd.R_types HO331.out BK333.out (by decide)) (fun _ hk => hk.2) (.slice Ao10 t329.length co10)) (fun _ hk => hk.2) (.int .i64 t332)) (fun _ h_ => h_.1))) hb); have n1_ := Aside0.mk (Kd.R_lower ho0 (below_size (by repeat (first | (with_reducible first | exact HB.out | apply below_alloc | apply pw_below_drewN | apply below_drew1 | refine below_set ?_ GE333.out) | exact HB.out)))); have n2_ := Aside0.mk (blk_below (g := gb333) (o := .cells #[.slice Ao10 t329.length co10, .int .i64 t332] 26 (0, 0)) (by (with_reducible repeat (first | refine blk_drewN ?_ _ | refine blk_drew ?_ | refine blk_alloc ?_ _)); refine blk_put (cs := #[.slice Ao10 t329.length co10, .int .i64 0]) ?_ 1 _ rfl; (with_reducible repeat (first | refine blk_drewN ?_ _ | refine blk_drew ?_ | refine blk_alloc ?_ _)); refine blk_put (cs := #[.slice none 0 0, .int .i64 0]) ?_ 0 _ rfl; (with_reducible repeat (first | refine blk_drewN ?_ _ | refine blk_drew ?_ | refine blk_alloc ?_ _)); exact BK333.out) hb); have n3_ := Aside0.mk (below_step (by repeat (first | (with_reducible first | exact HB.out | apply below_alloc | apply pw_below_drewN | apply below_drew1 | refine below_set ?_ GE333.out) | exact HB.out)) hb); clear HO331; clear BK333; clear HB; have HO331 := n0_; have HO336 := n1_; have BK333 := n2_; have HB := n3_; clear n0_ n1_ n2_ n3_; (try clear hb); (try clear hb2); (try clear hk); (try clear hi); (try clear ho0)))
  go_loopg [6] k (fun kq v6 w' => ∃ (x6_1 : Int), v6 = .int .i64 x6_1 ∧ Aside0 (heronrylaw09_TreeOrder.l0 kq t328 t334 x6_1 t329 t332 = some r) ∧ Aside0 (kq ≤ k) ∧ Aside0 (Kd.R (Kd.int .i64) 3 w' w.heap.size (fun _ => True) v335 t334) ∧ Aside0 (Kd.R k35 35 w' w.heap.size (fun _ => True) (.slice Ao10 t329.length co10) t329) ∧ Aside0 (w'.heap[gb333]? = some (.cells #[(.slice Ao10 t329.length co10), .int .i64 t332] 26 (0, 0))) ∧ Aside0 (Below w.heap.size w w'))
  case atStart => exact ⟨(0), (by first | rfl | (simp; done) | (simp [*]; done)), H', ⟨Nat.le_refl _⟩, ⟨by (with_reducible repeat (first | apply Kd.R_alloc | apply Kd.R_drewN | apply Kd.R_drew)); exact HO336.out⟩, ⟨by (with_reducible repeat (first | apply Kd.R_alloc | apply Kd.R_drewN | apply Kd.R_drew)); exact HO331.out⟩, ⟨by (with_reducible repeat (first | refine blk_drewN ?_ _ | refine blk_drew ?_ | refine blk_alloc ?_ _)); exact BK333.out⟩, ⟨by repeat (first | (with_reducible first | exact HB.out | apply below_alloc | apply pw_below_drewN | apply below_drew1 | refine below_set ?_ GE333.out) | exact HB.out)⟩⟩
  case round =>
   clear H'
   try clear c1
   try clear p2
   try clear c3
   try clear c3b0
   try clear c3b1
   try clear c6
   try clear c8
   try clear c9
   try clear hcz11_0
   try clear hcz11_1
   try clear hfz11_0
   try clear hfz11_1
   obtain ⟨x6_1, rfl, HA, HK1, HO_5, HO_334000, BK333, HB⟩ := hrel
   cases gk with
   | zero => exact absurd HA.out (by simp [heronrylaw09_TreeOrder.l0])
   | succ k1 =>
    have H := HA.out
    clear HA
    simp only [heronrylaw09_TreeOrder.l0] at H
    by_cases c13 : x6_1 < (t334.length : Int)
    ·rw [if_pos c13] at H
     have c13b0 : decide (x6_1 < (t334.length : Int)) = true := decide_eq_true c13
     clear c13
     have H' := Aside0.mk H
     clear H
     obtain ⟨Ao14, co14, eo14⟩ := Kd.R_slice HO_5.out
     subst eo14
     go_wp2
     go_loopg [7] k1 (fun kq v7 w' => ∃ (x7_2 : Int), v7 = .int .i64 x7_2 ∧ Aside0 (heronrylaw09_TreeOrder.l1 kq t328 t334 x6_1 x7_2 t329 t332 = some r) ∧ Aside0 (kq ≤ k1) ∧ Aside0 (Kd.R (Kd.int .i64) 3 w' w.heap.size (fun _ => True) (.slice Ao14 t334.length co14) t334) ∧ Aside0 (Kd.R k35 35 w' w.heap.size (fun _ => True) (.slice Ao10 t329.length co10) t329) ∧ Aside0 (w'.heap[gb333]? = some (.cells #[(.slice Ao10 t329.length co10), .int .i64 t332] 26 (0, 0))) ∧ Aside0 (Below w.heap.size w w'))
     case atStart => exact ⟨(0), (by first | rfl | (simp; done) | (simp [*]; done)), H', ⟨Nat.le_refl _⟩, ⟨by (with_reducible repeat (first | apply Kd.R_alloc | apply Kd.R_drewN | apply Kd.R_drew)); exact HO_5.out⟩, ⟨by (with_reducible repeat (first | apply Kd.R_alloc | apply Kd.R_drewN | apply Kd.R_drew)); exact HO_334000.out⟩, ⟨by (with_reducible repeat (first | refine blk_drewN ?_ _ | refine blk_drew ?_ | refine blk_alloc ?_ _)); exact BK333.out⟩, ⟨by repeat (first | (with_reducible first | exact HB.out | apply below_alloc | apply pw_below_drewN | apply below_drew1 | refine below_set ?_ GE333.out) | exact HB.out)⟩⟩
     case round =>
      clear H'
      try clear c1
      try clear p2
      try clear c3
      try clear c3b0
      try clear c3b1
      try clear c6
      try clear c8
      try clear c9
      try clear c13
      try clear c13b0
      try clear hcz11_0
      try clear hcz11_1
      try clear hfz11_0
      try clear hfz11_1
      try clear p2
      obtain ⟨x7_2, rfl, HA, HK2, HO_5, HO_334000, BK333, HB⟩ := hrel
      cases gk with
      | zero => exact absurd HA.out (by simp [heronrylaw09_TreeOrder.l1])
      | succ k2 =>
       have H := HA.out
       clear HA
       simp only [heronrylaw09_TreeOrder.l1] at H
       by_cases c15 : x7_2 < x6_1
       ·rw [if_pos c15] at H
        have c15b0 : decide (x7_2 < x6_1) = true := decide_eq_true c15
        clear c15
        by_cases c16 : 0 ≤ x7_2
        ·rw [if_pos c16] at H
         have c16b0 : decide (0 ≤ x7_2) = true := decide_eq_true c16
         clear c16
         by_cases c17 : x7_2 < (t334.length : Int)
         ·rw [if_pos c17] at H
          have c17b0 : decide (x7_2 < (t334.length : Int)) = true := decide_eq_true c17
          clear c17
          by_cases c18 : 0 ≤ (rd t334 x7_2)
          ·rw [if_pos c18] at H
           have c18b0 : decide (0 ≤ (rd t334 x7_2)) = true := decide_eq_true c18
           clear c18
           by_cases c19 : (rd t334 x7_2) < (t329.length : Int)
           ·rw [if_pos c19] at H
            have c19b0 : decide ((rd t334 x7_2) < (t329.length : Int)) = true := decide_eq_true c19
            clear c19
            by_cases c20 : 0 ≤ x6_1
            ·rw [if_pos c20] at H
             have c20b0 : decide (0 ≤ x6_1) = true := decide_eq_true c20
             clear c20
             by_cases c21 : x6_1 < (t334.length : Int)
             ·rw [if_pos c21] at H
              have c21b0 : decide (x6_1 < (t334.length : Int)) = true := decide_eq_true c21
              clear c21
              by_cases c22 : 0 ≤ (rd t334 x6_1)
              ·rw [if_pos c22] at H
               have c22b0 : decide (0 ≤ (rd t334 x6_1)) = true := decide_eq_true c22
               clear c22
               by_cases c23 : (rd t334 x6_1) < (t329.length : Int)
               ·rw [if_pos c23] at H
                have c23b0 : decide ((rd t334 x6_1) < (t329.length : Int)) = true := decide_eq_true c23
                clear c23
                by_cases c24 : ((rd_T35 t329 (rd t334 x7_2)).f0) = ((rd_T35 t329 (rd t334 x6_1)).f0)
                ·rw [if_pos c24] at H
                 have c24b0 : (((rd_T35 t329 (rd t334 x7_2)).f0) == ((rd_T35 t329 (rd t334 x6_1)).f0)) = true := beq_iff_eq.mpr c24
                 have c24b1 : (((rd_T35 t329 (rd t334 x7_2)).f0) != ((rd_T35 t329 (rd t334 x6_1)).f0)) = false := bne_eq_false_iff_eq.mpr c24
                 clear c24
                 by_cases c25 : ((rd_T35 t329 (rd t334 x7_2)).f3) ≥ ((rd_T35 t329 (rd t334 x6_1)).f3)
                 ·rw [if_pos c25] at H
                  have c25b0 : decide (((rd_T35 t329 (rd t334 x6_1)).f3) ≤ ((rd_T35 t329 (rd t334 x7_2)).f3)) = true := decide_eq_true c25
                  clear c25
                  obtain rfl := Option.some.inj H
                  exact absurd hT_.out (by decide)
                 ·rw [if_neg c25] at H
                  have c25b0 : decide (((rd_T35 t329 (rd t334 x6_1)).f3) ≤ ((rd_T35 t329 (rd t334 x7_2)).f3)) = false := decide_eq_false c25
                  clear c25
                  replace H := Option.bind_eq_some_iff.mp H
                  obtain ⟨t345, A260, H⟩ := H
                  replace H : (if t345 = true then (some false) else (heronrylaw09_TreeOrder.l1 k2 t328 t334 x6_1 (wrap64 (x7_2 + 1)) t329 t332)) = some r := H
                  have A26 := Aside0.mk A260
                  clear A260
                  by_cases c27 : t345 = true
                  ·subst c27
                   have H1 : (some false) = some r := by rw [if_pos rfl] at H; exact H
                   clear H
                   have H := H1
                   clear H1
                   obtain rfl := Option.some.inj H
                   exact absurd hT_.out (by decide)
                  ·replace c27 := Bool.eq_false_iff.mpr c27
                   subst c27
                   have H1 : (heronrylaw09_TreeOrder.l1 k2 t328 t334 x6_1 (wrap64 (x7_2 + 1)) t329 t332) = some r := by rw [if_neg (show ¬ (false = true) by decide)] at H; exact H
                   clear H
                   have H := H1
                   clear H1
                   have H' := Aside0.mk H
                   clear H
                   try go_wp2
                   have n0_ := Aside0.mk (Kd.R_drew HO_5.out)
                   have n1_ := Aside0.mk (Kd.R_drew HO_334000.out)
                   have n2_ := Aside0.mk (blk_drew BK333.out)
                   have n3_ := Aside0.mk (below_drew1 HB.out)
                   clear HO_5
                   clear HO_334000
                   clear BK333
                   clear HB
                   have HO_5 := n0_
                   have HO_334000 := n1_
                   have BK333 := n2_
                   have HB := n3_
                   clear n0_ n1_ n2_ n3_
                   have p337 : 0 ≤ (x7_2 : Int) := of_decide_eq_true (by first | (with_reducible assumption) | assumption)
                   have q337 : x7_2 < (t334.length : Int) := of_decide_eq_true (by first | (with_reducible assumption) | assumption)
                   obtain ⟨ad337, e337, hx337_0⟩ := Kd.at_int (Kd.R_reads' HO_5.out).2.2 x7_2 p337 q337
                   cases e337
                   replace p337 := eq_true p337
                   replace q337 := eq_true q337
                   have p338 : 0 ≤ ((rd t334 x7_2) : Int) := of_decide_eq_true (by first | (with_reducible assumption) | assumption)
                   have q338 : (rd t334 x7_2) < (t329.length : Int) := of_decide_eq_true (by first | (with_reducible assumption) | assumption)
                   obtain ⟨ad338, e338, hx338_0, hx338_1, hx338_2, hx338_3⟩ := at_T35 (Kd.R_reads' HO_334000.out).2.2 (rd t334 x7_2) p338 q338
                   cases e338
                   replace p338 := eq_true p338
                   replace q338 := eq_true q338
                   refine start_ (n := 10) (S := fun w' => w'.cell? ⟨gb333, 0, none⟩ = some (.slice (some ad338) t329.length co10) ∧ w'.cell? ⟨gb333, 1, none⟩ = some (.int .i64 t332) ∧ w'.cell? (ad337.add (x7_2).toNat) = some (.int .i64 (rd t334 x7_2)) ∧ w'.cell? (ad338.add (((rd t334 x7_2)).toNat * 4)) = some (.int .i64 ((rd_T35 t329 (rd t334 x7_2)).f0)) ∧ w'.cell? ⟨(ad338.add (((rd t334 x7_2)).toNat * 4)).block, (ad338.add (((rd t334 x7_2)).toNat * 4)).off + 1, none⟩ = some (.int .i64 ((rd_T35 t329 (rd t334 x7_2)).f1)) ∧ w'.cell? ⟨(ad338.add (((rd t334 x7_2)).toNat * 4)).block, (ad338.add (((rd t334 x7_2)).toNat * 4)).off + 2, none⟩ = some (.int .i64 ((rd_T35 t329 (rd t334 x7_2)).f2)) ∧ w'.cell? ⟨(ad338.add (((rd t334 x7_2)).toNat * 4)).block, (ad338.add (((rd t334 x7_2)).toNat * 4)).off + 3, none⟩ = some (.int .i64 ((rd_T35 t329 (rd t334 x7_2)).f3))) (ds := []) #[false, false, false, false, false, false, false, false, false, false] (by kernel_rfl) rfl rfl ⟨(blk_cell BK333.out 0).trans rfl, (blk_cell BK333.out 1).trans rfl, hx337_0, hx338_0, hx338_1, hx338_2, hx338_3⟩ (fun hHeld => ?_); refine with_tabW heronrylaw09_TreeOrder.tab12 heronrylaw09_TreeOrder.bits12 (fun HT_ HW_ => ?_)
                   generalize wr.drew = w28 at HO_5 HO_334000 BK333 HB hx337_0 hx338_0 hx338_1 hx338_2 hx338_3 hHeld ⊢
                   refine pure_ (i := 0) (N := some 30) (v := ?_) (a' := ?_) #[true, false, false, false, false, false, false, false, false, false] rfl rfl (any_of HT_.out (by kernel_rfl)) (fun _ _ _ h => h) (Or.inl ⟨by rfl, ?_⟩) ?_ ?_
                   rotate_left
                   ·intro w'
                    go_simp
                    with_reducible rfl
                   rotate_left
                   ·simp only [Act.put, List.setIfInBounds_toArray, List.set_cons_zero, List.set_cons_succ, i64_w, i32_w]
                    rfl
                   refine pure_ (i := 2) (N := some 32) (v := ?_) (a' := ?_) #[true, false, true, false, false, false, false, false, false, false] rfl rfl (any_of HT_.out (by kernel_rfl)) (fun _ _ _ h => h) (Or.inl ⟨by rfl, ?_⟩) ?_ ?_
                   rotate_left
                   ·intro w'
                    go_simp
                    with_reducible rfl
                   rotate_left
                   ·simp only [Act.put, List.setIfInBounds_toArray, List.set_cons_zero, List.set_cons_succ, i64_w, i32_w]
                    rfl
                   refine pure_ (i := 3) (N := some 33) (v := ?_) (a' := ?_) #[true, false, true, true, false, false, false, false, false, false] rfl rfl (any_of HT_.out (by kernel_rfl)) (fun _ _ _ h => h) (Or.inl ⟨by rfl, ?_⟩) ?_ ?_
                   rotate_left
                   ·intro w'
                    go_simp
                    with_reducible rfl
                   rotate_left
                   ·simp only [Act.put, List.setIfInBounds_toArray, List.set_cons_zero, List.set_cons_succ, i64_w, i32_w]
                    rfl
                   refine pure_ (i := 4) (N := some 34) (v := ?_) (a' := ?_) #[true, false, true, true, true, false, false, false, false, false] rfl rfl (any_of HT_.out (by kernel_rfl)) (fun _ _ _ h => h) (Or.inl ⟨by rfl, ?_⟩) ?_ ?_
                   rotate_left
                   ·intro w'
                    go_simp
                    with_reducible rfl
                   rotate_left
                   ·simp only [Act.put, List.setIfInBounds_toArray, List.set_cons_zero, List.set_cons_succ, i64_w, i32_w]
                    rfl
                   refine take_ (i := 1) (N := some 31) (v := ?_) (a' := ?_) #[true, true, true, true, true, false, false, false, false, false] rfl rfl (take_ofW HT_.out HW_.out (by kernel_rfl)) (fun _ _ _ h => h) (Or.inl ⟨by rfl, ?_⟩) hHeld ?_ ?_
                   rotate_left
                   ·rintro w' ⟨s0, s1, s2, s3, s4, s5, s6⟩
                    go_simp
                    with_reducible rfl
                   rotate_left
                   ·simp only [Act.put, List.setIfInBounds_toArray, List.set_cons_zero, List.set_cons_succ, i64_w, i32_w]
                    rfl
                   refine take_ (i := 5) (N := some 35) (v := ?_) (a' := ?_) #[true, true, true, true, true, true, false, false, false, false] rfl rfl (take_ofW HT_.out HW_.out (by kernel_rfl)) (fun _ _ _ h => h) (Or.inl ⟨by rfl, ?_⟩) hHeld ?_ ?_
                   rotate_left
                   ·rintro w' ⟨s0, s1, s2, s3, s4, s5, s6⟩
                    go_simp
                    with_reducible rfl
                   rotate_left
                   ·simp only [Act.put, List.setIfInBounds_toArray, List.set_cons_zero, List.set_cons_succ, i64_w, i32_w]
                    rfl
                   refine pure_ (i := 6) (N := some 36) (v := ?_) (a' := ?_) #[true, true, true, true, true, true, true, false, false, false] rfl rfl (any_of HT_.out (by kernel_rfl)) (fun _ _ _ h => h) (Or.inl ⟨by rfl, ?_⟩) ?_ ?_
                   rotate_left
                   ·intro w'
                    go_simp
                    with_reducible rfl
                   rotate_left
                   ·simp only [Act.put, List.setIfInBounds_toArray, List.set_cons_zero, List.set_cons_succ, i64_w, i32_w]
                    rfl
                   refine take_ (i := 7) (N := some 37) (v := ?_) (a' := ?_) #[true, true, true, true, true, true, true, true, false, false] rfl rfl (take_ofW HT_.out HW_.out (by kernel_rfl)) (fun _ _ _ h => h) (Or.inl ⟨by rfl, ?_⟩) hHeld ?_ ?_
                   rotate_left
                   ·rintro w' ⟨s0, s1, s2, s3, s4, s5, s6⟩
                    go_simp
                    with_reducible rfl
                   rotate_left
                   ·simp only [Act.put, List.setIfInBounds_toArray, List.set_cons_zero, List.set_cons_succ, i64_w, i32_w]
                    rfl
                   refine one_ (i := 8) (N := some 8) #[true, true, true, true, true, true, true, true, true, false] rfl rfl (one_of HT_.out (by kernel_rfl)) (by decide) (fun K hK => ?_)
                   refine box_step ?hg (N := 8) ?hd (cs := #[.int .i64 0, .int .i64 0, .int .i64 0, .int .i64 0]) (t := 35) ?hr ?_; (case hd => rfl); (case hg => rfl); (case hr => first | (go_simp; done) | (go_simp; rfl))
                   intro gb339 hg w29 hbox hb
                   have HS2_ := (hb.cell (World.block_lt_of_cell? _ _ (hHeld.2.2.1))).trans (hHeld.2.2.1)
                   have HS3_ := (hb.cell (World.block_lt_of_cell? _ _ (hHeld.2.2.2.1))).trans (hHeld.2.2.2.1)
                   have HS4_ := (hb.cell (World.block_lt_of_cell? _ _ (hHeld.2.2.2.2.1))).trans (hHeld.2.2.2.2.1)
                   have HS5_ := (hb.cell (World.block_lt_of_cell? _ _ (hHeld.2.2.2.2.2.1))).trans (hHeld.2.2.2.2.2.1)
                   have HS6_ := (hb.cell (World.block_lt_of_cell? _ _ (hHeld.2.2.2.2.2.2))).trans (hHeld.2.2.2.2.2.2)
                   have n0_ := Aside0.mk (Kd.R_below (by (with_reducible repeat (first | apply Kd.R_alloc | apply Kd.R_drewN | apply Kd.R_drew)); exact HO_5.out) hb)
                   have n1_ := Aside0.mk (Kd.R_below (Kd.R_elderB (by (with_reducible repeat (first | apply Kd.R_alloc | apply Kd.R_drewN | apply Kd.R_drew)); exact HO_334000.out) gb339 (Nat.le_of_eq hg.symm)) hb)
                   have n2_ := Aside0.mk (blk_below (g := gb333) (o := .cells #[.slice (some ad338) t329.length co10, .int .i64 t332] 26 (0, 0)) (by (with_reducible repeat (first | refine blk_drewN ?_ _ | refine blk_drew ?_ | refine blk_alloc ?_ _)); exact BK333.out) hb)
                   have n3_ := Aside0.mk (below_step (by repeat (first | (with_reducible first | exact HB.out | apply below_alloc | apply pw_below_drewN | apply below_drew1 | refine below_set ?_ GE333.out) | exact HB.out)) hb)
                   have n4_ := Aside0.mk (hbox)
                   have n5_ := Aside0.mk ((by rw [hg]; exact (below_size (by repeat (first | (with_reducible first | exact HB.out | apply below_alloc | apply pw_below_drewN | apply below_drew1 | refine below_set ?_ GE333.out) | exact HB.out))) : w.heap.size ≤ gb339))
                   have n6_ := Aside0.mk ((by rw [hg]; exact (below_size (by repeat (first | (with_reducible first | exact HB.out | apply below_alloc | apply pw_below_drewN | apply below_drew1 | refine below_set ?_ GE333.out) | exact HB.out))) : w.heap.size ≤ gb339))
                   have n7_ := Aside0.mk ((by rw [hg]; exact Nat.ne_of_lt (blk_lt (g := gb333) (o := .cells #[.slice (some ad338) t329.length co10, .int .i64 t332] 26 (0, 0)) (by (with_reducible repeat (first | refine blk_drewN ?_ _ | refine blk_drew ?_ | refine blk_alloc ?_ _)); exact BK333.out)) : gb333 ≠ gb339))
                   have n8_ := Aside0.mk ((by rw [hg]; exact Nat.ne_of_gt (blk_lt (g := gb333) (o := .cells #[.slice (some ad338) t329.length co10, .int .i64 t332] 26 (0, 0)) (by (with_reducible repeat (first | refine blk_drewN ?_ _ | refine blk_drew ?_ | refine blk_alloc ?_ _)); exact BK333.out)) : gb339 ≠ gb333))
                   clear HO_5
                   clear HO_334000
                   clear BK333
                   clear HB
                   have HO_5 := n0_
                   have HO_334000 := n1_
                   have BK333 := n2_
                   have HB := n3_
                   have BK339 := n4_
                   have GW339 := n5_
                   have GE339 := n6_
                   have NB333_339 := n7_
                   have NB339_333 := n8_
                   clear n0_ n1_ n2_ n3_ n4_ n5_ n6_ n7_ n8_
                   clear hb hbox hg
                   refine hK.out _ _ ⟨(blk_cell BK333.out 0).trans rfl, (blk_cell BK333.out 1).trans rfl, HS2_, HS3_, HS4_, HS5_, HS6_⟩ (fun hHeld => ?_)
                   clear hK K
                   refine norm_ (a' := ?_) ?_ ?_
                   rotate_left
                   ·show Act.put _ (some 8) _ = _
                    simp only [Act.put, List.setIfInBounds_toArray, List.set_cons_zero, List.set_cons_succ, i64_w, i32_w]
                    rfl
                   refine one_ (i := 9) (N := none) #[true, true, true, true, true, true, true, true, true, true] rfl rfl (one_of HT_.out (by kernel_rfl)) (by decide) (fun K hK => ?_)
                   have hs30 : w29.cell? ⟨gb339, 0, none⟩ = some (.int .i64 0) := (blk_cell BK339.out 0).trans rfl
                   have hfs30 := blk_frozen BK339.out 0
                   have hns30_0 := NB333_339.out
                   have hms30_0 := NB339_333.out
                   have hs31 : w29.cell? ⟨gb339, 1, none⟩ = some (.int .i64 0) := (blk_cell BK339.out 1).trans rfl
                   have hfs31 := blk_frozen BK339.out 1
                   have hns31_0 := NB333_339.out
                   have hms31_0 := NB339_333.out
                   have hs32 : w29.cell? ⟨gb339, 2, none⟩ = some (.int .i64 0) := (blk_cell BK339.out 2).trans rfl
                   have hfs32 := blk_frozen BK339.out 2
                   have hns32_0 := NB333_339.out
                   have hms32_0 := NB339_333.out
                   have hs33 : w29.cell? ⟨gb339, 3, none⟩ = some (.int .i64 0) := (blk_cell BK339.out 3).trans rfl
                   have hfs33 := blk_frozen BK339.out 3
                   have hns33_0 := NB333_339.out
                   have hms33_0 := NB339_333.out
                   refine skip_ (w1 := ?_) (by rfl) rfl ?_ ?_
                   rotate_left
                   ·go_simp
                    rfl
                   refine hK.out _ _ ⟨((cell_far (p := ⟨gb339, _, none⟩) NB333_339.out _).trans (((cell_far (p := ⟨gb339, _, none⟩) NB333_339.out _).trans (((cell_far (p := ⟨gb339, _, none⟩) NB333_339.out _).trans (((cell_far (p := ⟨gb339, _, none⟩) NB333_339.out _).trans (hHeld.1)))))))), ((cell_far (p := ⟨gb339, _, none⟩) NB333_339.out _).trans (((cell_far (p := ⟨gb339, _, none⟩) NB333_339.out _).trans (((cell_far (p := ⟨gb339, _, none⟩) NB333_339.out _).trans (((cell_far (p := ⟨gb339, _, none⟩) NB333_339.out _).trans (hHeld.2.1)))))))), ((cell_far (p := ⟨gb339, _, none⟩) (by first | exact Kd.own_blk (Kd.R_ne HO_5.out BK339.out (by decide)) | (rw [add_block]; exact Kd.own_blk (Kd.R_ne HO_5.out BK339.out (by decide))) | (show (Addr.add _ _).block ≠ _; rw [add_block]; exact Kd.own_blk (Kd.R_ne HO_5.out BK339.out (by decide))) | (dsimp only; exact Kd.own_blk (Kd.R_ne HO_5.out BK339.out (by decide)))) _).trans (((cell_far (p := ⟨gb339, _, none⟩) (by first | exact Kd.own_blk (Kd.R_ne HO_5.out BK339.out (by decide)) | (rw [add_block]; exact Kd.own_blk (Kd.R_ne HO_5.out BK339.out (by decide))) | (show (Addr.add _ _).block ≠ _; rw [add_block]; exact Kd.own_blk (Kd.R_ne HO_5.out BK339.out (by decide))) | (dsimp only; exact Kd.own_blk (Kd.R_ne HO_5.out BK339.out (by decide)))) _).trans (((cell_far (p := ⟨gb339, _, none⟩) (by first | exact Kd.own_blk (Kd.R_ne HO_5.out BK339.out (by decide)) | (rw [add_block]; exact Kd.own_blk (Kd.R_ne HO_5.out BK339.out (by decide))) | (show (Addr.add _ _).block ≠ _; rw [add_block]; exact Kd.own_blk (Kd.R_ne HO_5.out BK339.out (by decide))) | (dsimp only; exact Kd.own_blk (Kd.R_ne HO_5.out BK339.out (by decide)))) _).trans (((cell_far (p := ⟨gb339, _, none⟩) (by first | exact Kd.own_blk (Kd.R_ne HO_5.out BK339.out (by decide)) | (rw [add_block]; exact Kd.own_blk (Kd.R_ne HO_5.out BK339.out (by decide))) | (show (Addr.add _ _).block ≠ _; rw [add_block]; exact Kd.own_blk (Kd.R_ne HO_5.out BK339.out (by decide))) | (dsimp only; exact Kd.own_blk (Kd.R_ne HO_5.out BK339.out (by decide)))) _).trans (hHeld.2.2.1)))))))), ((cell_far (p := ⟨gb339, _, none⟩) (by first | exact Kd.own_blk (Kd.R_away HO_334000.out (fun _ hk => hk.2)) | (rw [add_block]; exact Kd.own_blk (Kd.R_away HO_334000.out (fun _ hk => hk.2))) | (show (Addr.add _ _).block ≠ _; rw [add_block]; exact Kd.own_blk (Kd.R_away HO_334000.out (fun _ hk => hk.2))) | (dsimp only; exact Kd.own_blk (Kd.R_away HO_334000.out (fun _ hk => hk.2)))) _).trans (((cell_far (p := ⟨gb339, _, none⟩) (by first | exact Kd.own_blk (Kd.R_away HO_334000.out (fun _ hk => hk.2)) | (rw [add_block]; exact Kd.own_blk (Kd.R_away HO_334000.out (fun _ hk => hk.2))) | (show (Addr.add _ _).block ≠ _; rw [add_block]; exact Kd.own_blk (Kd.R_away HO_334000.out (fun _ hk => hk.2))) | (dsimp only; exact Kd.own_blk (Kd.R_away HO_334000.out (fun _ hk => hk.2)))) _).trans (((cell_far (p := ⟨gb339, _, none⟩) (by first | exact Kd.own_blk (Kd.R_away HO_334000.out (fun _ hk => hk.2)) | (rw [add_block]; exact Kd.own_blk (Kd.R_away HO_334000.out (fun _ hk => hk.2))) | (show (Addr.add _ _).block ≠ _; rw [add_block]; exact Kd.own_blk (Kd.R_away HO_334000.out (fun _ hk => hk.2))) | (dsimp only; exact Kd.own_blk (Kd.R_away HO_334000.out (fun _ hk => hk.2)))) _).trans (((cell_far (p := ⟨gb339, _, none⟩) (by first | exact Kd.own_blk (Kd.R_away HO_334000.out (fun _ hk => hk.2)) | (rw [add_block]; exact Kd.own_blk (Kd.R_away HO_334000.out (fun _ hk => hk.2))) | (show (Addr.add _ _).block ≠ _; rw [add_block]; exact Kd.own_blk (Kd.R_away HO_334000.out (fun _ hk => hk.2))) | (dsimp only; exact Kd.own_blk (Kd.R_away HO_334000.out (fun _ hk => hk.2)))) _).trans (hHeld.2.2.2.1)))))))), ((cell_far (p := ⟨gb339, _, none⟩) (by first | exact Kd.own_blk (Kd.R_away HO_334000.out (fun _ hk => hk.2)) | (rw [add_block]; exact Kd.own_blk (Kd.R_away HO_334000.out (fun _ hk => hk.2))) | (show (Addr.add _ _).block ≠ _; rw [add_block]; exact Kd.own_blk (Kd.R_away HO_334000.out (fun _ hk => hk.2))) | (dsimp only; exact Kd.own_blk (Kd.R_away HO_334000.out (fun _ hk => hk.2)))) _).trans (((cell_far (p := ⟨gb339, _, none⟩) (by first | exact Kd.own_blk (Kd.R_away HO_334000.out (fun _ hk => hk.2)) | (rw [add_block]; exact Kd.own_blk (Kd.R_away HO_334000.out (fun _ hk => hk.2))) | (show (Addr.add _ _).block ≠ _; rw [add_block]; exact Kd.own_blk (Kd.R_away HO_334000.out (fun _ hk => hk.2))) | (dsimp only; exact Kd.own_blk (Kd.R_away HO_334000.out (fun _ hk => hk.2)))) _).trans (((cell_far (p := ⟨gb339, _, none⟩) (by first | exact Kd.own_blk (Kd.R_away HO_334000.out (fun _ hk => hk.2)) | (rw [add_block]; exact Kd.own_blk (Kd.R_away HO_334000.out (fun _ hk => hk.2))) | (show (Addr.add _ _).block ≠ _; rw [add_block]; exact Kd.own_blk (Kd.R_away HO_334000.out (fun _ hk => hk.2))) | (dsimp only; exact Kd.own_blk (Kd.R_away HO_334000.out (fun _ hk => hk.2)))) _).trans (((cell_far (p := ⟨gb339, _, none⟩) (by first | exact Kd.own_blk (Kd.R_away HO_334000.out (fun _ hk => hk.2)) | (rw [add_block]; exact Kd.own_blk (Kd.R_away HO_334000.out (fun _ hk => hk.2))) | (show (Addr.add _ _).block ≠ _; rw [add_block]; exact Kd.own_blk (Kd.R_away HO_334000.out (fun _ hk => hk.2))) | (dsimp only; exact Kd.own_blk (Kd.R_away HO_334000.out (fun _ hk => hk.2)))) _).trans (hHeld.2.2.2.2.1)))))))), ((cell_far (p := ⟨gb339, _, none⟩) (by first | exact Kd.own_blk (Kd.R_away HO_334000.out (fun _ hk => hk.2)) | (rw [add_block]; exact Kd.own_blk (Kd.R_away HO_334000.out (fun _ hk => hk.2))) | (show (Addr.add _ _).block ≠ _; rw [add_block]; exact Kd.own_blk (Kd.R_away HO_334000.out (fun _ hk => hk.2))) | (dsimp only; exact Kd.own_blk (Kd.R_away HO_334000.out (fun _ hk => hk.2)))) _).trans (((cell_far (p := ⟨gb339, _, none⟩) (by first | exact Kd.own_blk (Kd.R_away HO_334000.out (fun _ hk => hk.2)) | (rw [add_block]; exact Kd.own_blk (Kd.R_away HO_334000.out (fun _ hk => hk.2))) | (show (Addr.add _ _).block ≠ _; rw [add_block]; exact Kd.own_blk (Kd.R_away HO_334000.out (fun _ hk => hk.2))) | (dsimp only; exact Kd.own_blk (Kd.R_away HO_334000.out (fun _ hk => hk.2)))) _).trans (((cell_far (p := ⟨gb339, _, none⟩) (by first | exact Kd.own_blk (Kd.R_away HO_334000.out (fun _ hk => hk.2)) | (rw [add_block]; exact Kd.own_blk (Kd.R_away HO_334000.out (fun _ hk => hk.2))) | (show (Addr.add _ _).block ≠ _; rw [add_block]; exact Kd.own_blk (Kd.R_away HO_334000.out (fun _ hk => hk.2))) | (dsimp only; exact Kd.own_blk (Kd.R_away HO_334000.out (fun _ hk => hk.2)))) _).trans (((cell_far (p := ⟨gb339, _, none⟩) (by first | exact Kd.own_blk (Kd.R_away HO_334000.out (fun _ hk => hk.2)) | (rw [add_block]; exact Kd.own_blk (Kd.R_away HO_334000.out (fun _ hk => hk.2))) | (show (Addr.add _ _).block ≠ _; rw [add_block]; exact Kd.own_blk (Kd.R_away HO_334000.out (fun _ hk => hk.2))) | (dsimp only; exact Kd.own_blk (Kd.R_away HO_334000.out (fun _ hk => hk.2)))) _).trans (hHeld.2.2.2.2.2.1)))))))), ((cell_far (p := ⟨gb339, _, none⟩) (by first | exact Kd.own_blk (Kd.R_away HO_334000.out (fun _ hk => hk.2)) | (rw [add_block]; exact Kd.own_blk (Kd.R_away HO_334000.out (fun _ hk => hk.2))) | (show (Addr.add _ _).block ≠ _; rw [add_block]; exact Kd.own_blk (Kd.R_away HO_334000.out (fun _ hk => hk.2))) | (dsimp only; exact Kd.own_blk (Kd.R_away HO_334000.out (fun _ hk => hk.2)))) _).trans (((cell_far (p := ⟨gb339, _, none⟩) (by first | exact Kd.own_blk (Kd.R_away HO_334000.out (fun _ hk => hk.2)) | (rw [add_block]; exact Kd.own_blk (Kd.R_away HO_334000.out (fun _ hk => hk.2))) | (show (Addr.add _ _).block ≠ _; rw [add_block]; exact Kd.own_blk (Kd.R_away HO_334000.out (fun _ hk => hk.2))) | (dsimp only; exact Kd.own_blk (Kd.R_away HO_334000.out (fun _ hk => hk.2)))) _).trans (((cell_far (p := ⟨gb339, _, none⟩) (by first | exact Kd.own_blk (Kd.R_away HO_334000.out (fun _ hk => hk.2)) | (rw [add_block]; exact Kd.own_blk (Kd.R_away HO_334000.out (fun _ hk => hk.2))) | (show (Addr.add _ _).block ≠ _; rw [add_block]; exact Kd.own_blk (Kd.R_away HO_334000.out (fun _ hk => hk.2))) | (dsimp only; exact Kd.own_blk (Kd.R_away HO_334000.out (fun _ hk => hk.2)))) _).trans (((cell_far (p := ⟨gb339, _, none⟩) (by first | exact Kd.own_blk (Kd.R_away HO_334000.out (fun _ hk => hk.2)) | (rw [add_block]; exact Kd.own_blk (Kd.R_away HO_334000.out (fun _ hk => hk.2))) | (show (Addr.add _ _).block ≠ _; rw [add_block]; exact Kd.own_blk (Kd.R_away HO_334000.out (fun _ hk => hk.2))) | (dsimp only; exact Kd.own_blk (Kd.R_away HO_334000.out (fun _ hk => hk.2)))) _).trans (hHeld.2.2.2.2.2.2))))))))⟩ (fun hHeld => ?_)
                   clear hK K
                   refine done_ (done_of HT_.out (by kernel_rfl)) ?_
                   try go_wp2
                   have n0_ : Aside0 (Kd.R (Kd.int .i64) 3 ((((w29.setCell ⟨gb339, 0, none⟩ (.int .i64 ((rd_T35 t329 (rd t334 x7_2)).f0))).setCell ⟨gb339, 1, none⟩ (.int .i64 ((rd_T35 t329 (rd t334 x7_2)).f1))).setCell ⟨gb339, 2, none⟩ (.int .i64 ((rd_T35 t329 (rd t334 x7_2)).f2))).setCell ⟨gb339, 3, none⟩ (.int .i64 ((rd_T35 t329 (rd t334 x7_2)).f3))) w.heap.size (fun _ => True) (.slice (some ad337) t334.length co14) t334) := ⟨by (with_reducible repeat (first | apply Kd.R_alloc | apply Kd.R_drewN | apply Kd.R_drew)); exact Kd.R_mono (Kd.R_far (p := ⟨gb339, 3, none⟩) (Kd.R_far (p := ⟨gb339, 2, none⟩) (Kd.R_far (p := ⟨gb339, 1, none⟩) (Kd.R_far (p := ⟨gb339, 0, none⟩) (Kd.R_types HO_5.out BK339.out (by decide)) (fun _ hk => hk.2) (.int .i64 ((rd_T35 t329 (rd t334 x7_2)).f0))) (fun _ hk => hk.2) (.int .i64 ((rd_T35 t329 (rd t334 x7_2)).f1))) (fun _ hk => hk.2) (.int .i64 ((rd_T35 t329 (rd t334 x7_2)).f2))) (fun _ hk => hk.2) (.int .i64 ((rd_T35 t329 (rd t334 x7_2)).f3))) (fun _ hk => trivial)⟩
                   have n1_ : Aside0 (Kd.R k35 35 ((((w29.setCell ⟨gb339, 0, none⟩ (.int .i64 ((rd_T35 t329 (rd t334 x7_2)).f0))).setCell ⟨gb339, 1, none⟩ (.int .i64 ((rd_T35 t329 (rd t334 x7_2)).f1))).setCell ⟨gb339, 2, none⟩ (.int .i64 ((rd_T35 t329 (rd t334 x7_2)).f2))).setCell ⟨gb339, 3, none⟩ (.int .i64 ((rd_T35 t329 (rd t334 x7_2)).f3))) w.heap.size (fun k_ => k_ ≠ gb339) (.slice (some ad338) t329.length co10) t329) := ⟨by (with_reducible repeat (first | apply Kd.R_alloc | apply Kd.R_drewN | apply Kd.R_drew)); exact Kd.R_mono (Kd.R_far (p := ⟨gb339, 3, none⟩) (Kd.R_far (p := ⟨gb339, 2, none⟩) (Kd.R_far (p := ⟨gb339, 1, none⟩) (Kd.R_far (p := ⟨gb339, 0, none⟩) (Kd.R_mono HO_334000.out (fun k_ hk => (⟨hk, hk.2⟩ : _ ∧ k_ ≠ gb339))) (fun _ hk => hk.2) (.int .i64 ((rd_T35 t329 (rd t334 x7_2)).f0))) (fun _ hk => hk.2) (.int .i64 ((rd_T35 t329 (rd t334 x7_2)).f1))) (fun _ hk => hk.2) (.int .i64 ((rd_T35 t329 (rd t334 x7_2)).f2))) (fun _ hk => hk.2) (.int .i64 ((rd_T35 t329 (rd t334 x7_2)).f3))) (fun _ hk => hk.1.2)⟩
                   have n2_ : Aside0 (((((w29.setCell ⟨gb339, 0, none⟩ (.int .i64 ((rd_T35 t329 (rd t334 x7_2)).f0))).setCell ⟨gb339, 1, none⟩ (.int .i64 ((rd_T35 t329 (rd t334 x7_2)).f1))).setCell ⟨gb339, 2, none⟩ (.int .i64 ((rd_T35 t329 (rd t334 x7_2)).f2))).setCell ⟨gb339, 3, none⟩ (.int .i64 ((rd_T35 t329 (rd t334 x7_2)).f3))).heap[gb333]? = some (.cells #[.slice (some ad338) t329.length co10, .int .i64 t332] 26 (0, 0))) := ⟨by (with_reducible repeat (first | refine blk_drewN ?_ _ | refine blk_drew ?_ | refine blk_alloc ?_ _)); refine blk_far ?_ NB333_339.out _; (with_reducible repeat (first | refine blk_drewN ?_ _ | refine blk_drew ?_ | refine blk_alloc ?_ _)); refine blk_far ?_ NB333_339.out _; (with_reducible repeat (first | refine blk_drewN ?_ _ | refine blk_drew ?_ | refine blk_alloc ?_ _)); refine blk_far ?_ NB333_339.out _; (with_reducible repeat (first | refine blk_drewN ?_ _ | refine blk_drew ?_ | refine blk_alloc ?_ _)); refine blk_far ?_ NB333_339.out _; (with_reducible repeat (first | refine blk_drewN ?_ _ | refine blk_drew ?_ | refine blk_alloc ?_ _)); exact BK333.out⟩
                   have n3_ : Aside0 (((((w29.setCell ⟨gb339, 0, none⟩ (.int .i64 ((rd_T35 t329 (rd t334 x7_2)).f0))).setCell ⟨gb339, 1, none⟩ (.int .i64 ((rd_T35 t329 (rd t334 x7_2)).f1))).setCell ⟨gb339, 2, none⟩ (.int .i64 ((rd_T35 t329 (rd t334 x7_2)).f2))).setCell ⟨gb339, 3, none⟩ (.int .i64 ((rd_T35 t329 (rd t334 x7_2)).f3))).heap[gb339]? = some (.cells #[.int .i64 ((rd_T35 t329 (rd t334 x7_2)).f0), .int .i64 ((rd_T35 t329 (rd t334 x7_2)).f1), .int .i64 ((rd_T35 t329 (rd t334 x7_2)).f2), .int .i64 ((rd_T35 t329 (rd t334 x7_2)).f3)] 35 (0, 0))) := ⟨by (with_reducible repeat (first | refine blk_drewN ?_ _ | refine blk_drew ?_ | refine blk_alloc ?_ _)); refine blk_put (cs := #[.int .i64 ((rd_T35 t329 (rd t334 x7_2)).f0), .int .i64 ((rd_T35 t329 (rd t334 x7_2)).f1), .int .i64 ((rd_T35 t329 (rd t334 x7_2)).f2), .int .i64 0]) ?_ 3 _ rfl; (with_reducible repeat (first | refine blk_drewN ?_ _ | refine blk_drew ?_ | refine blk_alloc ?_ _)); refine blk_put (cs := #[.int .i64 ((rd_T35 t329 (rd t334 x7_2)).f0), .int .i64 ((rd_T35 t329 (rd t334 x7_2)).f1), .int .i64 0, .int .i64 0]) ?_ 2 _ rfl; (with_reducible repeat (first | refine blk_drewN ?_ _ | refine blk_drew ?_ | refine blk_alloc ?_ _)); refine blk_put (cs := #[.int .i64 ((rd_T35 t329 (rd t334 x7_2)).f0), .int .i64 0, .int .i64 0, .int .i64 0]) ?_ 1 _ rfl; (with_reducible repeat (first | refine blk_drewN ?_ _ | refine blk_drew ?_ | refine blk_alloc ?_ _)); refine blk_put (cs := #[.int .i64 0, .int .i64 0, .int .i64 0, .int .i64 0]) ?_ 0 _ rfl; (with_reducible repeat (first | refine blk_drewN ?_ _ | refine blk_drew ?_ | refine blk_alloc ?_ _)); exact BK339.out⟩
                   have n4_ : Aside0 (Below w.heap.size w ((((w29.setCell ⟨gb339, 0, none⟩ (.int .i64 ((rd_T35 t329 (rd t334 x7_2)).f0))).setCell ⟨gb339, 1, none⟩ (.int .i64 ((rd_T35 t329 (rd t334 x7_2)).f1))).setCell ⟨gb339, 2, none⟩ (.int .i64 ((rd_T35 t329 (rd t334 x7_2)).f2))).setCell ⟨gb339, 3, none⟩ (.int .i64 ((rd_T35 t329 (rd t334 x7_2)).f3)))) := ⟨by repeat (first | (with_reducible first | exact HB.out | apply below_alloc | apply pw_below_drewN | apply below_drew1 | refine below_set ?_ GE333.out | refine below_set ?_ GE339.out) | exact HB.out)⟩
                   (try clear HO_5)
                   (try clear HO_334000)
                   (try clear BK333)
                   (try clear BK339)
                   (try clear HB)
                   generalize ((((w29.setCell ⟨gb339, 0, none⟩ (.int .i64 ((rd_T35 t329 (rd t334 x7_2)).f0))).setCell ⟨gb339, 1, none⟩ (.int .i64 ((rd_T35 t329 (rd t334 x7_2)).f1))).setCell ⟨gb339, 2, none⟩ (.int .i64 ((rd_T35 t329 (rd t334 x7_2)).f2))).setCell ⟨gb339, 3, none⟩ (.int .i64 ((rd_T35 t329 (rd t334 x7_2)).f3))) = w34 at n0_ n1_ n2_ n3_ n4_ ⊢
                   have HO_5 := n0_
                   have HO_334000 := n1_
                   have BK333 := n2_
                   have BK339 := n3_
                   have HB := n4_
                   clear n0_ n1_ n2_ n3_ n4_
                   have n0_ := Aside0.mk (Kd.R_drew HO_5.out)
                   have n1_ := Aside0.mk (Kd.R_drew HO_334000.out)
                   have n2_ := Aside0.mk (blk_drew BK333.out)
                   have n3_ := Aside0.mk (blk_drew BK339.out)
                   have n4_ := Aside0.mk (below_drew1 HB.out)
                   clear HO_5
                   clear HO_334000
                   clear BK333
                   clear BK339
                   clear HB
                   have HO_5 := n0_
                   have HO_334000 := n1_
                   have BK333 := n2_
                   have BK339 := n3_
                   have HB := n4_
                   clear n0_ n1_ n2_ n3_ n4_
                   have p340 : 0 ≤ (x6_1 : Int) := of_decide_eq_true (by first | (with_reducible assumption) | assumption)
                   have q340 : x6_1 < (t334.length : Int) := of_decide_eq_true (by first | (with_reducible assumption) | assumption)
                   obtain ⟨ad340, e340, hx340_0⟩ := Kd.at_int (Kd.R_reads' HO_5.out).2.2 x6_1 p340 q340
                   obtain rfl : ad337 = ad340 := (by injection e340)
                   replace p340 := eq_true p340
                   replace q340 := eq_true q340
                   have p341 : 0 ≤ ((rd t334 x6_1) : Int) := of_decide_eq_true (by first | (with_reducible assumption) | assumption)
                   have q341 : (rd t334 x6_1) < (t329.length : Int) := of_decide_eq_true (by first | (with_reducible assumption) | assumption)
                   obtain ⟨ad341, e341, hx341_0, hx341_1, hx341_2, hx341_3⟩ := at_T35 (Kd.R_reads' HO_334000.out).2.2 (rd t334 x6_1) p341 q341
                   obtain rfl : ad338 = ad341 := (by injection e341)
                   replace p341 := eq_true p341
                   replace q341 := eq_true q341
                   refine start_ (n := 10) (S := fun w' => w'.cell? ⟨gb333, 0, none⟩ = some (.slice (some ad338) t329.length co10) ∧ w'.cell? ⟨gb333, 1, none⟩ = some (.int .i64 t332) ∧ w'.cell? (ad337.add (x6_1).toNat) = some (.int .i64 (rd t334 x6_1)) ∧ w'.cell? (ad338.add (((rd t334 x6_1)).toNat * 4)) = some (.int .i64 ((rd_T35 t329 (rd t334 x6_1)).f0)) ∧ w'.cell? ⟨(ad338.add (((rd t334 x6_1)).toNat * 4)).block, (ad338.add (((rd t334 x6_1)).toNat * 4)).off + 1, none⟩ = some (.int .i64 ((rd_T35 t329 (rd t334 x6_1)).f1)) ∧ w'.cell? ⟨(ad338.add (((rd t334 x6_1)).toNat * 4)).block, (ad338.add (((rd t334 x6_1)).toNat * 4)).off + 2, none⟩ = some (.int .i64 ((rd_T35 t329 (rd t334 x6_1)).f2)) ∧ w'.cell? ⟨(ad338.add (((rd t334 x6_1)).toNat * 4)).block, (ad338.add (((rd t334 x6_1)).toNat * 4)).off + 3, none⟩ = some (.int .i64 ((rd_T35 t329 (rd t334 x6_1)).f3))) (ds := []) #[false, false, false, false, false, false, false, false, false, false] (by kernel_rfl) rfl rfl ⟨(blk_cell BK333.out 0).trans rfl, (blk_cell BK333.out 1).trans rfl, hx340_0, hx341_0, hx341_1, hx341_2, hx341_3⟩ (fun hHeld => ?_); refine with_tabW heronrylaw09_TreeOrder.tab13 heronrylaw09_TreeOrder.bits13 (fun HT_ HW_ => ?_)
                   generalize w34.drew = w35 at HO_5 HO_334000 BK333 BK339 HB hx340_0 hx341_0 hx341_1 hx341_2 hx341_3 hHeld ⊢
                   refine pure_ (i := 0) (N := some 38) (v := ?_) (a' := ?_) #[true, false, false, false, false, false, false, false, false, false] rfl rfl (any_of HT_.out (by kernel_rfl)) (fun _ _ _ h => h) (Or.inl ⟨by rfl, ?_⟩) ?_ ?_
                   rotate_left
                   ·intro w'
                    go_simp
                    with_reducible rfl
                   rotate_left
                   ·simp only [Act.put, List.setIfInBounds_toArray, List.set_cons_zero, List.set_cons_succ, i64_w, i32_w]
                    rfl
                   refine pure_ (i := 2) (N := some 40) (v := ?_) (a' := ?_) #[true, false, true, false, false, false, false, false, false, false] rfl rfl (any_of HT_.out (by kernel_rfl)) (fun _ _ _ h => h) (Or.inl ⟨by rfl, ?_⟩) ?_ ?_
                   rotate_left
                   ·intro w'
                    go_simp
                    with_reducible rfl
                   rotate_left
                   ·simp only [Act.put, List.setIfInBounds_toArray, List.set_cons_zero, List.set_cons_succ, i64_w, i32_w]
                    rfl
                   refine pure_ (i := 3) (N := some 41) (v := ?_) (a' := ?_) #[true, false, true, true, false, false, false, false, false, false] rfl rfl (any_of HT_.out (by kernel_rfl)) (fun _ _ _ h => h) (Or.inl ⟨by rfl, ?_⟩) ?_ ?_
                   rotate_left
                   ·intro w'
                    go_simp
                    with_reducible rfl
                   rotate_left
                   ·simp only [Act.put, List.setIfInBounds_toArray, List.set_cons_zero, List.set_cons_succ, i64_w, i32_w]
                    rfl
                   refine pure_ (i := 4) (N := some 42) (v := ?_) (a' := ?_) #[true, false, true, true, true, false, false, false, false, false] rfl rfl (any_of HT_.out (by kernel_rfl)) (fun _ _ _ h => h) (Or.inl ⟨by rfl, ?_⟩) ?_ ?_
                   rotate_left
                   ·intro w'
                    go_simp
                    with_reducible rfl
                   rotate_left
                   ·simp only [Act.put, List.setIfInBounds_toArray, List.set_cons_zero, List.set_cons_succ, i64_w, i32_w]
                    rfl
                   refine take_ (i := 1) (N := some 39) (v := ?_) (a' := ?_) #[true, true, true, true, true, false, false, false, false, false] rfl rfl (take_ofW HT_.out HW_.out (by kernel_rfl)) (fun _ _ _ h => h) (Or.inl ⟨by rfl, ?_⟩) hHeld ?_ ?_
                   rotate_left
                   ·rintro w' ⟨s0, s1, s2, s3, s4, s5, s6⟩
                    go_simp
                    with_reducible rfl
                   rotate_left
                   ·simp only [Act.put, List.setIfInBounds_toArray, List.set_cons_zero, List.set_cons_succ, i64_w, i32_w]
                    rfl
                   refine take_ (i := 5) (N := some 43) (v := ?_) (a' := ?_) #[true, true, true, true, true, true, false, false, false, false] rfl rfl (take_ofW HT_.out HW_.out (by kernel_rfl)) (fun _ _ _ h => h) (Or.inl ⟨by rfl, ?_⟩) hHeld ?_ ?_
                   rotate_left
                   ·rintro w' ⟨s0, s1, s2, s3, s4, s5, s6⟩
                    go_simp
                    with_reducible rfl
                   rotate_left
                   ·simp only [Act.put, List.setIfInBounds_toArray, List.set_cons_zero, List.set_cons_succ, i64_w, i32_w]
                    rfl
                   refine pure_ (i := 6) (N := some 44) (v := ?_) (a' := ?_) #[true, true, true, true, true, true, true, false, false, false] rfl rfl (any_of HT_.out (by kernel_rfl)) (fun _ _ _ h => h) (Or.inl ⟨by rfl, ?_⟩) ?_ ?_
                   rotate_left
                   ·intro w'
                    go_simp
                    with_reducible rfl
                   rotate_left
                   ·simp only [Act.put, List.setIfInBounds_toArray, List.set_cons_zero, List.set_cons_succ, i64_w, i32_w]
                    rfl
                   refine take_ (i := 7) (N := some 45) (v := ?_) (a' := ?_) #[true, true, true, true, true, true, true, true, false, false] rfl rfl (take_ofW HT_.out HW_.out (by kernel_rfl)) (fun _ _ _ h => h) (Or.inl ⟨by rfl, ?_⟩) hHeld ?_ ?_
                   rotate_left
                   ·rintro w' ⟨s0, s1, s2, s3, s4, s5, s6⟩
                    go_simp
                    with_reducible rfl
                   rotate_left
                   ·simp only [Act.put, List.setIfInBounds_toArray, List.set_cons_zero, List.set_cons_succ, i64_w, i32_w]
                    rfl
                   refine one_ (i := 8) (N := some 9) #[true, true, true, true, true, true, true, true, true, false] rfl rfl (one_of HT_.out (by kernel_rfl)) (by decide) (fun K hK => ?_)
                   refine box_step ?hg (N := 9) ?hd (cs := #[.int .i64 0, .int .i64 0, .int .i64 0, .int .i64 0]) (t := 35) ?hr ?_; (case hd => rfl); (case hg => rfl); (case hr => first | (go_simp; done) | (go_simp; rfl))
                   intro gb342 hg w36 hbox hb
                   have HS2_ := (hb.cell (World.block_lt_of_cell? _ _ (hHeld.2.2.1))).trans (hHeld.2.2.1)
                   have HS3_ := (hb.cell (World.block_lt_of_cell? _ _ (hHeld.2.2.2.1))).trans (hHeld.2.2.2.1)
                   have HS4_ := (hb.cell (World.block_lt_of_cell? _ _ (hHeld.2.2.2.2.1))).trans (hHeld.2.2.2.2.1)
                   have HS5_ := (hb.cell (World.block_lt_of_cell? _ _ (hHeld.2.2.2.2.2.1))).trans (hHeld.2.2.2.2.2.1)
                   have HS6_ := (hb.cell (World.block_lt_of_cell? _ _ (hHeld.2.2.2.2.2.2))).trans (hHeld.2.2.2.2.2.2)
                   have n0_ := Aside0.mk (Kd.R_below (by (with_reducible repeat (first | apply Kd.R_alloc | apply Kd.R_drewN | apply Kd.R_drew)); exact HO_5.out) hb)
                   have n1_ := Aside0.mk (Kd.R_below (Kd.R_elderB (by (with_reducible repeat (first | apply Kd.R_alloc | apply Kd.R_drewN | apply Kd.R_drew)); exact HO_334000.out) gb342 (Nat.le_of_eq hg.symm)) hb)
                   have n2_ := Aside0.mk (blk_below (g := gb333) (o := .cells #[.slice (some ad338) t329.length co10, .int .i64 t332] 26 (0, 0)) (by (with_reducible repeat (first | refine blk_drewN ?_ _ | refine blk_drew ?_ | refine blk_alloc ?_ _)); exact BK333.out) hb)
                   have n3_ := Aside0.mk (blk_below (g := gb339) (o := .cells #[.int .i64 ((rd_T35 t329 (rd t334 x7_2)).f0), .int .i64 ((rd_T35 t329 (rd t334 x7_2)).f1), .int .i64 ((rd_T35 t329 (rd t334 x7_2)).f2), .int .i64 ((rd_T35 t329 (rd t334 x7_2)).f3)] 35 (0, 0)) (by (with_reducible repeat (first | refine blk_drewN ?_ _ | refine blk_drew ?_ | refine blk_alloc ?_ _)); exact BK339.out) hb)
                   have n4_ := Aside0.mk (below_step (by repeat (first | (with_reducible first | exact HB.out | apply below_alloc | apply pw_below_drewN | apply below_drew1 | refine below_set ?_ GE333.out | refine below_set ?_ GE339.out) | exact HB.out)) hb)
                   have n5_ := Aside0.mk (hbox)
                   have n6_ := Aside0.mk ((by rw [hg]; exact (below_size (by repeat (first | (with_reducible first | exact HB.out | apply below_alloc | apply pw_below_drewN | apply below_drew1 | refine below_set ?_ GE333.out | refine below_set ?_ GE339.out) | exact HB.out))) : w.heap.size ≤ gb342))
                   have n7_ := Aside0.mk ((by rw [hg]; exact (below_size (by repeat (first | (with_reducible first | exact HB.out | apply below_alloc | apply pw_below_drewN | apply below_drew1 | refine below_set ?_ GE333.out | refine below_set ?_ GE339.out) | exact HB.out))) : w.heap.size ≤ gb342))
                   have n8_ := Aside0.mk ((by rw [hg]; exact Nat.ne_of_lt (blk_lt (g := gb333) (o := .cells #[.slice (some ad338) t329.length co10, .int .i64 t332] 26 (0, 0)) (by (with_reducible repeat (first | refine blk_drewN ?_ _ | refine blk_drew ?_ | refine blk_alloc ?_ _)); exact BK333.out)) : gb333 ≠ gb342))
                   have n9_ := Aside0.mk ((by rw [hg]; exact Nat.ne_of_gt (blk_lt (g := gb333) (o := .cells #[.slice (some ad338) t329.length co10, .int .i64 t332] 26 (0, 0)) (by (with_reducible repeat (first | refine blk_drewN ?_ _ | refine blk_drew ?_ | refine blk_alloc ?_ _)); exact BK333.out)) : gb342 ≠ gb333))
                   have n10_ := Aside0.mk ((by rw [hg]; exact Nat.ne_of_lt (blk_lt (g := gb339) (o := .cells #[.int .i64 ((rd_T35 t329 (rd t334 x7_2)).f0), .int .i64 ((rd_T35 t329 (rd t334 x7_2)).f1), .int .i64 ((rd_T35 t329 (rd t334 x7_2)).f2), .int .i64 ((rd_T35 t329 (rd t334 x7_2)).f3)] 35 (0, 0)) (by (with_reducible repeat (first | refine blk_drewN ?_ _ | refine blk_drew ?_ | refine blk_alloc ?_ _)); exact BK339.out)) : gb339 ≠ gb342))
                   have n11_ := Aside0.mk ((by rw [hg]; exact Nat.ne_of_gt (blk_lt (g := gb339) (o := .cells #[.int .i64 ((rd_T35 t329 (rd t334 x7_2)).f0), .int .i64 ((rd_T35 t329 (rd t334 x7_2)).f1), .int .i64 ((rd_T35 t329 (rd t334 x7_2)).f2), .int .i64 ((rd_T35 t329 (rd t334 x7_2)).f3)] 35 (0, 0)) (by (with_reducible repeat (first | refine blk_drewN ?_ _ | refine blk_drew ?_ | refine blk_alloc ?_ _)); exact BK339.out)) : gb342 ≠ gb339))
                   clear HO_5
                   clear HO_334000
                   clear BK333
                   clear BK339
                   clear HB
                   have HO_5 := n0_
                   have HO_334000 := n1_
                   have BK333 := n2_
                   have BK339 := n3_
                   have HB := n4_
                   have BK342 := n5_
                   have GW342 := n6_
                   have GE342 := n7_
                   have NB333_342 := n8_
                   have NB342_333 := n9_
                   have NB339_342 := n10_
                   have NB342_339 := n11_
                   clear n0_ n1_ n2_ n3_ n4_ n5_ n6_ n7_ n8_ n9_ n10_ n11_
                   clear hb hbox hg
                   refine hK.out _ _ ⟨(blk_cell BK333.out 0).trans rfl, (blk_cell BK333.out 1).trans rfl, HS2_, HS3_, HS4_, HS5_, HS6_⟩ (fun hHeld => ?_)
                   clear hK K
                   refine norm_ (a' := ?_) ?_ ?_
                   rotate_left
                   ·show Act.put _ (some 9) _ = _
                    simp only [Act.put, List.setIfInBounds_toArray, List.set_cons_zero, List.set_cons_succ, i64_w, i32_w]
                    rfl
                   refine one_ (i := 9) (N := none) #[true, true, true, true, true, true, true, true, true, true] rfl rfl (one_of HT_.out (by kernel_rfl)) (by decide) (fun K hK => ?_)
                   have hs37 : w36.cell? ⟨gb342, 0, none⟩ = some (.int .i64 0) := (blk_cell BK342.out 0).trans rfl
                   have hfs37 := blk_frozen BK342.out 0
                   have hns37_0 := NB333_342.out
                   have hns37_1 := NB339_342.out
                   have hms37_0 := NB342_333.out
                   have hms37_1 := NB342_339.out
                   have hs38 : w36.cell? ⟨gb342, 1, none⟩ = some (.int .i64 0) := (blk_cell BK342.out 1).trans rfl
                   have hfs38 := blk_frozen BK342.out 1
                   have hns38_0 := NB333_342.out
                   have hns38_1 := NB339_342.out
                   have hms38_0 := NB342_333.out
                   have hms38_1 := NB342_339.out
                   have hs39 : w36.cell? ⟨gb342, 2, none⟩ = some (.int .i64 0) := (blk_cell BK342.out 2).trans rfl
                   have hfs39 := blk_frozen BK342.out 2
                   have hns39_0 := NB333_342.out
                   have hns39_1 := NB339_342.out
                   have hms39_0 := NB342_333.out
                   have hms39_1 := NB342_339.out
                   have hs40 : w36.cell? ⟨gb342, 3, none⟩ = some (.int .i64 0) := (blk_cell BK342.out 3).trans rfl
                   have hfs40 := blk_frozen BK342.out 3
                   have hns40_0 := NB333_342.out
                   have hns40_1 := NB339_342.out
                   have hms40_0 := NB342_333.out
                   have hms40_1 := NB342_339.out
                   refine skip_ (w1 := ?_) (by rfl) rfl ?_ ?_
                   rotate_left
                   ·go_simp
                    rfl
                   refine hK.out _ _ ⟨((cell_far (p := ⟨gb342, _, none⟩) NB333_342.out _).trans (((cell_far (p := ⟨gb342, _, none⟩) NB333_342.out _).trans (((cell_far (p := ⟨gb342, _, none⟩) NB333_342.out _).trans (((cell_far (p := ⟨gb342, _, none⟩) NB333_342.out _).trans (hHeld.1)))))))), ((cell_far (p := ⟨gb342, _, none⟩) NB333_342.out _).trans (((cell_far (p := ⟨gb342, _, none⟩) NB333_342.out _).trans (((cell_far (p := ⟨gb342, _, none⟩) NB333_342.out _).trans (((cell_far (p := ⟨gb342, _, none⟩) NB333_342.out _).trans (hHeld.2.1)))))))), ((cell_far (p := ⟨gb342, _, none⟩) (by first | exact Kd.own_blk (Kd.R_ne HO_5.out BK342.out (by decide)) | (rw [add_block]; exact Kd.own_blk (Kd.R_ne HO_5.out BK342.out (by decide))) | (show (Addr.add _ _).block ≠ _; rw [add_block]; exact Kd.own_blk (Kd.R_ne HO_5.out BK342.out (by decide))) | (dsimp only; exact Kd.own_blk (Kd.R_ne HO_5.out BK342.out (by decide)))) _).trans (((cell_far (p := ⟨gb342, _, none⟩) (by first | exact Kd.own_blk (Kd.R_ne HO_5.out BK342.out (by decide)) | (rw [add_block]; exact Kd.own_blk (Kd.R_ne HO_5.out BK342.out (by decide))) | (show (Addr.add _ _).block ≠ _; rw [add_block]; exact Kd.own_blk (Kd.R_ne HO_5.out BK342.out (by decide))) | (dsimp only; exact Kd.own_blk (Kd.R_ne HO_5.out BK342.out (by decide)))) _).trans (((cell_far (p := ⟨gb342, _, none⟩) (by first | exact Kd.own_blk (Kd.R_ne HO_5.out BK342.out (by decide)) | (rw [add_block]; exact Kd.own_blk (Kd.R_ne HO_5.out BK342.out (by decide))) | (show (Addr.add _ _).block ≠ _; rw [add_block]; exact Kd.own_blk (Kd.R_ne HO_5.out BK342.out (by decide))) | (dsimp only; exact Kd.own_blk (Kd.R_ne HO_5.out BK342.out (by decide)))) _).trans (((cell_far (p := ⟨gb342, _, none⟩) (by first | exact Kd.own_blk (Kd.R_ne HO_5.out BK342.out (by decide)) | (rw [add_block]; exact Kd.own_blk (Kd.R_ne HO_5.out BK342.out (by decide))) | (show (Addr.add _ _).block ≠ _; rw [add_block]; exact Kd.own_blk (Kd.R_ne HO_5.out BK342.out (by decide))) | (dsimp only; exact Kd.own_blk (Kd.R_ne HO_5.out BK342.out (by decide)))) _).trans (hHeld.2.2.1)))))))), ((cell_far (p := ⟨gb342, _, none⟩) (by first | exact Kd.own_blk (Kd.R_away HO_334000.out (fun _ hk => hk.2)) | (rw [add_block]; exact Kd.own_blk (Kd.R_away HO_334000.out (fun _ hk => hk.2))) | (show (Addr.add _ _).block ≠ _; rw [add_block]; exact Kd.own_blk (Kd.R_away HO_334000.out (fun _ hk => hk.2))) | (dsimp only; exact Kd.own_blk (Kd.R_away HO_334000.out (fun _ hk => hk.2)))) _).trans (((cell_far (p := ⟨gb342, _, none⟩) (by first | exact Kd.own_blk (Kd.R_away HO_334000.out (fun _ hk => hk.2)) | (rw [add_block]; exact Kd.own_blk (Kd.R_away HO_334000.out (fun _ hk => hk.2))) | (show (Addr.add _ _).block ≠ _; rw [add_block]; exact Kd.own_blk (Kd.R_away HO_334000.out (fun _ hk => hk.2))) | (dsimp only; exact Kd.own_blk (Kd.R_away HO_334000.out (fun _ hk => hk.2)))) _).trans (((cell_far (p := ⟨gb342, _, none⟩) (by first | exact Kd.own_blk (Kd.R_away HO_334000.out (fun _ hk => hk.2)) | (rw [add_block]; exact Kd.own_blk (Kd.R_away HO_334000.out (fun _ hk => hk.2))) | (show (Addr.add _ _).block ≠ _; rw [add_block]; exact Kd.own_blk (Kd.R_away HO_334000.out (fun _ hk => hk.2))) | (dsimp only; exact Kd.own_blk (Kd.R_away HO_334000.out (fun _ hk => hk.2)))) _).trans (((cell_far (p := ⟨gb342, _, none⟩) (by first | exact Kd.own_blk (Kd.R_away HO_334000.out (fun _ hk => hk.2)) | (rw [add_block]; exact Kd.own_blk (Kd.R_away HO_334000.out (fun _ hk => hk.2))) | (show (Addr.add _ _).block ≠ _; rw [add_block]; exact Kd.own_blk (Kd.R_away HO_334000.out (fun _ hk => hk.2))) | (dsimp only; exact Kd.own_blk (Kd.R_away HO_334000.out (fun _ hk => hk.2)))) _).trans (hHeld.2.2.2.1)))))))), ((cell_far (p := ⟨gb342, _, none⟩) (by first | exact Kd.own_blk (Kd.R_away HO_334000.out (fun _ hk => hk.2)) | (rw [add_block]; exact Kd.own_blk (Kd.R_away HO_334000.out (fun _ hk => hk.2))) | (show (Addr.add _ _).block ≠ _; rw [add_block]; exact Kd.own_blk (Kd.R_away HO_334000.out (fun _ hk => hk.2))) | (dsimp only; exact Kd.own_blk (Kd.R_away HO_334000.out (fun _ hk => hk.2)))) _).trans (((cell_far (p := ⟨gb342, _, none⟩) (by first | exact Kd.own_blk (Kd.R_away HO_334000.out (fun _ hk => hk.2)) | (rw [add_block]; exact Kd.own_blk (Kd.R_away HO_334000.out (fun _ hk => hk.2))) | (show (Addr.add _ _).block ≠ _; rw [add_block]; exact Kd.own_blk (Kd.R_away HO_334000.out (fun _ hk => hk.2))) | (dsimp only; exact Kd.own_blk (Kd.R_away HO_334000.out (fun _ hk => hk.2)))) _).trans (((cell_far (p := ⟨gb342, _, none⟩) (by first | exact Kd.own_blk (Kd.R_away HO_334000.out (fun _ hk => hk.2)) | (rw [add_block]; exact Kd.own_blk (Kd.R_away HO_334000.out (fun _ hk => hk.2))) | (show (Addr.add _ _).block ≠ _; rw [add_block]; exact Kd.own_blk (Kd.R_away HO_334000.out (fun _ hk => hk.2))) | (dsimp only; exact Kd.own_blk (Kd.R_away HO_334000.out (fun _ hk => hk.2)))) _).trans (((cell_far (p := ⟨gb342, _, none⟩) (by first | exact Kd.own_blk (Kd.R_away HO_334000.out (fun _ hk => hk.2)) | (rw [add_block]; exact Kd.own_blk (Kd.R_away HO_334000.out (fun _ hk => hk.2))) | (show (Addr.add _ _).block ≠ _; rw [add_block]; exact Kd.own_blk (Kd.R_away HO_334000.out (fun _ hk => hk.2))) | (dsimp only; exact Kd.own_blk (Kd.R_away HO_334000.out (fun _ hk => hk.2)))) _).trans (hHeld.2.2.2.2.1)))))))), ((cell_far (p := ⟨gb342, _, none⟩) (by first | exact Kd.own_blk (Kd.R_away HO_334000.out (fun _ hk => hk.2)) | (rw [add_block]; exact Kd.own_blk (Kd.R_away HO_334000.out (fun _ hk => hk.2))) | (show (Addr.add _ _).block ≠ _; rw [add_block]; exact Kd.own_blk (Kd.R_away HO_334000.out (fun _ hk => hk.2))) | (dsimp only; exact Kd.own_blk (Kd.R_away HO_334000.out (fun _ hk => hk.2)))) _).trans (((cell_far (p := ⟨gb342, _, none⟩) (by first | exact Kd.own_blk (Kd.R_away HO_334000.out (fun _ hk => hk.2)) | (rw [add_block]; exact Kd.own_blk (Kd.R_away HO_334000.out (fun _ hk => hk.2))) | (show (Addr.add _ _).block ≠ _; rw [add_block]; exact Kd.own_blk (Kd.R_away HO_334000.out (fun _ hk => hk.2))) | (dsimp only; exact Kd.own_blk (Kd.R_away HO_334000.out (fun _ hk => hk.2)))) _).trans (((cell_far (p := ⟨gb342, _, none⟩) (by first | exact Kd.own_blk (Kd.R_away HO_334000.out (fun _ hk => hk.2)) | (rw [add_block]; exact Kd.own_blk (Kd.R_away HO_334000.out (fun _ hk => hk.2))) | (show (Addr.add _ _).block ≠ _; rw [add_block]; exact Kd.own_blk (Kd.R_away HO_334000.out (fun _ hk => hk.2))) | (dsimp only; exact Kd.own_blk (Kd.R_away HO_334000.out (fun _ hk => hk.2)))) _).trans (((cell_far (p := ⟨gb342, _, none⟩) (by first | exact Kd.own_blk (Kd.R_away HO_334000.out (fun _ hk => hk.2)) | (rw [add_block]; exact Kd.own_blk (Kd.R_away HO_334000.out (fun _ hk => hk.2))) | (show (Addr.add _ _).block ≠ _; rw [add_block]; exact Kd.own_blk (Kd.R_away HO_334000.out (fun _ hk => hk.2))) | (dsimp only; exact Kd.own_blk (Kd.R_away HO_334000.out (fun _ hk => hk.2)))) _).trans (hHeld.2.2.2.2.2.1)))))))), ((cell_far (p := ⟨gb342, _, none⟩) (by first | exact Kd.own_blk (Kd.R_away HO_334000.out (fun _ hk => hk.2)) | (rw [add_block]; exact Kd.own_blk (Kd.R_away HO_334000.out (fun _ hk => hk.2))) | (show (Addr.add _ _).block ≠ _; rw [add_block]; exact Kd.own_blk (Kd.R_away HO_334000.out (fun _ hk => hk.2))) | (dsimp only; exact Kd.own_blk (Kd.R_away HO_334000.out (fun _ hk => hk.2)))) _).trans (((cell_far (p := ⟨gb342, _, none⟩) (by first | exact Kd.own_blk (Kd.R_away HO_334000.out (fun _ hk => hk.2)) | (rw [add_block]; exact Kd.own_blk (Kd.R_away HO_334000.out (fun _ hk => hk.2))) | (show (Addr.add _ _).block ≠ _; rw [add_block]; exact Kd.own_blk (Kd.R_away HO_334000.out (fun _ hk => hk.2))) | (dsimp only; exact Kd.own_blk (Kd.R_away HO_334000.out (fun _ hk => hk.2)))) _).trans (((cell_far (p := ⟨gb342, _, none⟩) (by first | exact Kd.own_blk (Kd.R_away HO_334000.out (fun _ hk => hk.2)) | (rw [add_block]; exact Kd.own_blk (Kd.R_away HO_334000.out (fun _ hk => hk.2))) | (show (Addr.add _ _).block ≠ _; rw [add_block]; exact Kd.own_blk (Kd.R_away HO_334000.out (fun _ hk => hk.2))) | (dsimp only; exact Kd.own_blk (Kd.R_away HO_334000.out (fun _ hk => hk.2)))) _).trans (((cell_far (p := ⟨gb342, _, none⟩) (by first | exact Kd.own_blk (Kd.R_away HO_334000.out (fun _ hk => hk.2)) | (rw [add_block]; exact Kd.own_blk (Kd.R_away HO_334000.out (fun _ hk => hk.2))) | (show (Addr.add _ _).block ≠ _; rw [add_block]; exact Kd.own_blk (Kd.R_away HO_334000.out (fun _ hk => hk.2))) | (dsimp only; exact Kd.own_blk (Kd.R_away HO_334000.out (fun _ hk => hk.2)))) _).trans (hHeld.2.2.2.2.2.2))))))))⟩ (fun hHeld => ?_)
                   clear hK K
                   refine done_ (done_of HT_.out (by kernel_rfl)) ?_
                   try go_wp2
                   have n0_ : Aside0 (Kd.R (Kd.int .i64) 3 ((((w36.setCell ⟨gb342, 0, none⟩ (.int .i64 ((rd_T35 t329 (rd t334 x6_1)).f0))).setCell ⟨gb342, 1, none⟩ (.int .i64 ((rd_T35 t329 (rd t334 x6_1)).f1))).setCell ⟨gb342, 2, none⟩ (.int .i64 ((rd_T35 t329 (rd t334 x6_1)).f2))).setCell ⟨gb342, 3, none⟩ (.int .i64 ((rd_T35 t329 (rd t334 x6_1)).f3))) w.heap.size (fun _ => True) (.slice (some ad337) t334.length co14) t334) := ⟨by (with_reducible repeat (first | apply Kd.R_alloc | apply Kd.R_drewN | apply Kd.R_drew)); exact Kd.R_mono (Kd.R_far (p := ⟨gb342, 3, none⟩) (Kd.R_far (p := ⟨gb342, 2, none⟩) (Kd.R_far (p := ⟨gb342, 1, none⟩) (Kd.R_far (p := ⟨gb342, 0, none⟩) (Kd.R_types HO_5.out BK342.out (by decide)) (fun _ hk => hk.2) (.int .i64 ((rd_T35 t329 (rd t334 x6_1)).f0))) (fun _ hk => hk.2) (.int .i64 ((rd_T35 t329 (rd t334 x6_1)).f1))) (fun _ hk => hk.2) (.int .i64 ((rd_T35 t329 (rd t334 x6_1)).f2))) (fun _ hk => hk.2) (.int .i64 ((rd_T35 t329 (rd t334 x6_1)).f3))) (fun _ hk => trivial)⟩
                   have n1_ : Aside0 (Kd.R k35 35 ((((w36.setCell ⟨gb342, 0, none⟩ (.int .i64 ((rd_T35 t329 (rd t334 x6_1)).f0))).setCell ⟨gb342, 1, none⟩ (.int .i64 ((rd_T35 t329 (rd t334 x6_1)).f1))).setCell ⟨gb342, 2, none⟩ (.int .i64 ((rd_T35 t329 (rd t334 x6_1)).f2))).setCell ⟨gb342, 3, none⟩ (.int .i64 ((rd_T35 t329 (rd t334 x6_1)).f3))) w.heap.size (fun k_ => k_ ≠ gb339 ∧ k_ ≠ gb342) (.slice (some ad338) t329.length co10) t329) := ⟨by (with_reducible repeat (first | apply Kd.R_alloc | apply Kd.R_drewN | apply Kd.R_drew)); exact Kd.R_mono (Kd.R_far (p := ⟨gb342, 3, none⟩) (Kd.R_far (p := ⟨gb342, 2, none⟩) (Kd.R_far (p := ⟨gb342, 1, none⟩) (Kd.R_far (p := ⟨gb342, 0, none⟩) (Kd.R_mono HO_334000.out (fun k_ hk => (⟨hk, hk.2⟩ : _ ∧ k_ ≠ gb342))) (fun _ hk => hk.2) (.int .i64 ((rd_T35 t329 (rd t334 x6_1)).f0))) (fun _ hk => hk.2) (.int .i64 ((rd_T35 t329 (rd t334 x6_1)).f1))) (fun _ hk => hk.2) (.int .i64 ((rd_T35 t329 (rd t334 x6_1)).f2))) (fun _ hk => hk.2) (.int .i64 ((rd_T35 t329 (rd t334 x6_1)).f3))) (fun _ hk => ⟨hk.1.1, hk.1.2⟩)⟩
                   have n2_ : Aside0 (((((w36.setCell ⟨gb342, 0, none⟩ (.int .i64 ((rd_T35 t329 (rd t334 x6_1)).f0))).setCell ⟨gb342, 1, none⟩ (.int .i64 ((rd_T35 t329 (rd t334 x6_1)).f1))).setCell ⟨gb342, 2, none⟩ (.int .i64 ((rd_T35 t329 (rd t334 x6_1)).f2))).setCell ⟨gb342, 3, none⟩ (.int .i64 ((rd_T35 t329 (rd t334 x6_1)).f3))).heap[gb333]? = some (.cells #[.slice (some ad338) t329.length co10, .int .i64 t332] 26 (0, 0))) := ⟨by (with_reducible repeat (first | refine blk_drewN ?_ _ | refine blk_drew ?_ | refine blk_alloc ?_ _)); refine blk_far ?_ NB333_342.out _; (with_reducible repeat (first | refine blk_drewN ?_ _ | refine blk_drew ?_ | refine blk_alloc ?_ _)); refine blk_far ?_ NB333_342.out _; (with_reducible repeat (first | refine blk_drewN ?_ _ | refine blk_drew ?_ | refine blk_alloc ?_ _)); refine blk_far ?_ NB333_342.out _; (with_reducible repeat (first | refine blk_drewN ?_ _ | refine blk_drew ?_ | refine blk_alloc ?_ _)); refine blk_far ?_ NB333_342.out _; (with_reducible repeat (first | refine blk_drewN ?_ _ | refine blk_drew ?_ | refine blk_alloc ?_ _)); exact BK333.out⟩
                   have n3_ : Aside0 (((((w36.setCell ⟨gb342, 0, none⟩ (.int .i64 ((rd_T35 t329 (rd t334 x6_1)).f0))).setCell ⟨gb342, 1, none⟩ (.int .i64 ((rd_T35 t329 (rd t334 x6_1)).f1))).setCell ⟨gb342, 2, none⟩ (.int .i64 ((rd_T35 t329 (rd t334 x6_1)).f2))).setCell ⟨gb342, 3, none⟩ (.int .i64 ((rd_T35 t329 (rd t334 x6_1)).f3))).heap[gb339]? = some (.cells #[.int .i64 ((rd_T35 t329 (rd t334 x7_2)).f0), .int .i64 ((rd_T35 t329 (rd t334 x7_2)).f1), .int .i64 ((rd_T35 t329 (rd t334 x7_2)).f2), .int .i64 ((rd_T35 t329 (rd t334 x7_2)).f3)] 35 (0, 0))) := ⟨by (with_reducible repeat (first | refine blk_drewN ?_ _ | refine blk_drew ?_ | refine blk_alloc ?_ _)); refine blk_far ?_ NB339_342.out _; (with_reducible repeat (first | refine blk_drewN ?_ _ | refine blk_drew ?_ | refine blk_alloc ?_ _)); refine blk_far ?_ NB339_342.out _; (with_reducible repeat (first | refine blk_drewN ?_ _ | refine blk_drew ?_ | refine blk_alloc ?_ _)); refine blk_far ?_ NB339_342.out _; (with_reducible repeat (first | refine blk_drewN ?_ _ | refine blk_drew ?_ | refine blk_alloc ?_ _)); refine blk_far ?_ NB339_342.out _; (with_reducible repeat (first | refine blk_drewN ?_ _ | refine blk_drew ?_ | refine blk_alloc ?_ _)); exact BK339.out⟩
                   have n4_ : Aside0 (((((w36.setCell ⟨gb342, 0, none⟩ (.int .i64 ((rd_T35 t329 (rd t334 x6_1)).f0))).setCell ⟨gb342, 1, none⟩ (.int .i64 ((rd_T35 t329 (rd t334 x6_1)).f1))).setCell ⟨gb342, 2, none⟩ (.int .i64 ((rd_T35 t329 (rd t334 x6_1)).f2))).setCell ⟨gb342, 3, none⟩ (.int .i64 ((rd_T35 t329 (rd t334 x6_1)).f3))).heap[gb342]? = some (.cells #[.int .i64 ((rd_T35 t329 (rd t334 x6_1)).f0), .int .i64 ((rd_T35 t329 (rd t334 x6_1)).f1), .int .i64 ((rd_T35 t329 (rd t334 x6_1)).f2), .int .i64 ((rd_T35 t329 (rd t334 x6_1)).f3)] 35 (0, 0))) := ⟨by (with_reducible repeat (first | refine blk_drewN ?_ _ | refine blk_drew ?_ | refine blk_alloc ?_ _)); refine blk_put (cs := #[.int .i64 ((rd_T35 t329 (rd t334 x6_1)).f0), .int .i64 ((rd_T35 t329 (rd t334 x6_1)).f1), .int .i64 ((rd_T35 t329 (rd t334 x6_1)).f2), .int .i64 0]) ?_ 3 _ rfl; (with_reducible repeat (first | refine blk_drewN ?_ _ | refine blk_drew ?_ | refine blk_alloc ?_ _)); refine blk_put (cs := #[.int .i64 ((rd_T35 t329 (rd t334 x6_1)).f0), .int .i64 ((rd_T35 t329 (rd t334 x6_1)).f1), .int .i64 0, .int .i64 0]) ?_ 2 _ rfl; (with_reducible repeat (first | refine blk_drewN ?_ _ | refine blk_drew ?_ | refine blk_alloc ?_ _)); refine blk_put (cs := #[.int .i64 ((rd_T35 t329 (rd t334 x6_1)).f0), .int .i64 0, .int .i64 0, .int .i64 0]) ?_ 1 _ rfl; (with_reducible repeat (first | refine blk_drewN ?_ _ | refine blk_drew ?_ | refine blk_alloc ?_ _)); refine blk_put (cs := #[.int .i64 0, .int .i64 0, .int .i64 0, .int .i64 0]) ?_ 0 _ rfl; (with_reducible repeat (first | refine blk_drewN ?_ _ | refine blk_drew ?_ | refine blk_alloc ?_ _)); exact BK342.out⟩
                   have n5_ : Aside0 (Below w.heap.size w ((((w36.setCell ⟨gb342, 0, none⟩ (.int .i64 ((rd_T35 t329 (rd t334 x6_1)).f0))).setCell ⟨gb342, 1, none⟩ (.int .i64 ((rd_T35 t329 (rd t334 x6_1)).f1))).setCell ⟨gb342, 2, none⟩ (.int .i64 ((rd_T35 t329 (rd t334 x6_1)).f2))).setCell ⟨gb342, 3, none⟩ (.int .i64 ((rd_T35 t329 (rd t334 x6_1)).f3)))) := ⟨by repeat (first | (with_reducible first | exact HB.out | apply below_alloc | apply pw_below_drewN | apply below_drew1 | refine below_set ?_ GE333.out | refine below_set ?_ GE339.out | refine below_set ?_ GE342.out) | exact HB.out)⟩
                   (try clear HO_5)
                   (try clear HO_334000)
                   (try clear BK333)
                   (try clear BK339)
                   (try clear BK342)
                   (try clear HB)
                   generalize ((((w36.setCell ⟨gb342, 0, none⟩ (.int .i64 ((rd_T35 t329 (rd t334 x6_1)).f0))).setCell ⟨gb342, 1, none⟩ (.int .i64 ((rd_T35 t329 (rd t334 x6_1)).f1))).setCell ⟨gb342, 2, none⟩ (.int .i64 ((rd_T35 t329 (rd t334 x6_1)).f2))).setCell ⟨gb342, 3, none⟩ (.int .i64 ((rd_T35 t329 (rd t334 x6_1)).f3))) = w41 at n0_ n1_ n2_ n3_ n4_ n5_ ⊢
                   have HO_5 := n0_
                   have HO_334000 := n1_
                   have BK333 := n2_
                   have BK339 := n3_
                   have BK342 := n4_
                   have HB := n5_
                   clear n0_ n1_ n2_ n3_ n4_ n5_
                   have n0_ := Aside0.mk (Kd.R_drew HO_5.out)
                   have n1_ := Aside0.mk (Kd.R_drew HO_334000.out)
                   have n2_ := Aside0.mk (blk_drew BK333.out)
                   have n3_ := Aside0.mk (blk_drew BK339.out)
                   have n4_ := Aside0.mk (blk_drew BK342.out)
                   have n5_ := Aside0.mk (below_drew1 HB.out)
                   clear HO_5
                   clear HO_334000
                   clear BK333
                   clear BK339
                   clear BK342
                   clear HB
                   have HO_5 := n0_
                   have HO_334000 := n1_
                   have BK333 := n2_
                   have BK339 := n3_
                   have BK342 := n4_
                   have HB := n5_
                   clear n0_ n1_ n2_ n3_ n4_ n5_
                   have p343 : 0 ≤ (x7_2 : Int) := of_decide_eq_true (by first | (with_reducible assumption) | assumption)
                   have q343 : x7_2 < (t334.length : Int) := of_decide_eq_true (by first | (with_reducible assumption) | assumption)
                   obtain ⟨ad343, e343, hx343_0⟩ := Kd.at_int (Kd.R_reads' HO_5.out).2.2 x7_2 p343 q343
                   obtain rfl : ad337 = ad343 := (by injection e343)
                   replace p343 := eq_true p343
                   replace q343 := eq_true q343
                   have p344 : 0 ≤ (x6_1 : Int) := of_decide_eq_true (by first | (with_reducible assumption) | assumption)
                   have q344 : x6_1 < (t334.length : Int) := of_decide_eq_true (by first | (with_reducible assumption) | assumption)
                   obtain ⟨ad344, e344, hx344_0⟩ := Kd.at_int (Kd.R_reads' HO_5.out).2.2 x6_1 p344 q344
                   obtain rfl : ad337 = ad344 := (by injection e344)
                   replace p344 := eq_true p344
                   replace q344 := eq_true q344
                   refine start_ (n := 24) (S := fun w' => w'.cell? ⟨gb339, 0, none⟩ = some (.int .i64 ((rd_T35 t329 (rd t334 x7_2)).f0)) ∧ w'.cell? ⟨gb339, 1, none⟩ = some (.int .i64 ((rd_T35 t329 (rd t334 x7_2)).f1)) ∧ w'.cell? ⟨gb339, 2, none⟩ = some (.int .i64 ((rd_T35 t329 (rd t334 x7_2)).f2)) ∧ w'.cell? ⟨gb339, 3, none⟩ = some (.int .i64 ((rd_T35 t329 (rd t334 x7_2)).f3)) ∧ w'.cell? ⟨gb342, 0, none⟩ = some (.int .i64 ((rd_T35 t329 (rd t334 x6_1)).f0)) ∧ w'.cell? ⟨gb342, 1, none⟩ = some (.int .i64 ((rd_T35 t329 (rd t334 x6_1)).f1)) ∧ w'.cell? ⟨gb342, 2, none⟩ = some (.int .i64 ((rd_T35 t329 (rd t334 x6_1)).f2)) ∧ w'.cell? ⟨gb342, 3, none⟩ = some (.int .i64 ((rd_T35 t329 (rd t334 x6_1)).f3)) ∧ w'.cell? ⟨gb333, 0, none⟩ = some (.slice (some ad338) t329.length co10) ∧ w'.cell? ⟨gb333, 1, none⟩ = some (.int .i64 t332) ∧ w'.cell? (ad337.add (x7_2).toNat) = some (.int .i64 (rd t334 x7_2)) ∧ w'.cell? (ad337.add (x6_1).toNat) = some (.int .i64 (rd t334 x6_1))) (ds := []) #[false, false, false, false, false, false, false, false, false, false, false, false, false, false, false, false, false, false, false, false, false, false, false, false] (by kernel_rfl) rfl rfl ⟨(blk_cell BK339.out 0).trans rfl, (blk_cell BK339.out 1).trans rfl, (blk_cell BK339.out 2).trans rfl, (blk_cell BK339.out 3).trans rfl, (blk_cell BK342.out 0).trans rfl, (blk_cell BK342.out 1).trans rfl, (blk_cell BK342.out 2).trans rfl, (blk_cell BK342.out 3).trans rfl, (blk_cell BK333.out 0).trans rfl, (blk_cell BK333.out 1).trans rfl, hx343_0, hx344_0⟩ (fun hHeld => ?_); refine with_tabW heronrylaw09_TreeOrder.tab14 heronrylaw09_TreeOrder.bits14 (fun HT_ HW_ => ?_)
                   generalize w41.drew = w42 at HO_5 HO_334000 BK333 BK339 BK342 HB hx343_0 hx344_0 hHeld ⊢
                   refine pure_ (i := 0) (N := some 46) (v := ?_) (a' := ?_) #[true, false, false, false, false, false, false, false, false, false, false, false, false, false, false, false, false, false, false, false, false, false, false, false] rfl rfl (any_of HT_.out (by kernel_rfl)) (fun _ _ _ h => h) (Or.inl ⟨by rfl, ?_⟩) ?_ ?_
                   rotate_left
                   ·intro w'
                    go_simp
                    with_reducible rfl
                   rotate_left
                   ·simp only [Act.put, List.setIfInBounds_toArray, List.set_cons_zero, List.set_cons_succ, i64_w, i32_w]
                    rfl
                   refine pure_ (i := 2) (N := some 48) (v := ?_) (a' := ?_) #[true, false, true, false, false, false, false, false, false, false, false, false, false, false, false, false, false, false, false, false, false, false, false, false] rfl rfl (any_of HT_.out (by kernel_rfl)) (fun _ _ _ h => h) (Or.inl ⟨by rfl, ?_⟩) ?_ ?_
                   rotate_left
                   ·intro w'
                    go_simp
                    with_reducible rfl
                   rotate_left
                   ·simp only [Act.put, List.setIfInBounds_toArray, List.set_cons_zero, List.set_cons_succ, i64_w, i32_w]
                    rfl
                   refine take_ (i := 1) (N := some 47) (v := ?_) (a' := ?_) #[true, true, true, false, false, false, false, false, false, false, false, false, false, false, false, false, false, false, false, false, false, false, false, false] rfl rfl (take_ofW HT_.out HW_.out (by kernel_rfl)) (fun _ _ _ h => h) (Or.inl ⟨by rfl, ?_⟩) hHeld ?_ ?_
                   rotate_left
                   ·rintro w' ⟨s0, s1, s2, s3, s4, s5, s6, s7, s8, s9, s10, s11⟩
                    go_simp
                    with_reducible rfl
                   rotate_left
                   ·simp only [Act.put, List.setIfInBounds_toArray, List.set_cons_zero, List.set_cons_succ, i64_w, i32_w]
                    rfl
                   refine take_ (i := 3) (N := some 49) (v := ?_) (a' := ?_) #[true, true, true, true, false, false, false, false, false, false, false, false, false, false, false, false, false, false, false, false, false, false, false, false] rfl rfl (take_ofW HT_.out HW_.out (by kernel_rfl)) (fun _ _ _ h => h) (Or.inl ⟨by rfl, ?_⟩) hHeld ?_ ?_
                   rotate_left
                   ·rintro w' ⟨s0, s1, s2, s3, s4, s5, s6, s7, s8, s9, s10, s11⟩
                    go_simp
                    with_reducible rfl
                   rotate_left
                   ·simp only [Act.put, List.setIfInBounds_toArray, List.set_cons_zero, List.set_cons_succ, i64_w, i32_w]
                    rfl
                   refine pure_ (i := 4) (N := some 50) (v := ?_) (a' := ?_) #[true, true, true, true, true, false, false, false, false, false, false, false, false, false, false, false, false, false, false, false, false, false, false, false] rfl rfl (any_of HT_.out (by kernel_rfl)) (fun _ _ _ h => h) (Or.inl ⟨by rfl, ?_⟩) ?_ ?_
                   rotate_left
                   ·intro w'
                    go_simp
                    with_reducible rfl
                   rotate_left
                   ·simp only [Act.put, List.setIfInBounds_toArray, List.set_cons_zero, List.set_cons_succ, i64_w, i32_w]
                    rfl
                   refine pure_ (i := 5) (N := some 51) (v := ?_) (a' := ?_) #[true, true, true, true, true, true, false, false, false, false, false, false, false, false, false, false, false, false, false, false, false, false, false, false] rfl rfl (any_of HT_.out (by kernel_rfl)) (fun _ _ _ h => h) (Or.inl ⟨by rfl, ?_⟩) ?_ ?_
                   rotate_left
                   ·intro w'
                    go_simp
                    with_reducible rfl
                   rotate_left
                   ·simp only [Act.put, List.setIfInBounds_toArray, List.set_cons_zero, List.set_cons_succ, i64_w, i32_w]
                    rfl
                   refine pure_ (i := 6) (N := some 52) (v := ?_) (a' := ?_) #[true, true, true, true, true, true, true, false, false, false, false, false, false, false, false, false, false, false, false, false, false, false, false, false] rfl rfl (any_of HT_.out (by kernel_rfl)) (fun _ _ _ h => h) (Or.inl ⟨by rfl, ?_⟩) ?_ ?_
                   rotate_left
                   ·intro w'
                    go_simp
                    with_reducible rfl
                   rotate_left
                   ·simp only [Act.put, List.setIfInBounds_toArray, List.set_cons_zero, List.set_cons_succ, i64_w, i32_w]
                    rfl
                   refine pure_ (i := 8) (N := some 54) (v := ?_) (a' := ?_) #[true, true, true, true, true, true, true, false, true, false, false, false, false, false, false, false, false, false, false, false, false, false, false, false] rfl rfl (any_of HT_.out (by kernel_rfl)) (fun _ _ _ h => h) (Or.inl ⟨by rfl, ?_⟩) ?_ ?_
                   rotate_left
                   ·intro w'
                    go_simp
                    with_reducible rfl
                   rotate_left
                   ·simp only [Act.put, List.setIfInBounds_toArray, List.set_cons_zero, List.set_cons_succ, i64_w, i32_w]
                    rfl
                   refine take_ (i := 7) (N := some 53) (v := ?_) (a' := ?_) #[true, true, true, true, true, true, true, true, true, false, false, false, false, false, false, false, false, false, false, false, false, false, false, false] rfl rfl (take_ofW HT_.out HW_.out (by kernel_rfl)) (fun _ _ _ h => h) (Or.inl ⟨by rfl, ?_⟩) hHeld ?_ ?_
                   rotate_left
                   ·rintro w' ⟨s0, s1, s2, s3, s4, s5, s6, s7, s8, s9, s10, s11⟩
                    go_simp
                    with_reducible rfl
                   rotate_left
                   ·simp only [Act.put, List.setIfInBounds_toArray, List.set_cons_zero, List.set_cons_succ, i64_w, i32_w]
                    rfl
                   refine take_ (i := 9) (N := some 55) (v := ?_) (a' := ?_) #[true, true, true, true, true, true, true, true, true, true, false, false, false, false, false, false, false, false, false, false, false, false, false, false] rfl rfl (take_ofW HT_.out HW_.out (by kernel_rfl)) (fun _ _ _ h => h) (Or.inl ⟨by rfl, ?_⟩) hHeld ?_ ?_
                   rotate_left
                   ·rintro w' ⟨s0, s1, s2, s3, s4, s5, s6, s7, s8, s9, s10, s11⟩
                    go_simp
                    with_reducible rfl
                   rotate_left
                   ·simp only [Act.put, List.setIfInBounds_toArray, List.set_cons_zero, List.set_cons_succ, i64_w, i32_w]
                    rfl
                   refine pure_ (i := 10) (N := some 56) (v := ?_) (a' := ?_) #[true, true, true, true, true, true, true, true, true, true, true, false, false, false, false, false, false, false, false, false, false, false, false, false] rfl rfl (any_of HT_.out (by kernel_rfl)) (fun _ _ _ h => h) (Or.inl ⟨by rfl, ?_⟩) ?_ ?_
                   rotate_left
                   ·intro w'
                    go_simp
                    with_reducible rfl
                   rotate_left
                   ·simp only [Act.put, List.setIfInBounds_toArray, List.set_cons_zero, List.set_cons_succ, i64_w, i32_w]
                    rfl
                   refine pure_ (i := 11) (N := some 57) (v := ?_) (a' := ?_) #[true, true, true, true, true, true, true, true, true, true, true, true, false, false, false, false, false, false, false, false, false, false, false, false] rfl rfl (any_of HT_.out (by kernel_rfl)) (fun _ _ _ h => h) (Or.inl ⟨by rfl, ?_⟩) ?_ ?_
                   rotate_left
                   ·intro w'
                    go_simp
                    with_reducible rfl
                   rotate_left
                   ·simp only [Act.put, List.setIfInBounds_toArray, List.set_cons_zero, List.set_cons_succ, i64_w, i32_w]
                    rfl
                   refine pure_ (i := 12) (N := some 58) (v := ?_) (a' := ?_) #[true, true, true, true, true, true, true, true, true, true, true, true, true, false, false, false, false, false, false, false, false, false, false, false] rfl rfl (any_of HT_.out (by kernel_rfl)) (fun _ _ _ h => h) (Or.inl ⟨by rfl, ?_⟩) ?_ ?_
                   rotate_left
                   ·intro w'
                    go_simp
                    with_reducible rfl
                   rotate_left
                   ·simp only [Act.put, List.setIfInBounds_toArray, List.set_cons_zero, List.set_cons_succ, i64_w, i32_w]
                    rfl
                   refine pure_ (i := 14) (N := some 60) (v := ?_) (a' := ?_) #[true, true, true, true, true, true, true, true, true, true, true, true, true, false, true, false, false, false, false, false, false, false, false, false] rfl rfl (any_of HT_.out (by kernel_rfl)) (fun _ _ _ h => h) (Or.inl ⟨by rfl, ?_⟩) ?_ ?_
                   rotate_left
                   ·intro w'
                    go_simp
                    with_reducible rfl
                   rotate_left
                   ·simp only [Act.put, List.setIfInBounds_toArray, List.set_cons_zero, List.set_cons_succ, i64_w, i32_w]
                    rfl
                   refine pure_ (i := 15) (N := some 61) (v := ?_) (a' := ?_) #[true, true, true, true, true, true, true, true, true, true, true, true, true, false, true, true, false, false, false, false, false, false, false, false] rfl rfl (any_of HT_.out (by kernel_rfl)) (fun _ _ _ h => h) (Or.inl ⟨by rfl, ?_⟩) ?_ ?_
                   rotate_left
                   ·intro w'
                    go_simp
                    with_reducible rfl
                   rotate_left
                   ·simp only [Act.put, List.setIfInBounds_toArray, List.set_cons_zero, List.set_cons_succ, i64_w, i32_w]
                    rfl
                   refine pure_ (i := 16) (N := some 62) (v := ?_) (a' := ?_) #[true, true, true, true, true, true, true, true, true, true, true, true, true, false, true, true, true, false, false, false, false, false, false, false] rfl rfl (any_of HT_.out (by kernel_rfl)) (fun _ _ _ h => h) (Or.inl ⟨by rfl, ?_⟩) ?_ ?_
                   rotate_left
                   ·intro w'
                    go_simp
                    with_reducible rfl
                   rotate_left
                   ·simp only [Act.put, List.setIfInBounds_toArray, List.set_cons_zero, List.set_cons_succ, i64_w, i32_w]
                    rfl
                   refine pure_ (i := 18) (N := some 64) (v := ?_) (a' := ?_) #[true, true, true, true, true, true, true, true, true, true, true, true, true, false, true, true, true, false, true, false, false, false, false, false] rfl rfl (any_of HT_.out (by kernel_rfl)) (fun _ _ _ h => h) (Or.inl ⟨by rfl, ?_⟩) ?_ ?_
                   rotate_left
                   ·intro w'
                    go_simp
                    with_reducible rfl
                   rotate_left
                   ·simp only [Act.put, List.setIfInBounds_toArray, List.set_cons_zero, List.set_cons_succ, i64_w, i32_w]
                    rfl
                   refine pure_ (i := 19) (N := some 65) (v := ?_) (a' := ?_) #[true, true, true, true, true, true, true, true, true, true, true, true, true, false, true, true, true, false, true, true, false, false, false, false] rfl rfl (any_of HT_.out (by kernel_rfl)) (fun _ _ _ h => h) (Or.inl ⟨by rfl, ?_⟩) ?_ ?_
                   rotate_left
                   ·intro w'
                    go_simp
                    with_reducible rfl
                   rotate_left
                   ·simp only [Act.put, List.setIfInBounds_toArray, List.set_cons_zero, List.set_cons_succ, i64_w, i32_w]
                    rfl
                   refine pure_ (i := 20) (N := some 66) (v := ?_) (a' := ?_) #[true, true, true, true, true, true, true, true, true, true, true, true, true, false, true, true, true, false, true, true, true, false, false, false] rfl rfl (any_of HT_.out (by kernel_rfl)) (fun _ _ _ h => h) (Or.inl ⟨by rfl, ?_⟩) ?_ ?_
                   rotate_left
                   ·intro w'
                    go_simp
                    with_reducible rfl
                   rotate_left
                   ·simp only [Act.put, List.setIfInBounds_toArray, List.set_cons_zero, List.set_cons_succ, i64_w, i32_w]
                    rfl
                   refine take_ (i := 13) (N := some 59) (v := ?_) (a' := ?_) #[true, true, true, true, true, true, true, true, true, true, true, true, true, true, true, true, true, false, true, true, true, false, false, false] rfl rfl (take_ofW HT_.out HW_.out (by kernel_rfl)) (fun _ _ _ h => h) (Or.inl ⟨by rfl, ?_⟩) hHeld ?_ ?_
                   rotate_left
                   ·rintro w' ⟨s0, s1, s2, s3, s4, s5, s6, s7, s8, s9, s10, s11⟩
                    go_simp
                    with_reducible rfl
                   rotate_left
                   ·simp only [Act.put, List.setIfInBounds_toArray, List.set_cons_zero, List.set_cons_succ, i64_w, i32_w]
                    rfl
                   refine take_ (i := 17) (N := some 63) (v := ?_) (a' := ?_) #[true, true, true, true, true, true, true, true, true, true, true, true, true, true, true, true, true, true, true, true, true, false, false, false] rfl rfl (take_ofW HT_.out HW_.out (by kernel_rfl)) (fun _ _ _ h => h) (Or.inl ⟨by rfl, ?_⟩) hHeld ?_ ?_
                   rotate_left
                   ·rintro w' ⟨s0, s1, s2, s3, s4, s5, s6, s7, s8, s9, s10, s11⟩
                    go_simp
                    with_reducible rfl
                   rotate_left
                   ·simp only [Act.put, List.setIfInBounds_toArray, List.set_cons_zero, List.set_cons_succ, i64_w, i32_w]
                    rfl
                   refine take_ (i := 21) (N := some 67) (v := ?_) (a' := ?_) #[true, true, true, true, true, true, true, true, true, true, true, true, true, true, true, true, true, true, true, true, true, true, false, false] rfl rfl (take_ofW HT_.out HW_.out (by kernel_rfl)) (fun _ _ _ h => h) (Or.inl ⟨by rfl, ?_⟩) hHeld ?_ ?_
                   rotate_left
                   ·rintro w' ⟨s0, s1, s2, s3, s4, s5, s6, s7, s8, s9, s10, s11⟩
                    go_simp
                    with_reducible rfl
                   rotate_left
                   ·simp only [Act.put, List.setIfInBounds_toArray, List.set_cons_zero, List.set_cons_succ, i64_w, i32_w]
                    rfl
                   refine one_ (i := 22) (N := some 68) #[true, true, true, true, true, true, true, true, true, true, true, true, true, true, true, true, true, true, true, true, true, true, true, false] rfl rfl (one_of HT_.out (by kernel_rfl)) (by decide) (fun K hK => ?_)
                   refine goes_ Try.func12 (by kernel_rfl) rfl #[.agg #[.slice (some ad338) t329.length co10, .int .i64 t332], .int .i64 (rd t334 x7_2), .int .i64 (rd t334 x6_1)] (by rfl) rfl rfl (by (try simp only [List.map_toArray, List.map_cons, List.map_nil]); first | done | rfl | (simp only [List.length_drop, List.length_take]; rfl)) ?_
                   with_reducible refine (tree_Within.calls _ _ t329 t332 (rd t334 x7_2) (rd t334 x6_1) false _ ?side1 ?side2 A26.out).mono ?_
                   (case side1 => repeat (first | exact (Kd.R_reads' HO_334000.out).2.2 | (with_reducible refine Kd.C_alloc ?_ _) | (with_reducible refine Kd.C_drewN ?_ _) | (with_reducible refine Kd.C_drew ?_)))
                   (case side2 => exact (Kd.R_reads' HO_334000.out).2.1)
                   rintro e w43 ⟨rfl, hb⟩
                   have HS10_ := (hb.cell (World.block_lt_of_cell? _ _ (hHeld.2.2.2.2.2.2.2.2.2.2.1))).trans (hHeld.2.2.2.2.2.2.2.2.2.2.1)
                   have HS11_ := (hb.cell (World.block_lt_of_cell? _ _ (hHeld.2.2.2.2.2.2.2.2.2.2.2))).trans (hHeld.2.2.2.2.2.2.2.2.2.2.2)
                   refine ⟨_, rfl, ?_⟩
                   have n0_ := Aside0.mk (Kd.R_below (by (with_reducible repeat (first | apply Kd.R_alloc | apply Kd.R_drewN | apply Kd.R_drew)); exact HO_5.out) hb)
                   have n1_ := Aside0.mk (Kd.R_below (by (with_reducible repeat (first | apply Kd.R_alloc | apply Kd.R_drewN | apply Kd.R_drew)); exact HO_334000.out) hb)
                   have n2_ := Aside0.mk (blk_below (g := gb333) (o := .cells #[.slice (some ad338) t329.length co10, .int .i64 t332] 26 (0, 0)) (by (with_reducible repeat (first | refine blk_drewN ?_ _ | refine blk_drew ?_ | refine blk_alloc ?_ _)); exact BK333.out) hb)
                   have n3_ := Aside0.mk (blk_below (g := gb339) (o := .cells #[.int .i64 ((rd_T35 t329 (rd t334 x7_2)).f0), .int .i64 ((rd_T35 t329 (rd t334 x7_2)).f1), .int .i64 ((rd_T35 t329 (rd t334 x7_2)).f2), .int .i64 ((rd_T35 t329 (rd t334 x7_2)).f3)] 35 (0, 0)) (by (with_reducible repeat (first | refine blk_drewN ?_ _ | refine blk_drew ?_ | refine blk_alloc ?_ _)); exact BK339.out) hb)
                   have n4_ := Aside0.mk (blk_below (g := gb342) (o := .cells #[.int .i64 ((rd_T35 t329 (rd t334 x6_1)).f0), .int .i64 ((rd_T35 t329 (rd t334 x6_1)).f1), .int .i64 ((rd_T35 t329 (rd t334 x6_1)).f2), .int .i64 ((rd_T35 t329 (rd t334 x6_1)).f3)] 35 (0, 0)) (by (with_reducible repeat (first | refine blk_drewN ?_ _ | refine blk_drew ?_ | refine blk_alloc ?_ _)); exact BK342.out) hb)
                   have n5_ := Aside0.mk (below_step (by repeat (first | (with_reducible first | exact HB.out | apply below_alloc | apply pw_below_drewN | apply below_drew1 | refine below_set ?_ GE333.out | refine below_set ?_ GE339.out | refine below_set ?_ GE342.out) | exact HB.out)) hb)
                   clear HO_5
                   clear HO_334000
                   clear BK333
                   clear BK339
                   clear BK342
                   clear HB
                   have HO_5 := n0_
                   have HO_334000 := n1_
                   have BK333 := n2_
                   have BK339 := n3_
                   have BK342 := n4_
                   have HB := n5_
                   clear n0_ n1_ n2_ n3_ n4_ n5_
                   (try clear hb)
                   (try clear hb2)
                   (try clear hk)
                   (try clear hi)
                   refine hK.out _ _ ⟨(blk_cell BK339.out 0).trans rfl, (blk_cell BK339.out 1).trans rfl, (blk_cell BK339.out 2).trans rfl, (blk_cell BK339.out 3).trans rfl, (blk_cell BK342.out 0).trans rfl, (blk_cell BK342.out 1).trans rfl, (blk_cell BK342.out 2).trans rfl, (blk_cell BK342.out 3).trans rfl, (blk_cell BK333.out 0).trans rfl, (blk_cell BK333.out 1).trans rfl, HS10_, HS11_⟩ (fun hHeld => ?_)
                   clear hK K
                   refine norm_ (a' := ?_) ?_ ?_
                   rotate_left
                   ·show Act.put _ (some 68) _ = _
                    simp only [Act.put, List.setIfInBounds_toArray, List.set_cons_zero, List.set_cons_succ, i64_w, i32_w]
                    rfl
                   refine pure_ (i := 23) (N := some 69) (v := ?_) (a' := ?_) #[true, true, true, true, true, true, true, true, true, true, true, true, true, true, true, true, true, true, true, true, true, true, true, true] rfl rfl (any_of HT_.out (by kernel_rfl)) (fun _ _ _ h => h) (Or.inl ⟨by rfl, ?_⟩) ?_ ?_
                   rotate_left
                   ·intro w'
                    go_simp
                    with_reducible rfl
                   rotate_left
                   ·simp only [Act.put, List.setIfInBounds_toArray, List.set_cons_zero, List.set_cons_succ, i64_w, i32_w]
                    rfl
                   refine done_ (done_of HT_.out (by kernel_rfl)) ?_
                   try go_wp2
                   go_roundg k2
                   case measure => have := HK1.out; have := HK2.out; omega
                   case rel => exact ⟨(wrap64 (x7_2 + 1)), (by first | rfl | (simp; done) | (simp [*]; done)), H', ⟨by have := HK1.out; have := HK2.out; omega⟩, ⟨by (with_reducible repeat (first | apply Kd.R_alloc | apply Kd.R_drewN | apply Kd.R_drew)); exact HO_5.out⟩, ⟨by (with_reducible repeat (first | apply Kd.R_alloc | apply Kd.R_drewN | apply Kd.R_drew)); exact Kd.R_mono HO_334000.out (fun _ hk => trivial)⟩, ⟨by (with_reducible repeat (first | refine blk_drewN ?_ _ | refine blk_drew ?_ | refine blk_alloc ?_ _)); exact BK333.out⟩, ⟨by repeat (first | (with_reducible first | exact HB.out | apply below_alloc | apply pw_below_drewN | apply below_drew1 | refine below_set ?_ GE333.out | refine below_set ?_ GE339.out | refine below_set ?_ GE342.out) | exact HB.out)⟩⟩
                ·rw [if_neg c24] at H
                 have c24b0 : (((rd_T35 t329 (rd t334 x7_2)).f0) == ((rd_T35 t329 (rd t334 x6_1)).f0)) = false := beq_eq_false_iff_ne.mpr c24
                 have c24b1 : (((rd_T35 t329 (rd t334 x7_2)).f0) != ((rd_T35 t329 (rd t334 x6_1)).f0)) = true := bne_iff_ne.mpr c24
                 replace H := Option.bind_eq_some_iff.mp H
                 obtain ⟨t348, A440, H⟩ := H
                 replace H : (if t348 = true then (some false) else (heronrylaw09_TreeOrder.l1 k2 t328 t334 x6_1 (wrap64 (x7_2 + 1)) t329 t332)) = some r := H
                 have A44 := Aside0.mk A440
                 clear A440
                 by_cases c45 : t348 = true
                 ·subst c45
                  have H1 : (some false) = some r := by rw [if_pos rfl] at H; exact H
                  clear H
                  have H := H1
                  clear H1
                  obtain rfl := Option.some.inj H
                  exact absurd hT_.out (by decide)
                 ·replace c45 := Bool.eq_false_iff.mpr c45
                  subst c45
                  have H1 : (heronrylaw09_TreeOrder.l1 k2 t328 t334 x6_1 (wrap64 (x7_2 + 1)) t329 t332) = some r := by rw [if_neg (show ¬ (false = true) by decide)] at H; exact H
                  clear H
                  have H := H1
                  clear H1
                  have H' := Aside0.mk H
                  clear H
                  try go_wp2
                  have n0_ := Aside0.mk (Kd.R_drew HO_5.out)
                  have n1_ := Aside0.mk (Kd.R_drew HO_334000.out)
                  have n2_ := Aside0.mk (blk_drew BK333.out)
                  have n3_ := Aside0.mk (below_drew1 HB.out)
                  clear HO_5
                  clear HO_334000
                  clear BK333
                  clear HB
                  have HO_5 := n0_
                  have HO_334000 := n1_
                  have BK333 := n2_
                  have HB := n3_
                  clear n0_ n1_ n2_ n3_
                  have p337 : 0 ≤ (x7_2 : Int) := of_decide_eq_true (by first | (with_reducible assumption) | assumption)
                  have q337 : x7_2 < (t334.length : Int) := of_decide_eq_true (by first | (with_reducible assumption) | assumption)
                  obtain ⟨ad337, e337, hx337_0⟩ := Kd.at_int (Kd.R_reads' HO_5.out).2.2 x7_2 p337 q337
                  cases e337
                  replace p337 := eq_true p337
                  replace q337 := eq_true q337
                  have p338 : 0 ≤ ((rd t334 x7_2) : Int) := of_decide_eq_true (by first | (with_reducible assumption) | assumption)
                  have q338 : (rd t334 x7_2) < (t329.length : Int) := of_decide_eq_true (by first | (with_reducible assumption) | assumption)
                  obtain ⟨ad338, e338, hx338_0, hx338_1, hx338_2, hx338_3⟩ := at_T35 (Kd.R_reads' HO_334000.out).2.2 (rd t334 x7_2) p338 q338
                  cases e338
                  replace p338 := eq_true p338
                  replace q338 := eq_true q338
                  refine start_ (n := 10) (S := fun w' => w'.cell? ⟨gb333, 0, none⟩ = some (.slice (some ad338) t329.length co10) ∧ w'.cell? ⟨gb333, 1, none⟩ = some (.int .i64 t332) ∧ w'.cell? (ad337.add (x7_2).toNat) = some (.int .i64 (rd t334 x7_2)) ∧ w'.cell? (ad338.add (((rd t334 x7_2)).toNat * 4)) = some (.int .i64 ((rd_T35 t329 (rd t334 x7_2)).f0)) ∧ w'.cell? ⟨(ad338.add (((rd t334 x7_2)).toNat * 4)).block, (ad338.add (((rd t334 x7_2)).toNat * 4)).off + 1, none⟩ = some (.int .i64 ((rd_T35 t329 (rd t334 x7_2)).f1)) ∧ w'.cell? ⟨(ad338.add (((rd t334 x7_2)).toNat * 4)).block, (ad338.add (((rd t334 x7_2)).toNat * 4)).off + 2, none⟩ = some (.int .i64 ((rd_T35 t329 (rd t334 x7_2)).f2)) ∧ w'.cell? ⟨(ad338.add (((rd t334 x7_2)).toNat * 4)).block, (ad338.add (((rd t334 x7_2)).toNat * 4)).off + 3, none⟩ = some (.int .i64 ((rd_T35 t329 (rd t334 x7_2)).f3))) (ds := []) #[false, false, false, false, false, false, false, false, false, false] (by kernel_rfl) rfl rfl ⟨(blk_cell BK333.out 0).trans rfl, (blk_cell BK333.out 1).trans rfl, hx337_0, hx338_0, hx338_1, hx338_2, hx338_3⟩ (fun hHeld => ?_); refine with_tabW heronrylaw09_TreeOrder.tab12 heronrylaw09_TreeOrder.bits12 (fun HT_ HW_ => ?_)
                  generalize wr.drew = w46 at HO_5 HO_334000 BK333 HB hx337_0 hx338_0 hx338_1 hx338_2 hx338_3 hHeld ⊢
                  refine pure_ (i := 0) (N := some 30) (v := ?_) (a' := ?_) #[true, false, false, false, false, false, false, false, false, false] rfl rfl (any_of HT_.out (by kernel_rfl)) (fun _ _ _ h => h) (Or.inl ⟨by rfl, ?_⟩) ?_ ?_
                  rotate_left
                  ·intro w'
                   go_simp
                   with_reducible rfl
                  rotate_left
                  ·simp only [Act.put, List.setIfInBounds_toArray, List.set_cons_zero, List.set_cons_succ, i64_w, i32_w]
                   rfl
                  refine pure_ (i := 2) (N := some 32) (v := ?_) (a' := ?_) #[true, false, true, false, false, false, false, false, false, false] rfl rfl (any_of HT_.out (by kernel_rfl)) (fun _ _ _ h => h) (Or.inl ⟨by rfl, ?_⟩) ?_ ?_
                  rotate_left
                  ·intro w'
                   go_simp
                   with_reducible rfl
                  rotate_left
                  ·simp only [Act.put, List.setIfInBounds_toArray, List.set_cons_zero, List.set_cons_succ, i64_w, i32_w]
                   rfl
                  refine pure_ (i := 3) (N := some 33) (v := ?_) (a' := ?_) #[true, false, true, true, false, false, false, false, false, false] rfl rfl (any_of HT_.out (by kernel_rfl)) (fun _ _ _ h => h) (Or.inl ⟨by rfl, ?_⟩) ?_ ?_
                  rotate_left
                  ·intro w'
                   go_simp
                   with_reducible rfl
                  rotate_left
                  ·simp only [Act.put, List.setIfInBounds_toArray, List.set_cons_zero, List.set_cons_succ, i64_w, i32_w]
                   rfl
                  refine pure_ (i := 4) (N := some 34) (v := ?_) (a' := ?_) #[true, false, true, true, true, false, false, false, false, false] rfl rfl (any_of HT_.out (by kernel_rfl)) (fun _ _ _ h => h) (Or.inl ⟨by rfl, ?_⟩) ?_ ?_
                  rotate_left
                  ·intro w'
                   go_simp
                   with_reducible rfl
                  rotate_left
                  ·simp only [Act.put, List.setIfInBounds_toArray, List.set_cons_zero, List.set_cons_succ, i64_w, i32_w]
                   rfl
                  refine take_ (i := 1) (N := some 31) (v := ?_) (a' := ?_) #[true, true, true, true, true, false, false, false, false, false] rfl rfl (take_ofW HT_.out HW_.out (by kernel_rfl)) (fun _ _ _ h => h) (Or.inl ⟨by rfl, ?_⟩) hHeld ?_ ?_
                  rotate_left
                  ·rintro w' ⟨s0, s1, s2, s3, s4, s5, s6⟩
                   go_simp
                   with_reducible rfl
                  rotate_left
                  ·simp only [Act.put, List.setIfInBounds_toArray, List.set_cons_zero, List.set_cons_succ, i64_w, i32_w]
                   rfl
                  refine take_ (i := 5) (N := some 35) (v := ?_) (a' := ?_) #[true, true, true, true, true, true, false, false, false, false] rfl rfl (take_ofW HT_.out HW_.out (by kernel_rfl)) (fun _ _ _ h => h) (Or.inl ⟨by rfl, ?_⟩) hHeld ?_ ?_
                  rotate_left
                  ·rintro w' ⟨s0, s1, s2, s3, s4, s5, s6⟩
                   go_simp
                   with_reducible rfl
                  rotate_left
                  ·simp only [Act.put, List.setIfInBounds_toArray, List.set_cons_zero, List.set_cons_succ, i64_w, i32_w]
                   rfl
                  refine pure_ (i := 6) (N := some 36) (v := ?_) (a' := ?_) #[true, true, true, true, true, true, true, false, false, false] rfl rfl (any_of HT_.out (by kernel_rfl)) (fun _ _ _ h => h) (Or.inl ⟨by rfl, ?_⟩) ?_ ?_
                  rotate_left
                  ·intro w'
                   go_simp
                   with_reducible rfl
                  rotate_left
                  ·simp only [Act.put, List.setIfInBounds_toArray, List.set_cons_zero, List.set_cons_succ, i64_w, i32_w]
                   rfl
                  refine take_ (i := 7) (N := some 37) (v := ?_) (a' := ?_) #[true, true, true, true, true, true, true, true, false, false] rfl rfl (take_ofW HT_.out HW_.out (by kernel_rfl)) (fun _ _ _ h => h) (Or.inl ⟨by rfl, ?_⟩) hHeld ?_ ?_
                  rotate_left
                  ·rintro w' ⟨s0, s1, s2, s3, s4, s5, s6⟩
                   go_simp
                   with_reducible rfl
                  rotate_left
                  ·simp only [Act.put, List.setIfInBounds_toArray, List.set_cons_zero, List.set_cons_succ, i64_w, i32_w]
                   rfl
                  refine one_ (i := 8) (N := some 8) #[true, true, true, true, true, true, true, true, true, false] rfl rfl (one_of HT_.out (by kernel_rfl)) (by decide) (fun K hK => ?_)
                  refine box_step ?hg (N := 8) ?hd (cs := #[.int .i64 0, .int .i64 0, .int .i64 0, .int .i64 0]) (t := 35) ?hr ?_; (case hd => rfl); (case hg => rfl); (case hr => first | (go_simp; done) | (go_simp; rfl))
                  intro gb339 hg w47 hbox hb
                  have HS2_ := (hb.cell (World.block_lt_of_cell? _ _ (hHeld.2.2.1))).trans (hHeld.2.2.1)
                  have HS3_ := (hb.cell (World.block_lt_of_cell? _ _ (hHeld.2.2.2.1))).trans (hHeld.2.2.2.1)
                  have HS4_ := (hb.cell (World.block_lt_of_cell? _ _ (hHeld.2.2.2.2.1))).trans (hHeld.2.2.2.2.1)
                  have HS5_ := (hb.cell (World.block_lt_of_cell? _ _ (hHeld.2.2.2.2.2.1))).trans (hHeld.2.2.2.2.2.1)
                  have HS6_ := (hb.cell (World.block_lt_of_cell? _ _ (hHeld.2.2.2.2.2.2))).trans (hHeld.2.2.2.2.2.2)
                  have n0_ := Aside0.mk (Kd.R_below (by (with_reducible repeat (first | apply Kd.R_alloc | apply Kd.R_drewN | apply Kd.R_drew)); exact HO_5.out) hb)
                  have n1_ := Aside0.mk (Kd.R_below (Kd.R_elderB (by (with_reducible repeat (first | apply Kd.R_alloc | apply Kd.R_drewN | apply Kd.R_drew)); exact HO_334000.out) gb339 (Nat.le_of_eq hg.symm)) hb)
                  have n2_ := Aside0.mk (blk_below (g := gb333) (o := .cells #[.slice (some ad338) t329.length co10, .int .i64 t332] 26 (0, 0)) (by (with_reducible repeat (first | refine blk_drewN ?_ _ | refine blk_drew ?_ | refine blk_alloc ?_ _)); exact BK333.out) hb)
                  have n3_ := Aside0.mk (below_step (by repeat (first | (with_reducible first | exact HB.out | apply below_alloc | apply pw_below_drewN | apply below_drew1 | refine below_set ?_ GE333.out) | exact HB.out)) hb)
                  have n4_ := Aside0.mk (hbox)
                  have n5_ := Aside0.mk ((by rw [hg]; exact (below_size (by repeat (first | (with_reducible first | exact HB.out | apply below_alloc | apply pw_below_drewN | apply below_drew1 | refine below_set ?_ GE333.out) | exact HB.out))) : w.heap.size ≤ gb339))
                  have n6_ := Aside0.mk ((by rw [hg]; exact (below_size (by repeat (first | (with_reducible first | exact HB.out | apply below_alloc | apply pw_below_drewN | apply below_drew1 | refine below_set ?_ GE333.out) | exact HB.out))) : w.heap.size ≤ gb339))
                  have n7_ := Aside0.mk ((by rw [hg]; exact Nat.ne_of_lt (blk_lt (g := gb333) (o := .cells #[.slice (some ad338) t329.length co10, .int .i64 t332] 26 (0, 0)) (by (with_reducible repeat (first | refine blk_drewN ?_ _ | refine blk_drew ?_ | refine blk_alloc ?_ _)); exact BK333.out)) : gb333 ≠ gb339))
                  have n8_ := Aside0.mk ((by rw [hg]; exact Nat.ne_of_gt (blk_lt (g := gb333) (o := .cells #[.slice (some ad338) t329.length co10, .int .i64 t332] 26 (0, 0)) (by (with_reducible repeat (first | refine blk_drewN ?_ _ | refine blk_drew ?_ | refine blk_alloc ?_ _)); exact BK333.out)) : gb339 ≠ gb333))
                  clear HO_5
                  clear HO_334000
                  clear BK333
                  clear HB
                  have HO_5 := n0_
                  have HO_334000 := n1_
                  have BK333 := n2_
                  have HB := n3_
                  have BK339 := n4_
                  have GW339 := n5_
                  have GE339 := n6_
                  have NB333_339 := n7_
                  have NB339_333 := n8_
                  clear n0_ n1_ n2_ n3_ n4_ n5_ n6_ n7_ n8_
                  clear hb hbox hg
                  refine hK.out _ _ ⟨(blk_cell BK333.out 0).trans rfl, (blk_cell BK333.out 1).trans rfl, HS2_, HS3_, HS4_, HS5_, HS6_⟩ (fun hHeld => ?_)
                  clear hK K
                  refine norm_ (a' := ?_) ?_ ?_
                  rotate_left
                  ·show Act.put _ (some 8) _ = _
                   simp only [Act.put, List.setIfInBounds_toArray, List.set_cons_zero, List.set_cons_succ, i64_w, i32_w]
                   rfl
                  refine one_ (i := 9) (N := none) #[true, true, true, true, true, true, true, true, true, true] rfl rfl (one_of HT_.out (by kernel_rfl)) (by decide) (fun K hK => ?_)
                  have hs48 : w47.cell? ⟨gb339, 0, none⟩ = some (.int .i64 0) := (blk_cell BK339.out 0).trans rfl
                  have hfs48 := blk_frozen BK339.out 0
                  have hns48_0 := NB333_339.out
                  have hms48_0 := NB339_333.out
                  have hs49 : w47.cell? ⟨gb339, 1, none⟩ = some (.int .i64 0) := (blk_cell BK339.out 1).trans rfl
                  have hfs49 := blk_frozen BK339.out 1
                  have hns49_0 := NB333_339.out
                  have hms49_0 := NB339_333.out
                  have hs50 : w47.cell? ⟨gb339, 2, none⟩ = some (.int .i64 0) := (blk_cell BK339.out 2).trans rfl
                  have hfs50 := blk_frozen BK339.out 2
                  have hns50_0 := NB333_339.out
                  have hms50_0 := NB339_333.out
                  have hs51 : w47.cell? ⟨gb339, 3, none⟩ = some (.int .i64 0) := (blk_cell BK339.out 3).trans rfl
                  have hfs51 := blk_frozen BK339.out 3
                  have hns51_0 := NB333_339.out
                  have hms51_0 := NB339_333.out
                  refine skip_ (w1 := ?_) (by rfl) rfl ?_ ?_
                  rotate_left
                  ·go_simp
                   rfl
                  refine hK.out _ _ ⟨((cell_far (p := ⟨gb339, _, none⟩) NB333_339.out _).trans (((cell_far (p := ⟨gb339, _, none⟩) NB333_339.out _).trans (((cell_far (p := ⟨gb339, _, none⟩) NB333_339.out _).trans (((cell_far (p := ⟨gb339, _, none⟩) NB333_339.out _).trans (hHeld.1)))))))), ((cell_far (p := ⟨gb339, _, none⟩) NB333_339.out _).trans (((cell_far (p := ⟨gb339, _, none⟩) NB333_339.out _).trans (((cell_far (p := ⟨gb339, _, none⟩) NB333_339.out _).trans (((cell_far (p := ⟨gb339, _, none⟩) NB333_339.out _).trans (hHeld.2.1)))))))), ((cell_far (p := ⟨gb339, _, none⟩) (by first | exact Kd.own_blk (Kd.R_ne HO_5.out BK339.out (by decide)) | (rw [add_block]; exact Kd.own_blk (Kd.R_ne HO_5.out BK339.out (by decide))) | (show (Addr.add _ _).block ≠ _; rw [add_block]; exact Kd.own_blk (Kd.R_ne HO_5.out BK339.out (by decide))) | (dsimp only; exact Kd.own_blk (Kd.R_ne HO_5.out BK339.out (by decide)))) _).trans (((cell_far (p := ⟨gb339, _, none⟩) (by first | exact Kd.own_blk (Kd.R_ne HO_5.out BK339.out (by decide)) | (rw [add_block]; exact Kd.own_blk (Kd.R_ne HO_5.out BK339.out (by decide))) | (show (Addr.add _ _).block ≠ _; rw [add_block]; exact Kd.own_blk (Kd.R_ne HO_5.out BK339.out (by decide))) | (dsimp only; exact Kd.own_blk (Kd.R_ne HO_5.out BK339.out (by decide)))) _).trans (((cell_far (p := ⟨gb339, _, none⟩) (by first | exact Kd.own_blk (Kd.R_ne HO_5.out BK339.out (by decide)) | (rw [add_block]; exact Kd.own_blk (Kd.R_ne HO_5.out BK339.out (by decide))) | (show (Addr.add _ _).block ≠ _; rw [add_block]; exact Kd.own_blk (Kd.R_ne HO_5.out BK339.out (by decide))) | (dsimp only; exact Kd.own_blk (Kd.R_ne HO_5.out BK339.out (by decide)))) _).trans (((cell_far (p := ⟨gb339, _, none⟩) (by first | exact Kd.own_blk (Kd.R_ne HO_5.out BK339.out (by decide)) | (rw [add_block]; exact Kd.own_blk (Kd.R_ne HO_5.out BK339.out (by decide))) | (show (Addr.add _ _).block ≠ _; rw [add_block]; exact Kd.own_blk (Kd.R_ne HO_5.out BK339.out (by decide))) | (dsimp only; exact Kd.own_blk (Kd.R_ne HO_5.out BK339.out (by decide)))) _).trans (hHeld.2.2.1)))))))), ((cell_far (p := ⟨gb339, _, none⟩) (by first | exact Kd.own_blk (Kd.R_away HO_334000.out (fun _ hk => hk.2)) | (rw [add_block]; exact Kd.own_blk (Kd.R_away HO_334000.out (fun _ hk => hk.2))) | (show (Addr.add _ _).block ≠ _; rw [add_block]; exact Kd.own_blk (Kd.R_away HO_334000.out (fun _ hk => hk.2))) | (dsimp only; exact Kd.own_blk (Kd.R_away HO_334000.out (fun _ hk => hk.2)))) _).trans (((cell_far (p := ⟨gb339, _, none⟩) (by first | exact Kd.own_blk (Kd.R_away HO_334000.out (fun _ hk => hk.2)) | (rw [add_block]; exact Kd.own_blk (Kd.R_away HO_334000.out (fun _ hk => hk.2))) | (show (Addr.add _ _).block ≠ _; rw [add_block]; exact Kd.own_blk (Kd.R_away HO_334000.out (fun _ hk => hk.2))) | (dsimp only; exact Kd.own_blk (Kd.R_away HO_334000.out (fun _ hk => hk.2)))) _).trans (((cell_far (p := ⟨gb339, _, none⟩) (by first | exact Kd.own_blk (Kd.R_away HO_334000.out (fun _ hk => hk.2)) | (rw [add_block]; exact Kd.own_blk (Kd.R_away HO_334000.out (fun _ hk => hk.2))) | (show (Addr.add _ _).block ≠ _; rw [add_block]; exact Kd.own_blk (Kd.R_away HO_334000.out (fun _ hk => hk.2))) | (dsimp only; exact Kd.own_blk (Kd.R_away HO_334000.out (fun _ hk => hk.2)))) _).trans (((cell_far (p := ⟨gb339, _, none⟩) (by first | exact Kd.own_blk (Kd.R_away HO_334000.out (fun _ hk => hk.2)) | (rw [add_block]; exact Kd.own_blk (Kd.R_away HO_334000.out (fun _ hk => hk.2))) | (show (Addr.add _ _).block ≠ _; rw [add_block]; exact Kd.own_blk (Kd.R_away HO_334000.out (fun _ hk => hk.2))) | (dsimp only; exact Kd.own_blk (Kd.R_away HO_334000.out (fun _ hk => hk.2)))) _).trans (hHeld.2.2.2.1)))))))), ((cell_far (p := ⟨gb339, _, none⟩) (by first | exact Kd.own_blk (Kd.R_away HO_334000.out (fun _ hk => hk.2)) | (rw [add_block]; exact Kd.own_blk (Kd.R_away HO_334000.out (fun _ hk => hk.2))) | (show (Addr.add _ _).block ≠ _; rw [add_block]; exact Kd.own_blk (Kd.R_away HO_334000.out (fun _ hk => hk.2))) | (dsimp only; exact Kd.own_blk (Kd.R_away HO_334000.out (fun _ hk => hk.2)))) _).trans (((cell_far (p := ⟨gb339, _, none⟩) (by first | exact Kd.own_blk (Kd.R_away HO_334000.out (fun _ hk => hk.2)) | (rw [add_block]; exact Kd.own_blk (Kd.R_away HO_334000.out (fun _ hk => hk.2))) | (show (Addr.add _ _).block ≠ _; rw [add_block]; exact Kd.own_blk (Kd.R_away HO_334000.out (fun _ hk => hk.2))) | (dsimp only; exact Kd.own_blk (Kd.R_away HO_334000.out (fun _ hk => hk.2)))) _).trans (((cell_far (p := ⟨gb339, _, none⟩) (by first | exact Kd.own_blk (Kd.R_away HO_334000.out (fun _ hk => hk.2)) | (rw [add_block]; exact Kd.own_blk (Kd.R_away HO_334000.out (fun _ hk => hk.2))) | (show (Addr.add _ _).block ≠ _; rw [add_block]; exact Kd.own_blk (Kd.R_away HO_334000.out (fun _ hk => hk.2))) | (dsimp only; exact Kd.own_blk (Kd.R_away HO_334000.out (fun _ hk => hk.2)))) _).trans (((cell_far (p := ⟨gb339, _, none⟩) (by first | exact Kd.own_blk (Kd.R_away HO_334000.out (fun _ hk => hk.2)) | (rw [add_block]; exact Kd.own_blk (Kd.R_away HO_334000.out (fun _ hk => hk.2))) | (show (Addr.add _ _).block ≠ _; rw [add_block]; exact Kd.own_blk (Kd.R_away HO_334000.out (fun _ hk => hk.2))) | (dsimp only; exact Kd.own_blk (Kd.R_away HO_334000.out (fun _ hk => hk.2)))) _).trans (hHeld.2.2.2.2.1)))))))), ((cell_far (p := ⟨gb339, _, none⟩) (by first | exact Kd.own_blk (Kd.R_away HO_334000.out (fun _ hk => hk.2)) | (rw [add_block]; exact Kd.own_blk (Kd.R_away HO_334000.out (fun _ hk => hk.2))) | (show (Addr.add _ _).block ≠ _; rw [add_block]; exact Kd.own_blk (Kd.R_away HO_334000.out (fun _ hk => hk.2))) | (dsimp only; exact Kd.own_blk (Kd.R_away HO_334000.out (fun _ hk => hk.2)))) _).trans (((cell_far (p := ⟨gb339, _, none⟩) (by first | exact Kd.own_blk (Kd.R_away HO_334000.out (fun _ hk => hk.2)) | (rw [add_block]; exact Kd.own_blk (Kd.R_away HO_334000.out (fun _ hk => hk.2))) | (show (Addr.add _ _).block ≠ _; rw [add_block]; exact Kd.own_blk (Kd.R_away HO_334000.out (fun _ hk => hk.2))) | (dsimp only; exact Kd.own_blk (Kd.R_away HO_334000.out (fun _ hk => hk.2)))) _).trans (((cell_far (p := ⟨gb339, _, none⟩) (by first | exact Kd.own_blk (Kd.R_away HO_334000.out (fun _ hk => hk.2)) | (rw [add_block]; exact Kd.own_blk (Kd.R_away HO_334000.out (fun _ hk => hk.2))) | (show (Addr.add _ _).block ≠ _; rw [add_block]; exact Kd.own_blk (Kd.R_away HO_334000.out (fun _ hk => hk.2))) | (dsimp only; exact Kd.own_blk (Kd.R_away HO_334000.out (fun _ hk => hk.2)))) _).trans (((cell_far (p := ⟨gb339, _, none⟩) (by first | exact Kd.own_blk (Kd.R_away HO_334000.out (fun _ hk => hk.2)) | (rw [add_block]; exact Kd.own_blk (Kd.R_away HO_334000.out (fun _ hk => hk.2))) | (show (Addr.add _ _).block ≠ _; rw [add_block]; exact Kd.own_blk (Kd.R_away HO_334000.out (fun _ hk => hk.2))) | (dsimp only; exact Kd.own_blk (Kd.R_away HO_334000.out (fun _ hk => hk.2)))) _).trans (hHeld.2.2.2.2.2.1)))))))), ((cell_far (p := ⟨gb339, _, none⟩) (by first | exact Kd.own_blk (Kd.R_away HO_334000.out (fun _ hk => hk.2)) | (rw [add_block]; exact Kd.own_blk (Kd.R_away HO_334000.out (fun _ hk => hk.2))) | (show (Addr.add _ _).block ≠ _; rw [add_block]; exact Kd.own_blk (Kd.R_away HO_334000.out (fun _ hk => hk.2))) | (dsimp only; exact Kd.own_blk (Kd.R_away HO_334000.out (fun _ hk => hk.2)))) _).trans (((cell_far (p := ⟨gb339, _, none⟩) (by first | exact Kd.own_blk (Kd.R_away HO_334000.out (fun _ hk => hk.2)) | (rw [add_block]; exact Kd.own_blk (Kd.R_away HO_334000.out (fun _ hk => hk.2))) | (show (Addr.add _ _).block ≠ _; rw [add_block]; exact Kd.own_blk (Kd.R_away HO_334000.out (fun _ hk => hk.2))) | (dsimp only; exact Kd.own_blk (Kd.R_away HO_334000.out (fun _ hk => hk.2)))) _).trans (((cell_far (p := ⟨gb339, _, none⟩) (by first | exact Kd.own_blk (Kd.R_away HO_334000.out (fun _ hk => hk.2)) | (rw [add_block]; exact Kd.own_blk (Kd.R_away HO_334000.out (fun _ hk => hk.2))) | (show (Addr.add _ _).block ≠ _; rw [add_block]; exact Kd.own_blk (Kd.R_away HO_334000.out (fun _ hk => hk.2))) | (dsimp only; exact Kd.own_blk (Kd.R_away HO_334000.out (fun _ hk => hk.2)))) _).trans (((cell_far (p := ⟨gb339, _, none⟩) (by first | exact Kd.own_blk (Kd.R_away HO_334000.out (fun _ hk => hk.2)) | (rw [add_block]; exact Kd.own_blk (Kd.R_away HO_334000.out (fun _ hk => hk.2))) | (show (Addr.add _ _).block ≠ _; rw [add_block]; exact Kd.own_blk (Kd.R_away HO_334000.out (fun _ hk => hk.2))) | (dsimp only; exact Kd.own_blk (Kd.R_away HO_334000.out (fun _ hk => hk.2)))) _).trans (hHeld.2.2.2.2.2.2))))))))⟩ (fun hHeld => ?_)
                  clear hK K
                  refine done_ (done_of HT_.out (by kernel_rfl)) ?_
                  try go_wp2
                  have n0_ : Aside0 (Kd.R (Kd.int .i64) 3 ((((w47.setCell ⟨gb339, 0, none⟩ (.int .i64 ((rd_T35 t329 (rd t334 x7_2)).f0))).setCell ⟨gb339, 1, none⟩ (.int .i64 ((rd_T35 t329 (rd t334 x7_2)).f1))).setCell ⟨gb339, 2, none⟩ (.int .i64 ((rd_T35 t329 (rd t334 x7_2)).f2))).setCell ⟨gb339, 3, none⟩ (.int .i64 ((rd_T35 t329 (rd t334 x7_2)).f3))) w.heap.size (fun _ => True) (.slice (some ad337) t334.length co14) t334) := ⟨by (with_reducible repeat (first | apply Kd.R_alloc | apply Kd.R_drewN | apply Kd.R_drew)); exact Kd.R_mono (Kd.R_far (p := ⟨gb339, 3, none⟩) (Kd.R_far (p := ⟨gb339, 2, none⟩) (Kd.R_far (p := ⟨gb339, 1, none⟩) (Kd.R_far (p := ⟨gb339, 0, none⟩) (Kd.R_types HO_5.out BK339.out (by decide)) (fun _ hk => hk.2) (.int .i64 ((rd_T35 t329 (rd t334 x7_2)).f0))) (fun _ hk => hk.2) (.int .i64 ((rd_T35 t329 (rd t334 x7_2)).f1))) (fun _ hk => hk.2) (.int .i64 ((rd_T35 t329 (rd t334 x7_2)).f2))) (fun _ hk => hk.2) (.int .i64 ((rd_T35 t329 (rd t334 x7_2)).f3))) (fun _ hk => trivial)⟩
                  have n1_ : Aside0 (Kd.R k35 35 ((((w47.setCell ⟨gb339, 0, none⟩ (.int .i64 ((rd_T35 t329 (rd t334 x7_2)).f0))).setCell ⟨gb339, 1, none⟩ (.int .i64 ((rd_T35 t329 (rd t334 x7_2)).f1))).setCell ⟨gb339, 2, none⟩ (.int .i64 ((rd_T35 t329 (rd t334 x7_2)).f2))).setCell ⟨gb339, 3, none⟩ (.int .i64 ((rd_T35 t329 (rd t334 x7_2)).f3))) w.heap.size (fun k_ => k_ ≠ gb339) (.slice (some ad338) t329.length co10) t329) := ⟨by (with_reducible repeat (first | apply Kd.R_alloc | apply Kd.R_drewN | apply Kd.R_drew)); exact Kd.R_mono (Kd.R_far (p := ⟨gb339, 3, none⟩) (Kd.R_far (p := ⟨gb339, 2, none⟩) (Kd.R_far (p := ⟨gb339, 1, none⟩) (Kd.R_far (p := ⟨gb339, 0, none⟩) (Kd.R_mono HO_334000.out (fun k_ hk => (⟨hk, hk.2⟩ : _ ∧ k_ ≠ gb339))) (fun _ hk => hk.2) (.int .i64 ((rd_T35 t329 (rd t334 x7_2)).f0))) (fun _ hk => hk.2) (.int .i64 ((rd_T35 t329 (rd t334 x7_2)).f1))) (fun _ hk => hk.2) (.int .i64 ((rd_T35 t329 (rd t334 x7_2)).f2))) (fun _ hk => hk.2) (.int .i64 ((rd_T35 t329 (rd t334 x7_2)).f3))) (fun _ hk => hk.1.2)⟩
                  have n2_ : Aside0 (((((w47.setCell ⟨gb339, 0, none⟩ (.int .i64 ((rd_T35 t329 (rd t334 x7_2)).f0))).setCell ⟨gb339, 1, none⟩ (.int .i64 ((rd_T35 t329 (rd t334 x7_2)).f1))).setCell ⟨gb339, 2, none⟩ (.int .i64 ((rd_T35 t329 (rd t334 x7_2)).f2))).setCell ⟨gb339, 3, none⟩ (.int .i64 ((rd_T35 t329 (rd t334 x7_2)).f3))).heap[gb333]? = some (.cells #[.slice (some ad338) t329.length co10, .int .i64 t332] 26 (0, 0))) := ⟨by (with_reducible repeat (first | refine blk_drewN ?_ _ | refine blk_drew ?_ | refine blk_alloc ?_ _)); refine blk_far ?_ NB333_339.out _; (with_reducible repeat (first | refine blk_drewN ?_ _ | refine blk_drew ?_ | refine blk_alloc ?_ _)); refine blk_far ?_ NB333_339.out _; (with_reducible repeat (first | refine blk_drewN ?_ _ | refine blk_drew ?_ | refine blk_alloc ?_ _)); refine blk_far ?_ NB333_339.out _; (with_reducible repeat (first | refine blk_drewN ?_ _ | refine blk_drew ?_ | refine blk_alloc ?_ _)); refine blk_far ?_ NB333_339.out _; (with_reducible repeat (first | refine blk_drewN ?_ _ | refine blk_drew ?_ | refine blk_alloc ?_ _)); exact BK333.out⟩
                  have n3_ : Aside0 (((((w47.setCell ⟨gb339, 0, none⟩ (.int .i64 ((rd_T35 t329 (rd t334 x7_2)).f0))).setCell ⟨gb339, 1, none⟩ (.int .i64 ((rd_T35 t329 (rd t334 x7_2)).f1))).setCell ⟨gb339, 2, none⟩ (.int .i64 ((rd_T35 t329 (rd t334 x7_2)).f2))).setCell ⟨gb339, 3, none⟩ (.int .i64 ((rd_T35 t329 (rd t334 x7_2)).f3))).heap[gb339]? = some (.cells #[.int .i64 ((rd_T35 t329 (rd t334 x7_2)).f0), .int .i64 ((rd_T35 t329 (rd t334 x7_2)).f1), .int .i64 ((rd_T35 t329 (rd t334 x7_2)).f2), .int .i64 ((rd_T35 t329 (rd t334 x7_2)).f3)] 35 (0, 0))) := ⟨by (with_reducible repeat (first | refine blk_drewN ?_ _ | refine blk_drew ?_ | refine blk_alloc ?_ _)); refine blk_put (cs := #[.int .i64 ((rd_T35 t329 (rd t334 x7_2)).f0), .int .i64 ((rd_T35 t329 (rd t334 x7_2)).f1), .int .i64 ((rd_T35 t329 (rd t334 x7_2)).f2), .int .i64 0]) ?_ 3 _ rfl; (with_reducible repeat (first | refine blk_drewN ?_ _ | refine blk_drew ?_ | refine blk_alloc ?_ _)); refine blk_put (cs := #[.int .i64 ((rd_T35 t329 (rd t334 x7_2)).f0), .int .i64 ((rd_T35 t329 (rd t334 x7_2)).f1), .int .i64 0, .int .i64 0]) ?_ 2 _ rfl; (with_reducible repeat (first | refine blk_drewN ?_ _ | refine blk_drew ?_ | refine blk_alloc ?_ _)); refine blk_put (cs := #[.int .i64 ((rd_T35 t329 (rd t334 x7_2)).f0), .int .i64 0, .int .i64 0, .int .i64 0]) ?_ 1 _ rfl; (with_reducible repeat (first | refine blk_drewN ?_ _ | refine blk_drew ?_ | refine blk_alloc ?_ _)); refine blk_put (cs := #[.int .i64 0, .int .i64 0, .int .i64 0, .int .i64 0]) ?_ 0 _ rfl; (with_reducible repeat (first | refine blk_drewN ?_ _ | refine blk_drew ?_ | refine blk_alloc ?_ _)); exact BK339.out⟩
                  have n4_ : Aside0 (Below w.heap.size w ((((w47.setCell ⟨gb339, 0, none⟩ (.int .i64 ((rd_T35 t329 (rd t334 x7_2)).f0))).setCell ⟨gb339, 1, none⟩ (.int .i64 ((rd_T35 t329 (rd t334 x7_2)).f1))).setCell ⟨gb339, 2, none⟩ (.int .i64 ((rd_T35 t329 (rd t334 x7_2)).f2))).setCell ⟨gb339, 3, none⟩ (.int .i64 ((rd_T35 t329 (rd t334 x7_2)).f3)))) := ⟨by repeat (first | (with_reducible first | exact HB.out | apply below_alloc | apply pw_below_drewN | apply below_drew1 | refine below_set ?_ GE333.out | refine below_set ?_ GE339.out) | exact HB.out)⟩
                  (try clear HO_5)
                  (try clear HO_334000)
                  (try clear BK333)
                  (try clear BK339)
                  (try clear HB)
                  generalize ((((w47.setCell ⟨gb339, 0, none⟩ (.int .i64 ((rd_T35 t329 (rd t334 x7_2)).f0))).setCell ⟨gb339, 1, none⟩ (.int .i64 ((rd_T35 t329 (rd t334 x7_2)).f1))).setCell ⟨gb339, 2, none⟩ (.int .i64 ((rd_T35 t329 (rd t334 x7_2)).f2))).setCell ⟨gb339, 3, none⟩ (.int .i64 ((rd_T35 t329 (rd t334 x7_2)).f3))) = w52 at n0_ n1_ n2_ n3_ n4_ ⊢
                  have HO_5 := n0_
                  have HO_334000 := n1_
                  have BK333 := n2_
                  have BK339 := n3_
                  have HB := n4_
                  clear n0_ n1_ n2_ n3_ n4_
                  have n0_ := Aside0.mk (Kd.R_drew HO_5.out)
                  have n1_ := Aside0.mk (Kd.R_drew HO_334000.out)
                  have n2_ := Aside0.mk (blk_drew BK333.out)
                  have n3_ := Aside0.mk (blk_drew BK339.out)
                  have n4_ := Aside0.mk (below_drew1 HB.out)
                  clear HO_5
                  clear HO_334000
                  clear BK333
                  clear BK339
                  clear HB
                  have HO_5 := n0_
                  have HO_334000 := n1_
                  have BK333 := n2_
                  have BK339 := n3_
                  have HB := n4_
                  clear n0_ n1_ n2_ n3_ n4_
                  have p340 : 0 ≤ (x6_1 : Int) := of_decide_eq_true (by first | (with_reducible assumption) | assumption)
                  have q340 : x6_1 < (t334.length : Int) := of_decide_eq_true (by first | (with_reducible assumption) | assumption)
                  obtain ⟨ad340, e340, hx340_0⟩ := Kd.at_int (Kd.R_reads' HO_5.out).2.2 x6_1 p340 q340
                  obtain rfl : ad337 = ad340 := (by injection e340)
                  replace p340 := eq_true p340
                  replace q340 := eq_true q340
                  have p341 : 0 ≤ ((rd t334 x6_1) : Int) := of_decide_eq_true (by first | (with_reducible assumption) | assumption)
                  have q341 : (rd t334 x6_1) < (t329.length : Int) := of_decide_eq_true (by first | (with_reducible assumption) | assumption)
                  obtain ⟨ad341, e341, hx341_0, hx341_1, hx341_2, hx341_3⟩ := at_T35 (Kd.R_reads' HO_334000.out).2.2 (rd t334 x6_1) p341 q341
                  obtain rfl : ad338 = ad341 := (by injection e341)
                  replace p341 := eq_true p341
                  replace q341 := eq_true q341
                  refine start_ (n := 10) (S := fun w' => w'.cell? ⟨gb333, 0, none⟩ = some (.slice (some ad338) t329.length co10) ∧ w'.cell? ⟨gb333, 1, none⟩ = some (.int .i64 t332) ∧ w'.cell? (ad337.add (x6_1).toNat) = some (.int .i64 (rd t334 x6_1)) ∧ w'.cell? (ad338.add (((rd t334 x6_1)).toNat * 4)) = some (.int .i64 ((rd_T35 t329 (rd t334 x6_1)).f0)) ∧ w'.cell? ⟨(ad338.add (((rd t334 x6_1)).toNat * 4)).block, (ad338.add (((rd t334 x6_1)).toNat * 4)).off + 1, none⟩ = some (.int .i64 ((rd_T35 t329 (rd t334 x6_1)).f1)) ∧ w'.cell? ⟨(ad338.add (((rd t334 x6_1)).toNat * 4)).block, (ad338.add (((rd t334 x6_1)).toNat * 4)).off + 2, none⟩ = some (.int .i64 ((rd_T35 t329 (rd t334 x6_1)).f2)) ∧ w'.cell? ⟨(ad338.add (((rd t334 x6_1)).toNat * 4)).block, (ad338.add (((rd t334 x6_1)).toNat * 4)).off + 3, none⟩ = some (.int .i64 ((rd_T35 t329 (rd t334 x6_1)).f3))) (ds := []) #[false, false, false, false, false, false, false, false, false, false] (by kernel_rfl) rfl rfl ⟨(blk_cell BK333.out 0).trans rfl, (blk_cell BK333.out 1).trans rfl, hx340_0, hx341_0, hx341_1, hx341_2, hx341_3⟩ (fun hHeld => ?_); refine with_tabW heronrylaw09_TreeOrder.tab13 heronrylaw09_TreeOrder.bits13 (fun HT_ HW_ => ?_)
                  generalize w52.drew = w53 at HO_5 HO_334000 BK333 BK339 HB hx340_0 hx341_0 hx341_1 hx341_2 hx341_3 hHeld ⊢
                  refine pure_ (i := 0) (N := some 38) (v := ?_) (a' := ?_) #[true, false, false, false, false, false, false, false, false, false] rfl rfl (any_of HT_.out (by kernel_rfl)) (fun _ _ _ h => h) (Or.inl ⟨by rfl, ?_⟩) ?_ ?_
                  rotate_left
                  ·intro w'
                   go_simp
                   with_reducible rfl
                  rotate_left
                  ·simp only [Act.put, List.setIfInBounds_toArray, List.set_cons_zero, List.set_cons_succ, i64_w, i32_w]
                   rfl
                  refine pure_ (i := 2) (N := some 40) (v := ?_) (a' := ?_) #[true, false, true, false, false, false, false, false, false, false] rfl rfl (any_of HT_.out (by kernel_rfl)) (fun _ _ _ h => h) (Or.inl ⟨by rfl, ?_⟩) ?_ ?_
                  rotate_left
                  ·intro w'
                   go_simp
                   with_reducible rfl
                  rotate_left
                  ·simp only [Act.put, List.setIfInBounds_toArray, List.set_cons_zero, List.set_cons_succ, i64_w, i32_w]
                   rfl
                  refine pure_ (i := 3) (N := some 41) (v := ?_) (a' := ?_) #[true, false, true, true, false, false, false, false, false, false] rfl rfl (any_of HT_.out (by kernel_rfl)) (fun _ _ _ h => h) (Or.inl ⟨by rfl, ?_⟩) ?_ ?_
                  rotate_left
                  ·intro w'
                   go_simp
                   with_reducible rfl
                  rotate_left
                  ·simp only [Act.put, List.setIfInBounds_toArray, List.set_cons_zero, List.set_cons_succ, i64_w, i32_w]
                   rfl
                  refine pure_ (i := 4) (N := some 42) (v := ?_) (a' := ?_) #[true, false, true, true, true, false, false, false, false, false] rfl rfl (any_of HT_.out (by kernel_rfl)) (fun _ _ _ h => h) (Or.inl ⟨by rfl, ?_⟩) ?_ ?_
                  rotate_left
                  ·intro w'
                   go_simp
                   with_reducible rfl
                  rotate_left
                  ·simp only [Act.put, List.setIfInBounds_toArray, List.set_cons_zero, List.set_cons_succ, i64_w, i32_w]
                   rfl
                  refine take_ (i := 1) (N := some 39) (v := ?_) (a' := ?_) #[true, true, true, true, true, false, false, false, false, false] rfl rfl (take_ofW HT_.out HW_.out (by kernel_rfl)) (fun _ _ _ h => h) (Or.inl ⟨by rfl, ?_⟩) hHeld ?_ ?_
                  rotate_left
                  ·rintro w' ⟨s0, s1, s2, s3, s4, s5, s6⟩
                   go_simp
                   with_reducible rfl
                  rotate_left
                  ·simp only [Act.put, List.setIfInBounds_toArray, List.set_cons_zero, List.set_cons_succ, i64_w, i32_w]
                   rfl
                  refine take_ (i := 5) (N := some 43) (v := ?_) (a' := ?_) #[true, true, true, true, true, true, false, false, false, false] rfl rfl (take_ofW HT_.out HW_.out (by kernel_rfl)) (fun _ _ _ h => h) (Or.inl ⟨by rfl, ?_⟩) hHeld ?_ ?_
                  rotate_left
                  ·rintro w' ⟨s0, s1, s2, s3, s4, s5, s6⟩
                   go_simp
                   with_reducible rfl
                  rotate_left
                  ·simp only [Act.put, List.setIfInBounds_toArray, List.set_cons_zero, List.set_cons_succ, i64_w, i32_w]
                   rfl
                  refine pure_ (i := 6) (N := some 44) (v := ?_) (a' := ?_) #[true, true, true, true, true, true, true, false, false, false] rfl rfl (any_of HT_.out (by kernel_rfl)) (fun _ _ _ h => h) (Or.inl ⟨by rfl, ?_⟩) ?_ ?_
                  rotate_left
                  ·intro w'
                   go_simp
                   with_reducible rfl
                  rotate_left
                  ·simp only [Act.put, List.setIfInBounds_toArray, List.set_cons_zero, List.set_cons_succ, i64_w, i32_w]
                   rfl
                  refine take_ (i := 7) (N := some 45) (v := ?_) (a' := ?_) #[true, true, true, true, true, true, true, true, false, false] rfl rfl (take_ofW HT_.out HW_.out (by kernel_rfl)) (fun _ _ _ h => h) (Or.inl ⟨by rfl, ?_⟩) hHeld ?_ ?_
                  rotate_left
                  ·rintro w' ⟨s0, s1, s2, s3, s4, s5, s6⟩
                   go_simp
                   with_reducible rfl
                  rotate_left
                  ·simp only [Act.put, List.setIfInBounds_toArray, List.set_cons_zero, List.set_cons_succ, i64_w, i32_w]
                   rfl
                  refine one_ (i := 8) (N := some 9) #[true, true, true, true, true, true, true, true, true, false] rfl rfl (one_of HT_.out (by kernel_rfl)) (by decide) (fun K hK => ?_)
                  refine box_step ?hg (N := 9) ?hd (cs := #[.int .i64 0, .int .i64 0, .int .i64 0, .int .i64 0]) (t := 35) ?hr ?_; (case hd => rfl); (case hg => rfl); (case hr => first | (go_simp; done) | (go_simp; rfl))
                  intro gb342 hg w54 hbox hb
                  have HS2_ := (hb.cell (World.block_lt_of_cell? _ _ (hHeld.2.2.1))).trans (hHeld.2.2.1)
                  have HS3_ := (hb.cell (World.block_lt_of_cell? _ _ (hHeld.2.2.2.1))).trans (hHeld.2.2.2.1)
                  have HS4_ := (hb.cell (World.block_lt_of_cell? _ _ (hHeld.2.2.2.2.1))).trans (hHeld.2.2.2.2.1)
                  have HS5_ := (hb.cell (World.block_lt_of_cell? _ _ (hHeld.2.2.2.2.2.1))).trans (hHeld.2.2.2.2.2.1)
                  have HS6_ := (hb.cell (World.block_lt_of_cell? _ _ (hHeld.2.2.2.2.2.2))).trans (hHeld.2.2.2.2.2.2)
                  have n0_ := Aside0.mk (Kd.R_below (by (with_reducible repeat (first | apply Kd.R_alloc | apply Kd.R_drewN | apply Kd.R_drew)); exact HO_5.out) hb)
                  have n1_ := Aside0.mk (Kd.R_below (Kd.R_elderB (by (with_reducible repeat (first | apply Kd.R_alloc | apply Kd.R_drewN | apply Kd.R_drew)); exact HO_334000.out) gb342 (Nat.le_of_eq hg.symm)) hb)
                  have n2_ := Aside0.mk (blk_below (g := gb333) (o := .cells #[.slice (some ad338) t329.length co10, .int .i64 t332] 26 (0, 0)) (by (with_reducible repeat (first | refine blk_drewN ?_ _ | refine blk_drew ?_ | refine blk_alloc ?_ _)); exact BK333.out) hb)
                  have n3_ := Aside0.mk (blk_below (g := gb339) (o := .cells #[.int .i64 ((rd_T35 t329 (rd t334 x7_2)).f0), .int .i64 ((rd_T35 t329 (rd t334 x7_2)).f1), .int .i64 ((rd_T35 t329 (rd t334 x7_2)).f2), .int .i64 ((rd_T35 t329 (rd t334 x7_2)).f3)] 35 (0, 0)) (by (with_reducible repeat (first | refine blk_drewN ?_ _ | refine blk_drew ?_ | refine blk_alloc ?_ _)); exact BK339.out) hb)
                  have n4_ := Aside0.mk (below_step (by repeat (first | (with_reducible first | exact HB.out | apply below_alloc | apply pw_below_drewN | apply below_drew1 | refine below_set ?_ GE333.out | refine below_set ?_ GE339.out) | exact HB.out)) hb)
                  have n5_ := Aside0.mk (hbox)
                  have n6_ := Aside0.mk ((by rw [hg]; exact (below_size (by repeat (first | (with_reducible first | exact HB.out | apply below_alloc | apply pw_below_drewN | apply below_drew1 | refine below_set ?_ GE333.out | refine below_set ?_ GE339.out) | exact HB.out))) : w.heap.size ≤ gb342))
                  have n7_ := Aside0.mk ((by rw [hg]; exact (below_size (by repeat (first | (with_reducible first | exact HB.out | apply below_alloc | apply pw_below_drewN | apply below_drew1 | refine below_set ?_ GE333.out | refine below_set ?_ GE339.out) | exact HB.out))) : w.heap.size ≤ gb342))
                  have n8_ := Aside0.mk ((by rw [hg]; exact Nat.ne_of_lt (blk_lt (g := gb333) (o := .cells #[.slice (some ad338) t329.length co10, .int .i64 t332] 26 (0, 0)) (by (with_reducible repeat (first | refine blk_drewN ?_ _ | refine blk_drew ?_ | refine blk_alloc ?_ _)); exact BK333.out)) : gb333 ≠ gb342))
                  have n9_ := Aside0.mk ((by rw [hg]; exact Nat.ne_of_gt (blk_lt (g := gb333) (o := .cells #[.slice (some ad338) t329.length co10, .int .i64 t332] 26 (0, 0)) (by (with_reducible repeat (first | refine blk_drewN ?_ _ | refine blk_drew ?_ | refine blk_alloc ?_ _)); exact BK333.out)) : gb342 ≠ gb333))
                  have n10_ := Aside0.mk ((by rw [hg]; exact Nat.ne_of_lt (blk_lt (g := gb339) (o := .cells #[.int .i64 ((rd_T35 t329 (rd t334 x7_2)).f0), .int .i64 ((rd_T35 t329 (rd t334 x7_2)).f1), .int .i64 ((rd_T35 t329 (rd t334 x7_2)).f2), .int .i64 ((rd_T35 t329 (rd t334 x7_2)).f3)] 35 (0, 0)) (by (with_reducible repeat (first | refine blk_drewN ?_ _ | refine blk_drew ?_ | refine blk_alloc ?_ _)); exact BK339.out)) : gb339 ≠ gb342))
                  have n11_ := Aside0.mk ((by rw [hg]; exact Nat.ne_of_gt (blk_lt (g := gb339) (o := .cells #[.int .i64 ((rd_T35 t329 (rd t334 x7_2)).f0), .int .i64 ((rd_T35 t329 (rd t334 x7_2)).f1), .int .i64 ((rd_T35 t329 (rd t334 x7_2)).f2), .int .i64 ((rd_T35 t329 (rd t334 x7_2)).f3)] 35 (0, 0)) (by (with_reducible repeat (first | refine blk_drewN ?_ _ | refine blk_drew ?_ | refine blk_alloc ?_ _)); exact BK339.out)) : gb342 ≠ gb339))
                  clear HO_5
                  clear HO_334000
                  clear BK333
                  clear BK339
                  clear HB
                  have HO_5 := n0_
                  have HO_334000 := n1_
                  have BK333 := n2_
                  have BK339 := n3_
                  have HB := n4_
                  have BK342 := n5_
                  have GW342 := n6_
                  have GE342 := n7_
                  have NB333_342 := n8_
                  have NB342_333 := n9_
                  have NB339_342 := n10_
                  have NB342_339 := n11_
                  clear n0_ n1_ n2_ n3_ n4_ n5_ n6_ n7_ n8_ n9_ n10_ n11_
                  clear hb hbox hg
                  refine hK.out _ _ ⟨(blk_cell BK333.out 0).trans rfl, (blk_cell BK333.out 1).trans rfl, HS2_, HS3_, HS4_, HS5_, HS6_⟩ (fun hHeld => ?_)
                  clear hK K
                  refine norm_ (a' := ?_) ?_ ?_
                  rotate_left
                  ·show Act.put _ (some 9) _ = _
                   simp only [Act.put, List.setIfInBounds_toArray, List.set_cons_zero, List.set_cons_succ, i64_w, i32_w]
                   rfl
                  refine one_ (i := 9) (N := none) #[true, true, true, true, true, true, true, true, true, true] rfl rfl (one_of HT_.out (by kernel_rfl)) (by decide) (fun K hK => ?_)
                  have hs55 : w54.cell? ⟨gb342, 0, none⟩ = some (.int .i64 0) := (blk_cell BK342.out 0).trans rfl
                  have hfs55 := blk_frozen BK342.out 0
                  have hns55_0 := NB333_342.out
                  have hns55_1 := NB339_342.out
                  have hms55_0 := NB342_333.out
                  have hms55_1 := NB342_339.out
                  have hs56 : w54.cell? ⟨gb342, 1, none⟩ = some (.int .i64 0) := (blk_cell BK342.out 1).trans rfl
                  have hfs56 := blk_frozen BK342.out 1
                  have hns56_0 := NB333_342.out
                  have hns56_1 := NB339_342.out
                  have hms56_0 := NB342_333.out
                  have hms56_1 := NB342_339.out
                  have hs57 : w54.cell? ⟨gb342, 2, none⟩ = some (.int .i64 0) := (blk_cell BK342.out 2).trans rfl
                  have hfs57 := blk_frozen BK342.out 2
                  have hns57_0 := NB333_342.out
                  have hns57_1 := NB339_342.out
                  have hms57_0 := NB342_333.out
                  have hms57_1 := NB342_339.out
                  have hs58 : w54.cell? ⟨gb342, 3, none⟩ = some (.int .i64 0) := (blk_cell BK342.out 3).trans rfl
                  have hfs58 := blk_frozen BK342.out 3
                  have hns58_0 := NB333_342.out
                  have hns58_1 := NB339_342.out
                  have hms58_0 := NB342_333.out
                  have hms58_1 := NB342_339.out
                  refine skip_ (w1 := ?_) (by rfl) rfl ?_ ?_
                  rotate_left
                  ·go_simp
                   rfl
                  refine hK.out _ _ ⟨((cell_far (p := ⟨gb342, _, none⟩) NB333_342.out _).trans (((cell_far (p := ⟨gb342, _, none⟩) NB333_342.out _).trans (((cell_far (p := ⟨gb342, _, none⟩) NB333_342.out _).trans (((cell_far (p := ⟨gb342, _, none⟩) NB333_342.out _).trans (hHeld.1)))))))), ((cell_far (p := ⟨gb342, _, none⟩) NB333_342.out _).trans (((cell_far (p := ⟨gb342, _, none⟩) NB333_342.out _).trans (((cell_far (p := ⟨gb342, _, none⟩) NB333_342.out _).trans (((cell_far (p := ⟨gb342, _, none⟩) NB333_342.out _).trans (hHeld.2.1)))))))), ((cell_far (p := ⟨gb342, _, none⟩) (by first | exact Kd.own_blk (Kd.R_ne HO_5.out BK342.out (by decide)) | (rw [add_block]; exact Kd.own_blk (Kd.R_ne HO_5.out BK342.out (by decide))) | (show (Addr.add _ _).block ≠ _; rw [add_block]; exact Kd.own_blk (Kd.R_ne HO_5.out BK342.out (by decide))) | (dsimp only; exact Kd.own_blk (Kd.R_ne HO_5.out BK342.out (by decide)))) _).trans (((cell_far (p := ⟨gb342, _, none⟩) (by first | exact Kd.own_blk (Kd.R_ne HO_5.out BK342.out (by decide)) | (rw [add_block]; exact Kd.own_blk (Kd.R_ne HO_5.out BK342.out (by decide))) | (show (Addr.add _ _).block ≠ _; rw [add_block]; exact Kd.own_blk (Kd.R_ne HO_5.out BK342.out (by decide))) | (dsimp only; exact Kd.own_blk (Kd.R_ne HO_5.out BK342.out (by decide)))) _).trans (((cell_far (p := ⟨gb342, _, none⟩) (by first | exact Kd.own_blk (Kd.R_ne HO_5.out BK342.out (by decide)) | (rw [add_block]; exact Kd.own_blk (Kd.R_ne HO_5.out BK342.out (by decide))) | (show (Addr.add _ _).block ≠ _; rw [add_block]; exact Kd.own_blk (Kd.R_ne HO_5.out BK342.out (by decide))) | (dsimp only; exact Kd.own_blk (Kd.R_ne HO_5.out BK342.out (by decide)))) _).trans (((cell_far (p := ⟨gb342, _, none⟩) (by first | exact Kd.own_blk (Kd.R_ne HO_5.out BK342.out (by decide)) | (rw [add_block]; exact Kd.own_blk (Kd.R_ne HO_5.out BK342.out (by decide))) | (show (Addr.add _ _).block ≠ _; rw [add_block]; exact Kd.own_blk (Kd.R_ne HO_5.out BK342.out (by decide))) | (dsimp only; exact Kd.own_blk (Kd.R_ne HO_5.out BK342.out (by decide)))) _).trans (hHeld.2.2.1)))))))), ((cell_far (p := ⟨gb342, _, none⟩) (by first | exact Kd.own_blk (Kd.R_away HO_334000.out (fun _ hk => hk.2)) | (rw [add_block]; exact Kd.own_blk (Kd.R_away HO_334000.out (fun _ hk => hk.2))) | (show (Addr.add _ _).block ≠ _; rw [add_block]; exact Kd.own_blk (Kd.R_away HO_334000.out (fun _ hk => hk.2))) | (dsimp only; exact Kd.own_blk (Kd.R_away HO_334000.out (fun _ hk => hk.2)))) _).trans (((cell_far (p := ⟨gb342, _, none⟩) (by first | exact Kd.own_blk (Kd.R_away HO_334000.out (fun _ hk => hk.2)) | (rw [add_block]; exact Kd.own_blk (Kd.R_away HO_334000.out (fun _ hk => hk.2))) | (show (Addr.add _ _).block ≠ _; rw [add_block]; exact Kd.own_blk (Kd.R_away HO_334000.out (fun _ hk => hk.2))) | (dsimp only; exact Kd.own_blk (Kd.R_away HO_334000.out (fun _ hk => hk.2)))) _).trans (((cell_far (p := ⟨gb342, _, none⟩) (by first | exact Kd.own_blk (Kd.R_away HO_334000.out (fun _ hk => hk.2)) | (rw [add_block]; exact Kd.own_blk (Kd.R_away HO_334000.out (fun _ hk => hk.2))) | (show (Addr.add _ _).block ≠ _; rw [add_block]; exact Kd.own_blk (Kd.R_away HO_334000.out (fun _ hk => hk.2))) | (dsimp only; exact Kd.own_blk (Kd.R_away HO_334000.out (fun _ hk => hk.2)))) _).trans (((cell_far (p := ⟨gb342, _, none⟩) (by first | exact Kd.own_blk (Kd.R_away HO_334000.out (fun _ hk => hk.2)) | (rw [add_block]; exact Kd.own_blk (Kd.R_away HO_334000.out (fun _ hk => hk.2))) | (show (Addr.add _ _).block ≠ _; rw [add_block]; exact Kd.own_blk (Kd.R_away HO_334000.out (fun _ hk => hk.2))) | (dsimp only; exact Kd.own_blk (Kd.R_away HO_334000.out (fun _ hk => hk.2)))) _).trans (hHeld.2.2.2.1)))))))), ((cell_far (p := ⟨gb342, _, none⟩) (by first | exact Kd.own_blk (Kd.R_away HO_334000.out (fun _ hk => hk.2)) | (rw [add_block]; exact Kd.own_blk (Kd.R_away HO_334000.out (fun _ hk => hk.2))) | (show (Addr.add _ _).block ≠ _; rw [add_block]; exact Kd.own_blk (Kd.R_away HO_334000.out (fun _ hk => hk.2))) | (dsimp only; exact Kd.own_blk (Kd.R_away HO_334000.out (fun _ hk => hk.2)))) _).trans (((cell_far (p := ⟨gb342, _, none⟩) (by first | exact Kd.own_blk (Kd.R_away HO_334000.out (fun _ hk => hk.2)) | (rw [add_block]; exact Kd.own_blk (Kd.R_away HO_334000.out (fun _ hk => hk.2))) | (show (Addr.add _ _).block ≠ _; rw [add_block]; exact Kd.own_blk (Kd.R_away HO_334000.out (fun _ hk => hk.2))) | (dsimp only; exact Kd.own_blk (Kd.R_away HO_334000.out (fun _ hk => hk.2)))) _).trans (((cell_far (p := ⟨gb342, _, none⟩) (by first | exact Kd.own_blk (Kd.R_away HO_334000.out (fun _ hk => hk.2)) | (rw [add_block]; exact Kd.own_blk (Kd.R_away HO_334000.out (fun _ hk => hk.2))) | (show (Addr.add _ _).block ≠ _; rw [add_block]; exact Kd.own_blk (Kd.R_away HO_334000.out (fun _ hk => hk.2))) | (dsimp only; exact Kd.own_blk (Kd.R_away HO_334000.out (fun _ hk => hk.2)))) _).trans (((cell_far (p := ⟨gb342, _, none⟩) (by first | exact Kd.own_blk (Kd.R_away HO_334000.out (fun _ hk => hk.2)) | (rw [add_block]; exact Kd.own_blk (Kd.R_away HO_334000.out (fun _ hk => hk.2))) | (show (Addr.add _ _).block ≠ _; rw [add_block]; exact Kd.own_blk (Kd.R_away HO_334000.out (fun _ hk => hk.2))) | (dsimp only; exact Kd.own_blk (Kd.R_away HO_334000.out (fun _ hk => hk.2)))) _).trans (hHeld.2.2.2.2.1)))))))), ((cell_far (p := ⟨gb342, _, none⟩) (by first | exact Kd.own_blk (Kd.R_away HO_334000.out (fun _ hk => hk.2)) | (rw [add_block]; exact Kd.own_blk (Kd.R_away HO_334000.out (fun _ hk => hk.2))) | (show (Addr.add _ _).block ≠ _; rw [add_block]; exact Kd.own_blk (Kd.R_away HO_334000.out (fun _ hk => hk.2))) | (dsimp only; exact Kd.own_blk (Kd.R_away HO_334000.out (fun _ hk => hk.2)))) _).trans (((cell_far (p := ⟨gb342, _, none⟩) (by first | exact Kd.own_blk (Kd.R_away HO_334000.out (fun _ hk => hk.2)) | (rw [add_block]; exact Kd.own_blk (Kd.R_away HO_334000.out (fun _ hk => hk.2))) | (show (Addr.add _ _).block ≠ _; rw [add_block]; exact Kd.own_blk (Kd.R_away HO_334000.out (fun _ hk => hk.2))) | (dsimp only; exact Kd.own_blk (Kd.R_away HO_334000.out (fun _ hk => hk.2)))) _).trans (((cell_far (p := ⟨gb342, _, none⟩) (by first | exact Kd.own_blk (Kd.R_away HO_334000.out (fun _ hk => hk.2)) | (rw [add_block]; exact Kd.own_blk (Kd.R_away HO_334000.out (fun _ hk => hk.2))) | (show (Addr.add _ _).block ≠ _; rw [add_block]; exact Kd.own_blk (Kd.R_away HO_334000.out (fun _ hk => hk.2))) | (dsimp only; exact Kd.own_blk (Kd.R_away HO_334000.out (fun _ hk => hk.2)))) _).trans (((cell_far (p := ⟨gb342, _, none⟩) (by first | exact Kd.own_blk (Kd.R_away HO_334000.out (fun _ hk => hk.2)) | (rw [add_block]; exact Kd.own_blk (Kd.R_away HO_334000.out (fun _ hk => hk.2))) | (show (Addr.add _ _).block ≠ _; rw [add_block]; exact Kd.own_blk (Kd.R_away HO_334000.out (fun _ hk => hk.2))) | (dsimp only; exact Kd.own_blk (Kd.R_away HO_334000.out (fun _ hk => hk.2)))) _).trans (hHeld.2.2.2.2.2.1)))))))), ((cell_far (p := ⟨gb342, _, none⟩) (by first | exact Kd.own_blk (Kd.R_away HO_334000.out (fun _ hk => hk.2)) | (rw [add_block]; exact Kd.own_blk (Kd.R_away HO_334000.out (fun _ hk => hk.2))) | (show (Addr.add _ _).block ≠ _; rw [add_block]; exact Kd.own_blk (Kd.R_away HO_334000.out (fun _ hk => hk.2))) | (dsimp only; exact Kd.own_blk (Kd.R_away HO_334000.out (fun _ hk => hk.2)))) _).trans (((cell_far (p := ⟨gb342, _, none⟩) (by first | exact Kd.own_blk (Kd.R_away HO_334000.out (fun _ hk => hk.2)) | (rw [add_block]; exact Kd.own_blk (Kd.R_away HO_334000.out (fun _ hk => hk.2))) | (show (Addr.add _ _).block ≠ _; rw [add_block]; exact Kd.own_blk (Kd.R_away HO_334000.out (fun _ hk => hk.2))) | (dsimp only; exact Kd.own_blk (Kd.R_away HO_334000.out (fun _ hk => hk.2)))) _).trans (((cell_far (p := ⟨gb342, _, none⟩) (by first | exact Kd.own_blk (Kd.R_away HO_334000.out (fun _ hk => hk.2)) | (rw [add_block]; exact Kd.own_blk (Kd.R_away HO_334000.out (fun _ hk => hk.2))) | (show (Addr.add _ _).block ≠ _; rw [add_block]; exact Kd.own_blk (Kd.R_away HO_334000.out (fun _ hk => hk.2))) | (dsimp only; exact Kd.own_blk (Kd.R_away HO_334000.out (fun _ hk => hk.2)))) _).trans (((cell_far (p := ⟨gb342, _, none⟩) (by first | exact Kd.own_blk (Kd.R_away HO_334000.out (fun _ hk => hk.2)) | (rw [add_block]; exact Kd.own_blk (Kd.R_away HO_334000.out (fun _ hk => hk.2))) | (show (Addr.add _ _).block ≠ _; rw [add_block]; exact Kd.own_blk (Kd.R_away HO_334000.out (fun _ hk => hk.2))) | (dsimp only; exact Kd.own_blk (Kd.R_away HO_334000.out (fun _ hk => hk.2)))) _).trans (hHeld.2.2.2.2.2.2))))))))⟩ (fun hHeld => ?_)
                  clear hK K
                  refine done_ (done_of HT_.out (by kernel_rfl)) ?_
                  try go_wp2
                  have n0_ : Aside0 (Kd.R (Kd.int .i64) 3 ((((w54.setCell ⟨gb342, 0, none⟩ (.int .i64 ((rd_T35 t329 (rd t334 x6_1)).f0))).setCell ⟨gb342, 1, none⟩ (.int .i64 ((rd_T35 t329 (rd t334 x6_1)).f1))).setCell ⟨gb342, 2, none⟩ (.int .i64 ((rd_T35 t329 (rd t334 x6_1)).f2))).setCell ⟨gb342, 3, none⟩ (.int .i64 ((rd_T35 t329 (rd t334 x6_1)).f3))) w.heap.size (fun _ => True) (.slice (some ad337) t334.length co14) t334) := ⟨by (with_reducible repeat (first | apply Kd.R_alloc | apply Kd.R_drewN | apply Kd.R_drew)); exact Kd.R_mono (Kd.R_far (p := ⟨gb342, 3, none⟩) (Kd.R_far (p := ⟨gb342, 2, none⟩) (Kd.R_far (p := ⟨gb342, 1, none⟩) (Kd.R_far (p := ⟨gb342, 0, none⟩) (Kd.R_types HO_5.out BK342.out (by decide)) (fun _ hk => hk.2) (.int .i64 ((rd_T35 t329 (rd t334 x6_1)).f0))) (fun _ hk => hk.2) (.int .i64 ((rd_T35 t329 (rd t334 x6_1)).f1))) (fun _ hk => hk.2) (.int .i64 ((rd_T35 t329 (rd t334 x6_1)).f2))) (fun _ hk => hk.2) (.int .i64 ((rd_T35 t329 (rd t334 x6_1)).f3))) (fun _ hk => trivial)⟩
                  have n1_ : Aside0 (Kd.R k35 35 ((((w54.setCell ⟨gb342, 0, none⟩ (.int .i64 ((rd_T35 t329 (rd t334 x6_1)).f0))).setCell ⟨gb342, 1, none⟩ (.int .i64 ((rd_T35 t329 (rd t334 x6_1)).f1))).setCell ⟨gb342, 2, none⟩ (.int .i64 ((rd_T35 t329 (rd t334 x6_1)).f2))).setCell ⟨gb342, 3, none⟩ (.int .i64 ((rd_T35 t329 (rd t334 x6_1)).f3))) w.heap.size (fun k_ => k_ ≠ gb339 ∧ k_ ≠ gb342) (.slice (some ad338) t329.length co10) t329) := ⟨by (with_reducible repeat (first | apply Kd.R_alloc | apply Kd.R_drewN | apply Kd.R_drew)); exact Kd.R_mono (Kd.R_far (p := ⟨gb342, 3, none⟩) (Kd.R_far (p := ⟨gb342, 2, none⟩) (Kd.R_far (p := ⟨gb342, 1, none⟩) (Kd.R_far (p := ⟨gb342, 0, none⟩) (Kd.R_mono HO_334000.out (fun k_ hk => (⟨hk, hk.2⟩ : _ ∧ k_ ≠ gb342))) (fun _ hk => hk.2) (.int .i64 ((rd_T35 t329 (rd t334 x6_1)).f0))) (fun _ hk => hk.2) (.int .i64 ((rd_T35 t329 (rd t334 x6_1)).f1))) (fun _ hk => hk.2) (.int .i64 ((rd_T35 t329 (rd t334 x6_1)).f2))) (fun _ hk => hk.2) (.int .i64 ((rd_T35 t329 (rd t334 x6_1)).f3))) (fun _ hk => ⟨hk.1.1, hk.1.2⟩)⟩
                  have n2_ : Aside0 (((((w54.setCell ⟨gb342, 0, none⟩ (.int .i64 ((rd_T35 t329 (rd t334 x6_1)).f0))).setCell ⟨gb342, 1, none⟩ (.int .i64 ((rd_T35 t329 (rd t334 x6_1)).f1))).setCell ⟨gb342, 2, none⟩ (.int .i64 ((rd_T35 t329 (rd t334 x6_1)).f2))).setCell ⟨gb342, 3, none⟩ (.int .i64 ((rd_T35 t329 (rd t334 x6_1)).f3))).heap[gb333]? = some (.cells #[.slice (some ad338) t329.length co10, .int .i64 t332] 26 (0, 0))) := ⟨by (with_reducible repeat (first | refine blk_drewN ?_ _ | refine blk_drew ?_ | refine blk_alloc ?_ _)); refine blk_far ?_ NB333_342.out _; (with_reducible repeat (first | refine blk_drewN ?_ _ | refine blk_drew ?_ | refine blk_alloc ?_ _)); refine blk_far ?_ NB333_342.out _; (with_reducible repeat (first | refine blk_drewN ?_ _ | refine blk_drew ?_ | refine blk_alloc ?_ _)); refine blk_far ?_ NB333_342.out _; (with_reducible repeat (first | refine blk_drewN ?_ _ | refine blk_drew ?_ | refine blk_alloc ?_ _)); refine blk_far ?_ NB333_342.out _; (with_reducible repeat (first | refine blk_drewN ?_ _ | refine blk_drew ?_ | refine blk_alloc ?_ _)); exact BK333.out⟩
                  have n3_ : Aside0 (((((w54.setCell ⟨gb342, 0, none⟩ (.int .i64 ((rd_T35 t329 (rd t334 x6_1)).f0))).setCell ⟨gb342, 1, none⟩ (.int .i64 ((rd_T35 t329 (rd t334 x6_1)).f1))).setCell ⟨gb342, 2, none⟩ (.int .i64 ((rd_T35 t329 (rd t334 x6_1)).f2))).setCell ⟨gb342, 3, none⟩ (.int .i64 ((rd_T35 t329 (rd t334 x6_1)).f3))).heap[gb339]? = some (.cells #[.int .i64 ((rd_T35 t329 (rd t334 x7_2)).f0), .int .i64 ((rd_T35 t329 (rd t334 x7_2)).f1), .int .i64 ((rd_T35 t329 (rd t334 x7_2)).f2), .int .i64 ((rd_T35 t329 (rd t334 x7_2)).f3)] 35 (0, 0))) := ⟨by (with_reducible repeat (first | refine blk_drewN ?_ _ | refine blk_drew ?_ | refine blk_alloc ?_ _)); refine blk_far ?_ NB339_342.out _; (with_reducible repeat (first | refine blk_drewN ?_ _ | refine blk_drew ?_ | refine blk_alloc ?_ _)); refine blk_far ?_ NB339_342.out _; (with_reducible repeat (first | refine blk_drewN ?_ _ | refine blk_drew ?_ | refine blk_alloc ?_ _)); refine blk_far ?_ NB339_342.out _; (with_reducible repeat (first | refine blk_drewN ?_ _ | refine blk_drew ?_ | refine blk_alloc ?_ _)); refine blk_far ?_ NB339_342.out _; (with_reducible repeat (first | refine blk_drewN ?_ _ | refine blk_drew ?_ | refine blk_alloc ?_ _)); exact BK339.out⟩
                  have n4_ : Aside0 (((((w54.setCell ⟨gb342, 0, none⟩ (.int .i64 ((rd_T35 t329 (rd t334 x6_1)).f0))).setCell ⟨gb342, 1, none⟩ (.int .i64 ((rd_T35 t329 (rd t334 x6_1)).f1))).setCell ⟨gb342, 2, none⟩ (.int .i64 ((rd_T35 t329 (rd t334 x6_1)).f2))).setCell ⟨gb342, 3, none⟩ (.int .i64 ((rd_T35 t329 (rd t334 x6_1)).f3))).heap[gb342]? = some (.cells #[.int .i64 ((rd_T35 t329 (rd t334 x6_1)).f0), .int .i64 ((rd_T35 t329 (rd t334 x6_1)).f1), .int .i64 ((rd_T35 t329 (rd t334 x6_1)).f2), .int .i64 ((rd_T35 t329 (rd t334 x6_1)).f3)] 35 (0, 0))) := ⟨by (with_reducible repeat (first | refine blk_drewN ?_ _ | refine blk_drew ?_ | refine blk_alloc ?_ _)); refine blk_put (cs := #[.int .i64 ((rd_T35 t329 (rd t334 x6_1)).f0), .int .i64 ((rd_T35 t329 (rd t334 x6_1)).f1), .int .i64 ((rd_T35 t329 (rd t334 x6_1)).f2), .int .i64 0]) ?_ 3 _ rfl; (with_reducible repeat (first | refine blk_drewN ?_ _ | refine blk_drew ?_ | refine blk_alloc ?_ _)); refine blk_put (cs := #[.int .i64 ((rd_T35 t329 (rd t334 x6_1)).f0), .int .i64 ((rd_T35 t329 (rd t334 x6_1)).f1), .int .i64 0, .int .i64 0]) ?_ 2 _ rfl; (with_reducible repeat (first | refine blk_drewN ?_ _ | refine blk_drew ?_ | refine blk_alloc ?_ _)); refine blk_put (cs := #[.int .i64 ((rd_T35 t329 (rd t334 x6_1)).f0), .int .i64 0, .int .i64 0, .int .i64 0]) ?_ 1 _ rfl; (with_reducible repeat (first | refine blk_drewN ?_ _ | refine blk_drew ?_ | refine blk_alloc ?_ _)); refine blk_put (cs := #[.int .i64 0, .int .i64 0, .int .i64 0, .int .i64 0]) ?_ 0 _ rfl; (with_reducible repeat (first | refine blk_drewN ?_ _ | refine blk_drew ?_ | refine blk_alloc ?_ _)); exact BK342.out⟩
                  have n5_ : Aside0 (Below w.heap.size w ((((w54.setCell ⟨gb342, 0, none⟩ (.int .i64 ((rd_T35 t329 (rd t334 x6_1)).f0))).setCell ⟨gb342, 1, none⟩ (.int .i64 ((rd_T35 t329 (rd t334 x6_1)).f1))).setCell ⟨gb342, 2, none⟩ (.int .i64 ((rd_T35 t329 (rd t334 x6_1)).f2))).setCell ⟨gb342, 3, none⟩ (.int .i64 ((rd_T35 t329 (rd t334 x6_1)).f3)))) := ⟨by repeat (first | (with_reducible first | exact HB.out | apply below_alloc | apply pw_below_drewN | apply below_drew1 | refine below_set ?_ GE333.out | refine below_set ?_ GE339.out | refine below_set ?_ GE342.out) | exact HB.out)⟩
                  (try clear HO_5)
                  (try clear HO_334000)
                  (try clear BK333)
                  (try clear BK339)
                  (try clear BK342)
                  (try clear HB)
                  generalize ((((w54.setCell ⟨gb342, 0, none⟩ (.int .i64 ((rd_T35 t329 (rd t334 x6_1)).f0))).setCell ⟨gb342, 1, none⟩ (.int .i64 ((rd_T35 t329 (rd t334 x6_1)).f1))).setCell ⟨gb342, 2, none⟩ (.int .i64 ((rd_T35 t329 (rd t334 x6_1)).f2))).setCell ⟨gb342, 3, none⟩ (.int .i64 ((rd_T35 t329 (rd t334 x6_1)).f3))) = w59 at n0_ n1_ n2_ n3_ n4_ n5_ ⊢
                  have HO_5 := n0_
                  have HO_334000 := n1_
                  have BK333 := n2_
                  have BK339 := n3_
                  have BK342 := n4_
                  have HB := n5_
                  clear n0_ n1_ n2_ n3_ n4_ n5_
                  have n0_ := Aside0.mk (Kd.R_drew HO_5.out)
                  have n1_ := Aside0.mk (Kd.R_drew HO_334000.out)
                  have n2_ := Aside0.mk (blk_drew BK333.out)
                  have n3_ := Aside0.mk (blk_drew BK339.out)
                  have n4_ := Aside0.mk (blk_drew BK342.out)
                  have n5_ := Aside0.mk (below_drew1 HB.out)
                  clear HO_5
                  clear HO_334000
                  clear BK333
                  clear BK339
                  clear BK342
                  clear HB
                  have HO_5 := n0_
                  have HO_334000 := n1_
                  have BK333 := n2_
                  have BK339 := n3_
                  have BK342 := n4_
                  have HB := n5_
                  clear n0_ n1_ n2_ n3_ n4_ n5_
                  have p346 : 0 ≤ (x7_2 : Int) := of_decide_eq_true (by first | (with_reducible assumption) | assumption)
                  have q346 : x7_2 < (t334.length : Int) := of_decide_eq_true (by first | (with_reducible assumption) | assumption)
                  obtain ⟨ad346, e346, hx346_0⟩ := Kd.at_int (Kd.R_reads' HO_5.out).2.2 x7_2 p346 q346
                  obtain rfl : ad337 = ad346 := (by injection e346)
                  replace p346 := eq_true p346
                  replace q346 := eq_true q346
                  have p347 : 0 ≤ (x6_1 : Int) := of_decide_eq_true (by first | (with_reducible assumption) | assumption)
                  have q347 : x6_1 < (t334.length : Int) := of_decide_eq_true (by first | (with_reducible assumption) | assumption)
                  obtain ⟨ad347, e347, hx347_0⟩ := Kd.at_int (Kd.R_reads' HO_5.out).2.2 x6_1 p347 q347
                  obtain rfl : ad337 = ad347 := (by injection e347)
                  replace p347 := eq_true p347
                  replace q347 := eq_true q347
                  refine start_ (n := 24) (S := fun w' => w'.cell? ⟨gb339, 0, none⟩ = some (.int .i64 ((rd_T35 t329 (rd t334 x7_2)).f0)) ∧ w'.cell? ⟨gb339, 1, none⟩ = some (.int .i64 ((rd_T35 t329 (rd t334 x7_2)).f1)) ∧ w'.cell? ⟨gb339, 2, none⟩ = some (.int .i64 ((rd_T35 t329 (rd t334 x7_2)).f2)) ∧ w'.cell? ⟨gb339, 3, none⟩ = some (.int .i64 ((rd_T35 t329 (rd t334 x7_2)).f3)) ∧ w'.cell? ⟨gb342, 0, none⟩ = some (.int .i64 ((rd_T35 t329 (rd t334 x6_1)).f0)) ∧ w'.cell? ⟨gb342, 1, none⟩ = some (.int .i64 ((rd_T35 t329 (rd t334 x6_1)).f1)) ∧ w'.cell? ⟨gb342, 2, none⟩ = some (.int .i64 ((rd_T35 t329 (rd t334 x6_1)).f2)) ∧ w'.cell? ⟨gb342, 3, none⟩ = some (.int .i64 ((rd_T35 t329 (rd t334 x6_1)).f3)) ∧ w'.cell? ⟨gb333, 0, none⟩ = some (.slice (some ad338) t329.length co10) ∧ w'.cell? ⟨gb333, 1, none⟩ = some (.int .i64 t332) ∧ w'.cell? (ad337.add (x7_2).toNat) = some (.int .i64 (rd t334 x7_2)) ∧ w'.cell? (ad337.add (x6_1).toNat) = some (.int .i64 (rd t334 x6_1))) (ds := []) #[false, false, false, false, false, false, false, false, false, false, false, false, false, false, false, false, false, false, false, false, false, false, false, false] (by kernel_rfl) rfl rfl ⟨(blk_cell BK339.out 0).trans rfl, (blk_cell BK339.out 1).trans rfl, (blk_cell BK339.out 2).trans rfl, (blk_cell BK339.out 3).trans rfl, (blk_cell BK342.out 0).trans rfl, (blk_cell BK342.out 1).trans rfl, (blk_cell BK342.out 2).trans rfl, (blk_cell BK342.out 3).trans rfl, (blk_cell BK333.out 0).trans rfl, (blk_cell BK333.out 1).trans rfl, hx346_0, hx347_0⟩ (fun hHeld => ?_); refine with_tabW heronrylaw09_TreeOrder.tab14 heronrylaw09_TreeOrder.bits14 (fun HT_ HW_ => ?_)
                  generalize w59.drew = w60 at HO_5 HO_334000 BK333 BK339 BK342 HB hx346_0 hx347_0 hHeld ⊢
                  refine pure_ (i := 0) (N := some 46) (v := ?_) (a' := ?_) #[true, false, false, false, false, false, false, false, false, false, false, false, false, false, false, false, false, false, false, false, false, false, false, false] rfl rfl (any_of HT_.out (by kernel_rfl)) (fun _ _ _ h => h) (Or.inl ⟨by rfl, ?_⟩) ?_ ?_
                  rotate_left
                  ·intro w'
                   go_simp
                   with_reducible rfl
                  rotate_left
                  ·simp only [Act.put, List.setIfInBounds_toArray, List.set_cons_zero, List.set_cons_succ, i64_w, i32_w]
                   rfl
                  refine pure_ (i := 2) (N := some 48) (v := ?_) (a' := ?_) #[true, false, true, false, false, false, false, false, false, false, false, false, false, false, false, false, false, false, false, false, false, false, false, false] rfl rfl (any_of HT_.out (by kernel_rfl)) (fun _ _ _ h => h) (Or.inl ⟨by rfl, ?_⟩) ?_ ?_
                  rotate_left
                  ·intro w'
                   go_simp
                   with_reducible rfl
                  rotate_left
                  ·simp only [Act.put, List.setIfInBounds_toArray, List.set_cons_zero, List.set_cons_succ, i64_w, i32_w]
                   rfl
                  refine take_ (i := 1) (N := some 47) (v := ?_) (a' := ?_) #[true, true, true, false, false, false, false, false, false, false, false, false, false, false, false, false, false, false, false, false, false, false, false, false] rfl rfl (take_ofW HT_.out HW_.out (by kernel_rfl)) (fun _ _ _ h => h) (Or.inl ⟨by rfl, ?_⟩) hHeld ?_ ?_
                  rotate_left
                  ·rintro w' ⟨s0, s1, s2, s3, s4, s5, s6, s7, s8, s9, s10, s11⟩
                   go_simp
                   with_reducible rfl
                  rotate_left
                  ·simp only [Act.put, List.setIfInBounds_toArray, List.set_cons_zero, List.set_cons_succ, i64_w, i32_w]
                   rfl
                  refine take_ (i := 3) (N := some 49) (v := ?_) (a' := ?_) #[true, true, true, true, false, false, false, false, false, false, false, false, false, false, false, false, false, false, false, false, false, false, false, false] rfl rfl (take_ofW HT_.out HW_.out (by kernel_rfl)) (fun _ _ _ h => h) (Or.inl ⟨by rfl, ?_⟩) hHeld ?_ ?_
                  rotate_left
                  ·rintro w' ⟨s0, s1, s2, s3, s4, s5, s6, s7, s8, s9, s10, s11⟩
                   go_simp
                   with_reducible rfl
                  rotate_left
                  ·simp only [Act.put, List.setIfInBounds_toArray, List.set_cons_zero, List.set_cons_succ, i64_w, i32_w]
                   rfl
                  refine pure_ (i := 4) (N := some 50) (v := ?_) (a' := ?_) #[true, true, true, true, true, false, false, false, false, false, false, false, false, false, false, false, false, false, false, false, false, false, false, false] rfl rfl (any_of HT_.out (by kernel_rfl)) (fun _ _ _ h => h) (Or.inl ⟨by rfl, ?_⟩) ?_ ?_
                  rotate_left
                  ·intro w'
                   go_simp
                   with_reducible rfl
                  rotate_left
                  ·simp only [Act.put, List.setIfInBounds_toArray, List.set_cons_zero, List.set_cons_succ, i64_w, i32_w]
                   rfl
                  refine pure_ (i := 5) (N := some 51) (v := ?_) (a' := ?_) #[true, true, true, true, true, true, false, false, false, false, false, false, false, false, false, false, false, false, false, false, false, false, false, false] rfl rfl (any_of HT_.out (by kernel_rfl)) (fun _ _ _ h => h) (Or.inl ⟨by rfl, ?_⟩) ?_ ?_
                  rotate_left
                  ·intro w'
                   go_simp
                   with_reducible rfl
                  rotate_left
                  ·simp only [Act.put, List.setIfInBounds_toArray, List.set_cons_zero, List.set_cons_succ, i64_w, i32_w]
                   rfl
                  refine pure_ (i := 6) (N := some 52) (v := undef) (a' := ?_) #[true, true, true, true, true, true, true, false, false, false, false, false, false, false, false, false, false, false, false, false, false, false, false, false] rfl rfl (any_of HT_.out (by kernel_rfl)) (fun _ _ _ h => h) (Or.inr ⟨by rfl, rfl⟩) ?_ ?_
                  rotate_left
                  ·simp only [Act.put, List.setIfInBounds_toArray, List.set_cons_zero, List.set_cons_succ, i64_w, i32_w]
                   rfl
                  refine pure_ (i := 7) (N := some 53) (v := undef) (a' := ?_) #[true, true, true, true, true, true, true, true, false, false, false, false, false, false, false, false, false, false, false, false, false, false, false, false] rfl rfl (any_of HT_.out (by kernel_rfl)) (fun _ _ _ h => h) (Or.inr ⟨by rfl, rfl⟩) ?_ ?_
                  rotate_left
                  ·simp only [Act.put, List.setIfInBounds_toArray, List.set_cons_zero, List.set_cons_succ, i64_w, i32_w]
                   rfl
                  refine pure_ (i := 8) (N := some 54) (v := undef) (a' := ?_) #[true, true, true, true, true, true, true, true, true, false, false, false, false, false, false, false, false, false, false, false, false, false, false, false] rfl rfl (any_of HT_.out (by kernel_rfl)) (fun _ _ _ h => h) (Or.inr ⟨by rfl, rfl⟩) ?_ ?_
                  rotate_left
                  ·simp only [Act.put, List.setIfInBounds_toArray, List.set_cons_zero, List.set_cons_succ, i64_w, i32_w]
                   rfl
                  refine pure_ (i := 9) (N := some 55) (v := undef) (a' := ?_) #[true, true, true, true, true, true, true, true, true, true, false, false, false, false, false, false, false, false, false, false, false, false, false, false] rfl rfl (any_of HT_.out (by kernel_rfl)) (fun _ _ _ h => h) (Or.inr ⟨by rfl, rfl⟩) ?_ ?_
                  rotate_left
                  ·simp only [Act.put, List.setIfInBounds_toArray, List.set_cons_zero, List.set_cons_succ, i64_w, i32_w]
                   rfl
                  refine pure_ (i := 10) (N := some 56) (v := undef) (a' := ?_) #[true, true, true, true, true, true, true, true, true, true, true, false, false, false, false, false, false, false, false, false, false, false, false, false] rfl rfl (any_of HT_.out (by kernel_rfl)) (fun _ _ _ h => h) (Or.inr ⟨by rfl, rfl⟩) ?_ ?_
                  rotate_left
                  ·simp only [Act.put, List.setIfInBounds_toArray, List.set_cons_zero, List.set_cons_succ, i64_w, i32_w]
                   rfl
                  refine pure_ (i := 11) (N := some 57) (v := ?_) (a' := ?_) #[true, true, true, true, true, true, true, true, true, true, true, true, false, false, false, false, false, false, false, false, false, false, false, false] rfl rfl (any_of HT_.out (by kernel_rfl)) (fun _ _ _ h => h) (Or.inl ⟨by rfl, ?_⟩) ?_ ?_
                  rotate_left
                  ·intro w'
                   go_simp
                   with_reducible rfl
                  rotate_left
                  ·simp only [Act.put, List.setIfInBounds_toArray, List.set_cons_zero, List.set_cons_succ, i64_w, i32_w]
                   rfl
                  refine pure_ (i := 12) (N := some 58) (v := ?_) (a' := ?_) #[true, true, true, true, true, true, true, true, true, true, true, true, true, false, false, false, false, false, false, false, false, false, false, false] rfl rfl (any_of HT_.out (by kernel_rfl)) (fun _ _ _ h => h) (Or.inl ⟨by rfl, ?_⟩) ?_ ?_
                  rotate_left
                  ·intro w'
                   go_simp
                   with_reducible rfl
                  rotate_left
                  ·simp only [Act.put, List.setIfInBounds_toArray, List.set_cons_zero, List.set_cons_succ, i64_w, i32_w]
                   rfl
                  refine pure_ (i := 14) (N := some 60) (v := ?_) (a' := ?_) #[true, true, true, true, true, true, true, true, true, true, true, true, true, false, true, false, false, false, false, false, false, false, false, false] rfl rfl (any_of HT_.out (by kernel_rfl)) (fun _ _ _ h => h) (Or.inl ⟨by rfl, ?_⟩) ?_ ?_
                  rotate_left
                  ·intro w'
                   go_simp
                   with_reducible rfl
                  rotate_left
                  ·simp only [Act.put, List.setIfInBounds_toArray, List.set_cons_zero, List.set_cons_succ, i64_w, i32_w]
                   rfl
                  refine pure_ (i := 15) (N := some 61) (v := ?_) (a' := ?_) #[true, true, true, true, true, true, true, true, true, true, true, true, true, false, true, true, false, false, false, false, false, false, false, false] rfl rfl (any_of HT_.out (by kernel_rfl)) (fun _ _ _ h => h) (Or.inl ⟨by rfl, ?_⟩) ?_ ?_
                  rotate_left
                  ·intro w'
                   go_simp
                   with_reducible rfl
                  rotate_left
                  ·simp only [Act.put, List.setIfInBounds_toArray, List.set_cons_zero, List.set_cons_succ, i64_w, i32_w]
                   rfl
                  refine pure_ (i := 16) (N := some 62) (v := ?_) (a' := ?_) #[true, true, true, true, true, true, true, true, true, true, true, true, true, false, true, true, true, false, false, false, false, false, false, false] rfl rfl (any_of HT_.out (by kernel_rfl)) (fun _ _ _ h => h) (Or.inl ⟨by rfl, ?_⟩) ?_ ?_
                  rotate_left
                  ·intro w'
                   go_simp
                   with_reducible rfl
                  rotate_left
                  ·simp only [Act.put, List.setIfInBounds_toArray, List.set_cons_zero, List.set_cons_succ, i64_w, i32_w]
                   rfl
                  refine pure_ (i := 18) (N := some 64) (v := ?_) (a' := ?_) #[true, true, true, true, true, true, true, true, true, true, true, true, true, false, true, true, true, false, true, false, false, false, false, false] rfl rfl (any_of HT_.out (by kernel_rfl)) (fun _ _ _ h => h) (Or.inl ⟨by rfl, ?_⟩) ?_ ?_
                  rotate_left
                  ·intro w'
                   go_simp
                   with_reducible rfl
                  rotate_left
                  ·simp only [Act.put, List.setIfInBounds_toArray, List.set_cons_zero, List.set_cons_succ, i64_w, i32_w]
                   rfl
                  refine pure_ (i := 19) (N := some 65) (v := ?_) (a' := ?_) #[true, true, true, true, true, true, true, true, true, true, true, true, true, false, true, true, true, false, true, true, false, false, false, false] rfl rfl (any_of HT_.out (by kernel_rfl)) (fun _ _ _ h => h) (Or.inl ⟨by rfl, ?_⟩) ?_ ?_
                  rotate_left
                  ·intro w'
                   go_simp
                   with_reducible rfl
                  rotate_left
                  ·simp only [Act.put, List.setIfInBounds_toArray, List.set_cons_zero, List.set_cons_succ, i64_w, i32_w]
                   rfl
                  refine pure_ (i := 20) (N := some 66) (v := ?_) (a' := ?_) #[true, true, true, true, true, true, true, true, true, true, true, true, true, false, true, true, true, false, true, true, true, false, false, false] rfl rfl (any_of HT_.out (by kernel_rfl)) (fun _ _ _ h => h) (Or.inl ⟨by rfl, ?_⟩) ?_ ?_
                  rotate_left
                  ·intro w'
                   go_simp
                   with_reducible rfl
                  rotate_left
                  ·simp only [Act.put, List.setIfInBounds_toArray, List.set_cons_zero, List.set_cons_succ, i64_w, i32_w]
                   rfl
                  refine take_ (i := 13) (N := some 59) (v := ?_) (a' := ?_) #[true, true, true, true, true, true, true, true, true, true, true, true, true, true, true, true, true, false, true, true, true, false, false, false] rfl rfl (take_ofW HT_.out HW_.out (by kernel_rfl)) (fun _ _ _ h => h) (Or.inl ⟨by rfl, ?_⟩) hHeld ?_ ?_
                  rotate_left
                  ·rintro w' ⟨s0, s1, s2, s3, s4, s5, s6, s7, s8, s9, s10, s11⟩
                   go_simp
                   with_reducible rfl
                  rotate_left
                  ·simp only [Act.put, List.setIfInBounds_toArray, List.set_cons_zero, List.set_cons_succ, i64_w, i32_w]
                   rfl
                  refine take_ (i := 17) (N := some 63) (v := ?_) (a' := ?_) #[true, true, true, true, true, true, true, true, true, true, true, true, true, true, true, true, true, true, true, true, true, false, false, false] rfl rfl (take_ofW HT_.out HW_.out (by kernel_rfl)) (fun _ _ _ h => h) (Or.inl ⟨by rfl, ?_⟩) hHeld ?_ ?_
                  rotate_left
                  ·rintro w' ⟨s0, s1, s2, s3, s4, s5, s6, s7, s8, s9, s10, s11⟩
                   go_simp
                   with_reducible rfl
                  rotate_left
                  ·simp only [Act.put, List.setIfInBounds_toArray, List.set_cons_zero, List.set_cons_succ, i64_w, i32_w]
                   rfl
                  refine take_ (i := 21) (N := some 67) (v := ?_) (a' := ?_) #[true, true, true, true, true, true, true, true, true, true, true, true, true, true, true, true, true, true, true, true, true, true, false, false] rfl rfl (take_ofW HT_.out HW_.out (by kernel_rfl)) (fun _ _ _ h => h) (Or.inl ⟨by rfl, ?_⟩) hHeld ?_ ?_
                  rotate_left
                  ·rintro w' ⟨s0, s1, s2, s3, s4, s5, s6, s7, s8, s9, s10, s11⟩
                   go_simp
                   with_reducible rfl
                  rotate_left
                  ·simp only [Act.put, List.setIfInBounds_toArray, List.set_cons_zero, List.set_cons_succ, i64_w, i32_w]
                   rfl
                  refine one_ (i := 22) (N := some 68) #[true, true, true, true, true, true, true, true, true, true, true, true, true, true, true, true, true, true, true, true, true, true, true, false] rfl rfl (one_of HT_.out (by kernel_rfl)) (by decide) (fun K hK => ?_)
                  refine goes_ Try.func12 (by kernel_rfl) rfl #[.agg #[.slice (some ad338) t329.length co10, .int .i64 t332], .int .i64 (rd t334 x7_2), .int .i64 (rd t334 x6_1)] (by rfl) rfl rfl (by (try simp only [List.map_toArray, List.map_cons, List.map_nil]); first | done | rfl | (simp only [List.length_drop, List.length_take]; rfl)) ?_
                  with_reducible refine (tree_Within.calls _ _ t329 t332 (rd t334 x7_2) (rd t334 x6_1) false _ ?side1 ?side2 A44.out).mono ?_
                  (case side1 => repeat (first | exact (Kd.R_reads' HO_334000.out).2.2 | (with_reducible refine Kd.C_alloc ?_ _) | (with_reducible refine Kd.C_drewN ?_ _) | (with_reducible refine Kd.C_drew ?_)))
                  (case side2 => exact (Kd.R_reads' HO_334000.out).2.1)
                  rintro e w61 ⟨rfl, hb⟩
                  have HS10_ := (hb.cell (World.block_lt_of_cell? _ _ (hHeld.2.2.2.2.2.2.2.2.2.2.1))).trans (hHeld.2.2.2.2.2.2.2.2.2.2.1)
                  have HS11_ := (hb.cell (World.block_lt_of_cell? _ _ (hHeld.2.2.2.2.2.2.2.2.2.2.2))).trans (hHeld.2.2.2.2.2.2.2.2.2.2.2)
                  refine ⟨_, rfl, ?_⟩
                  have n0_ := Aside0.mk (Kd.R_below (by (with_reducible repeat (first | apply Kd.R_alloc | apply Kd.R_drewN | apply Kd.R_drew)); exact HO_5.out) hb)
                  have n1_ := Aside0.mk (Kd.R_below (by (with_reducible repeat (first | apply Kd.R_alloc | apply Kd.R_drewN | apply Kd.R_drew)); exact HO_334000.out) hb)
                  have n2_ := Aside0.mk (blk_below (g := gb333) (o := .cells #[.slice (some ad338) t329.length co10, .int .i64 t332] 26 (0, 0)) (by (with_reducible repeat (first | refine blk_drewN ?_ _ | refine blk_drew ?_ | refine blk_alloc ?_ _)); exact BK333.out) hb)
                  have n3_ := Aside0.mk (blk_below (g := gb339) (o := .cells #[.int .i64 ((rd_T35 t329 (rd t334 x7_2)).f0), .int .i64 ((rd_T35 t329 (rd t334 x7_2)).f1), .int .i64 ((rd_T35 t329 (rd t334 x7_2)).f2), .int .i64 ((rd_T35 t329 (rd t334 x7_2)).f3)] 35 (0, 0)) (by (with_reducible repeat (first | refine blk_drewN ?_ _ | refine blk_drew ?_ | refine blk_alloc ?_ _)); exact BK339.out) hb)
                  have n4_ := Aside0.mk (blk_below (g := gb342) (o := .cells #[.int .i64 ((rd_T35 t329 (rd t334 x6_1)).f0), .int .i64 ((rd_T35 t329 (rd t334 x6_1)).f1), .int .i64 ((rd_T35 t329 (rd t334 x6_1)).f2), .int .i64 ((rd_T35 t329 (rd t334 x6_1)).f3)] 35 (0, 0)) (by (with_reducible repeat (first | refine blk_drewN ?_ _ | refine blk_drew ?_ | refine blk_alloc ?_ _)); exact BK342.out) hb)
                  have n5_ := Aside0.mk (below_step (by repeat (first | (with_reducible first | exact HB.out | apply below_alloc | apply pw_below_drewN | apply below_drew1 | refine below_set ?_ GE333.out | refine below_set ?_ GE339.out | refine below_set ?_ GE342.out) | exact HB.out)) hb)
                  clear HO_5
                  clear HO_334000
                  clear BK333
                  clear BK339
                  clear BK342
                  clear HB
                  have HO_5 := n0_
                  have HO_334000 := n1_
                  have BK333 := n2_
                  have BK339 := n3_
                  have BK342 := n4_
                  have HB := n5_
                  clear n0_ n1_ n2_ n3_ n4_ n5_
                  (try clear hb)
                  (try clear hb2)
                  (try clear hk)
                  (try clear hi)
                  refine hK.out _ _ ⟨(blk_cell BK339.out 0).trans rfl, (blk_cell BK339.out 1).trans rfl, (blk_cell BK339.out 2).trans rfl, (blk_cell BK339.out 3).trans rfl, (blk_cell BK342.out 0).trans rfl, (blk_cell BK342.out 1).trans rfl, (blk_cell BK342.out 2).trans rfl, (blk_cell BK342.out 3).trans rfl, (blk_cell BK333.out 0).trans rfl, (blk_cell BK333.out 1).trans rfl, HS10_, HS11_⟩ (fun hHeld => ?_)
                  clear hK K
                  refine norm_ (a' := ?_) ?_ ?_
                  rotate_left
                  ·show Act.put _ (some 68) _ = _
                   simp only [Act.put, List.setIfInBounds_toArray, List.set_cons_zero, List.set_cons_succ, i64_w, i32_w]
                   rfl
                  refine pure_ (i := 23) (N := some 69) (v := ?_) (a' := ?_) #[true, true, true, true, true, true, true, true, true, true, true, true, true, true, true, true, true, true, true, true, true, true, true, true] rfl rfl (any_of HT_.out (by kernel_rfl)) (fun _ _ _ h => h) (Or.inl ⟨by rfl, ?_⟩) ?_ ?_
                  rotate_left
                  ·intro w'
                   go_simp
                   with_reducible rfl
                  rotate_left
                  ·simp only [Act.put, List.setIfInBounds_toArray, List.set_cons_zero, List.set_cons_succ, i64_w, i32_w]
                   rfl
                  refine done_ (done_of HT_.out (by kernel_rfl)) ?_
                  try go_wp2
                  go_roundg k2
                  case measure => have := HK1.out; have := HK2.out; omega
                  case rel => exact ⟨(wrap64 (x7_2 + 1)), (by first | rfl | (simp; done) | (simp [*]; done)), H', ⟨by have := HK1.out; have := HK2.out; omega⟩, ⟨by (with_reducible repeat (first | apply Kd.R_alloc | apply Kd.R_drewN | apply Kd.R_drew)); exact HO_5.out⟩, ⟨by (with_reducible repeat (first | apply Kd.R_alloc | apply Kd.R_drewN | apply Kd.R_drew)); exact Kd.R_mono HO_334000.out (fun _ hk => trivial)⟩, ⟨by (with_reducible repeat (first | refine blk_drewN ?_ _ | refine blk_drew ?_ | refine blk_alloc ?_ _)); exact BK333.out⟩, ⟨by repeat (first | (with_reducible first | exact HB.out | apply below_alloc | apply pw_below_drewN | apply below_drew1 | refine below_set ?_ GE333.out | refine below_set ?_ GE339.out | refine below_set ?_ GE342.out) | exact HB.out)⟩⟩
               ·rw [if_neg c23] at H
                exact absurd H (by simp)
              ·rw [if_neg c22] at H
               exact absurd H (by simp)
             ·rw [if_neg c21] at H
              exact absurd H (by simp)
            ·rw [if_neg c20] at H
             exact absurd H (by simp)
           ·rw [if_neg c19] at H
            exact absurd H (by simp)
          ·rw [if_neg c18] at H
           exact absurd H (by simp)
         ·rw [if_neg c17] at H
          exact absurd H (by simp)
        ·rw [if_neg c16] at H
         exact absurd H (by simp)
       ·rw [if_neg c15] at H
        have c15b0 : decide (x7_2 < x6_1) = false := decide_eq_false c15
        clear c15
        have H' := Aside0.mk H
        clear H
        go_wp2
        go_roundg k2
        case measure => have := HK1.out; have := HK2.out; omega
        case rel => exact ⟨(wrap64 (x6_1 + 1)), (by first | rfl | (simp; done) | (simp [*]; done)), H', ⟨by have := HK1.out; have := HK2.out; omega⟩, ⟨by (with_reducible repeat (first | apply Kd.R_alloc | apply Kd.R_drewN | apply Kd.R_drew)); exact HO_5.out⟩, ⟨by (with_reducible repeat (first | apply Kd.R_alloc | apply Kd.R_drewN | apply Kd.R_drew)); exact HO_334000.out⟩, ⟨by (with_reducible repeat (first | refine blk_drewN ?_ _ | refine blk_drew ?_ | refine blk_alloc ?_ _)); exact BK333.out⟩, ⟨by repeat (first | (with_reducible first | exact HB.out | apply below_alloc | apply pw_below_drewN | apply below_drew1 | refine below_set ?_ GE333.out) | exact HB.out)⟩⟩
    ·rw [if_neg c13] at H
     have c13b0 : decide (x6_1 < (t334.length : Int)) = false := decide_eq_false c13
     clear c13
     obtain rfl := Option.some.inj H
     obtain ⟨Ao62, co62, eo62⟩ := Kd.R_slice HO_5.out
     subst eo62
     go_wp2
     go_ret
     exact ⟨by first | rfl | (simp [errW_none, errW_some] <;> rfl) | (simp [*, errW_none, errW_some] <;> rfl), by repeat (first | (with_reducible first | exact HB.out | apply below_alloc | apply pw_below_drewN | apply below_drew1 | refine below_set ?_ GE333.out) | exact HB.out)⟩

end Go.Proofs.Ytnlnglfjehohpaa.Q
