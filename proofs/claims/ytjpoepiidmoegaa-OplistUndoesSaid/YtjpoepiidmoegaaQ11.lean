-- Cut to what one claim reaches, out of what the kit's print laid for this seat (wip/tools/trim.py).
import Derived.Test.YtjpoepiidmoegaaQ0
import Derived.Test.YtjpoepiidmoegaaQ3
import Derived.Test.YtjpoepiidmoegaaQ5
import Derived.Test.YtjpoepiidmoegaaQ9
import Derived.Test.YtjpoepiidmoegaaQ10
import Derived.Test.YtjpoepiidmoegaaOE
import Derived.Test.YtjpoepiidmoegaaOU
namespace Go.Proofs.Ytjpoepiidmoegaa.Q
open Go.RowKit Go.Proofs.YtjpoepiidmoegaaW.PrintWords Go.Proofs.YtjpoepiidmoegaaW.PrintLast Go.Proofs.YtjpoepiidmoegaaW.PrintMore
attribute [local go_sem] max2_int min2_int max_two min_two max_three min_three max_four min_four   -- for this text's walks alone
set_option linter.unusedVariables false
set_option linter.unusedSimpArgs false

mutual
def heronrylaw15_OplistUndoes.j0 : Nat → List (S74) → List Int → Bool → Bool → Option (Bool)
 | 0, _, _, _, _ => none
 | k + 1, x0, x1, x5, x26 => if x26 = true then (some x5) else ((heronrylaw15_grown.f k x0).bind fun t263 => ((oplist_Undo.f t263 x1).bind fun t267 => ((oplist_Sane.f t263).bind fun t271 => (if t271 = true then ((oplist_Sane.f t267).bind fun t272 => (if t272 = true then (if (t267.length : Int) < (t263.length : Int) then (none) else (heronrylaw15_OplistUndoes.j1 k x1 x5 (decide ((t267.length : Int) > 256)) t267)) else (none))) else (none)))))
def heronrylaw15_OplistUndoes.j1 : Nat → List Int → Bool → Bool → List (S33) → Option (Bool)
 | 0, _, _, _, _ => none
 | k + 1, x1, x5, x55, x271000 => if x55 = true then (none) else (heronrylaw15_OplistUndoes.l0 k x1 x5 0 x271000)
def heronrylaw15_OplistUndoes.l0 : Nat → List Int → Bool → Int → List (S33) → Option (Bool)
 | 0, _, _, _, _ => none
 | k + 1, x1, x5, x8, x271000 => if x8 < (x1.length : Int) then (if 0 ≤ x8 then ((oplist_Open.f x271000 (rd x1 x8)).bind fun t274 => (if (t274.length : Int) = 0 then (heronrylaw15_OplistUndoes.l0 k x1 x5 (wrap64 (x8 + 1)) x271000) else (none))) else (none)) else (heronrylaw15_OplistUndoes.l1 k x5 0 x271000)
def heronrylaw15_OplistUndoes.l1 : Nat → Bool → Int → List (S33) → Option (Bool)
 | 0, _, _, _ => none
 | k + 1, x5, x9, x271000 => if x9 < 4 then (heronrylaw15_OplistUndoes.l2 k x5 x9 ([] : List Int) 0 x271000) else (some x5)
def heronrylaw15_OplistUndoes.l2 : Nat → Bool → Int → List Int → Int → List (S33) → Option (Bool)
 | 0, _, _, _, _, _ => none
 | k + 1, x5, x9, x10, x11, x271000 => if x11 < 8 then ((oplist_Open.f x271000 x11).bind fun t277 => (heronrylaw15_OplistUndoes.l3 k x5 x9 x10 x11 t277 0 x271000)) else ((oplist_Net.f k x271000 x9).bind fun bt285 => ((span_Sum.f x10).bind fun bt287 => (if bt285.1 = bt287.1 then (if bt285.2 = bt287.2 then (heronrylaw15_OplistUndoes.l1 k x5 (wrap64 (x9 + 1)) x271000) else (none)) else (none))))
def heronrylaw15_OplistUndoes.l3 : Nat → Bool → Int → List Int → Int → List (S33) → Int → List (S33) → Option (Bool)
 | 0, _, _, _, _, _, _, _ => none
 | k + 1, x5, x9, x10, x11, x12, x13, x271000 => if x13 < (x12.length : Int) then (if 0 ≤ x13 then (if ((rd_T33 x12 x13).f1) = x9 then (if x10.length < 17592186044416 then (heronrylaw15_OplistUndoes.l3 k x5 x9 (x10 ++ [(rd_T33 x12 x13).f2]) x11 x12 (wrap64 (x13 + 1)) x271000) else (none)) else (heronrylaw15_OplistUndoes.l3 k x5 x9 x10 x11 x12 (wrap64 (x13 + 1)) x271000)) else (none)) else (heronrylaw15_OplistUndoes.l2 k x5 x9 x10 (wrap64 (x11 + 1)) x271000)
end
def heronrylaw15_OplistUndoes.f (k : Nat) (l0 : List (S74)) (l1 : List Int) : Option (Bool) := (heronrylaw15_awake.f k).bind fun t262 => (if (l0.length : Int) > 200 then (heronrylaw15_OplistUndoes.j0 k l0 l1 t262 true) else (heronrylaw15_OplistUndoes.j0 k l0 l1 t262 (decide ((l1.length : Int) > 20))))
def heronrylaw15_OplistUndoes.T11 : Bool × List (List Nat × List Nat) := (true, [([], []), ([], []), ([], []), ([1, 2], [1, 2]), ([3], [3]), ([0, 4], [0, 4]), ([5], [5]), ([6], [6])])
def heronrylaw15_OplistUndoes.B11 : List Nat := [0, 0, 0, 6, 14, 31, 63, 127]
theorem heronrylaw15_OplistUndoes.tab11 : rtab .any (opsOf Try.f5 11) = heronrylaw15_OplistUndoes.T11 := by kernel_rfl
theorem heronrylaw15_OplistUndoes.bits11 : waitsOk heronrylaw15_OplistUndoes.T11.2 heronrylaw15_OplistUndoes.B11 = true := by kernel_rfl
set_option maxHeartbeats 8000000 in
set_option maxRecDepth 100000 in
theorem heronrylaw15_OplistUndoes.calls (k : Nat) (A0 : Option Addr) (c0 : Nat) (l0 : List (S74)) (A1 : Option Addr) (c1 : Nat) (l1 : List Int) (r : Bool) (w : World) (hT_ : Aside0 (r = true)) (hr0 : Kd.C k74 w A0 l0.length l0) (hc0 : l0.length ≤ c0) (hr1 : Kd.C (Kd.int .i64) w A1 l1.length l1) (hc1 : l1.length ≤ c1) (h : heronrylaw15_OplistUndoes.f k l0 l1 = some r) :
  Calls Try.prog 5 #[.slice A0 l0.length c0, .slice A1 l1.length c1] w fun e w' => e = .returned (.bool r) ∧ Below w.heap.size w w' := by
 have hu26 := Try.underlying26
 have HR0 := Aside0.mk hr0
 have HC0 := Aside0.mk hc0
 clear hr0 hc0
 have HR1 := Aside0.mk hr1
 have HC1 := Aside0.mk hc1
 clear hr1 hc1
 have HB := Aside0.mk (Below.refl w.heap.size w)
 have H : ((heronrylaw15_awake.f k).bind fun t262 => (if (l0.length : Int) > 200 then (heronrylaw15_OplistUndoes.j0 k l0 l1 t262 true) else (heronrylaw15_OplistUndoes.j0 k l0 l1 t262 (decide ((l1.length : Int) > 20))))) = some r := h
 clear h
 replace H := Option.bind_eq_some_iff.mp H
 obtain ⟨t262, A30, H⟩ := H
 replace H : (if (l0.length : Int) > 200 then (heronrylaw15_OplistUndoes.j0 k l0 l1 t262 true) else (heronrylaw15_OplistUndoes.j0 k l0 l1 t262 (decide ((l1.length : Int) > 20)))) = some r := H
 have A3 := Aside0.mk A30
 clear A30
 have HC4 := Aside0.mk H
 clear H
 go_enter Try.func5, Try.ntmps5
 go_upto_region 2 with (first | ((with_reducible refine gate_callee (f := 8) rfl ?_); refine goesL_ (some 18) rfl rfl Try.func8 (by kernel_rfl) rfl #[] rfl (by (try simp only [List.map_toArray, List.map_cons, List.map_nil]); first | done | rfl | (simp only [List.length_drop, List.length_take]; rfl)) ?_; (with_reducible refine (heronrylaw15_awake.calls k  t262 _ A3.out).mono ?_); rintro e w5 ⟨rfl, hb⟩; refine ⟨_, rfl, ?_⟩; have n0_ := Aside0.mk (below_step (by repeat (first | (with_reducible first | exact HB.out | apply below_alloc | apply pw_below_drewN | apply below_drew1) | exact HB.out)) hb); clear HB; have HB := n0_; clear n0_; (try clear hb); (try clear hb2); (try clear hk); (try clear hi)))
 (try simp only [Act.put, List.setIfInBounds_toArray, List.set_cons_zero, List.set_cons_succ])
 go_cut [26] (fun v26 wc => ∃ (kq : Nat) (x26_3 : Bool), v26 = .bool x26_3 ∧ Aside0 (heronrylaw15_OplistUndoes.j0 kq l0 l1 t262 x26_3 = some r) ∧ Aside0 (kq ≤ k) ∧ Aside0 (Below w.heap.size w wc))
 case first =>
  have H := HC4.out
  clear HC4
  by_cases c6 : (l0.length : Int) > 200
  ·rw [if_pos c6] at H
   have c6b0 : decide (200 < (l0.length : Int)) = true := decide_eq_true c6
   have c6b1 : decide (200 < l0.length) = true := decide_eq_true (by omega)
   clear c6
   (first | rw [c6b0] | (simp only [i64_w, i32_w]; rw [c6b0]) | skip)
   have H' := Aside0.mk H
   clear H
   go_wp2
   go_meet
   case rel => exact ⟨_, (true), (by first | rfl | (simp; done) | (simp [*]; done)), H', ⟨by first | omega | exact Nat.le_refl _⟩, ⟨by repeat (first | (with_reducible first | exact HB.out | apply below_alloc | apply pw_below_drewN | apply below_drew1) | exact HB.out)⟩⟩
  ·rw [if_neg c6] at H
   have c6b0 : decide (200 < (l0.length : Int)) = false := decide_eq_false c6
   have c6b1 : decide (200 < l0.length) = false := decide_eq_false (by omega)
   clear c6
   (first | rw [c6b0] | (simp only [i64_w, i32_w]; rw [c6b0]) | skip)
   have H' := Aside0.mk H
   clear H
   go_wp2
   go_meet
   case rel => exact ⟨_, (decide ((l1.length : Int) > 20)), (by first | rfl | (simp; done) | (simp [*]; done)), H', ⟨by first | omega | exact Nat.le_refl _⟩, ⟨by repeat (first | (with_reducible first | exact HB.out | apply below_alloc | apply pw_below_drewN | apply below_drew1) | exact HB.out)⟩⟩
 case rest =>
  clear HC4
  try clear c1
  try clear p2
  try clear c5
  try clear c6
  try clear c6b0
  try clear c6b1
  obtain ⟨kq, x26_3, rfl, HA, HJ3, HB⟩ := hcut
  cases kq with
  | zero => exact absurd HA.out (by simp [heronrylaw15_OplistUndoes.j0])
  | succ kj3 =>
   have H := HA.out
   clear HA
   simp only [heronrylaw15_OplistUndoes.j0] at H
   by_cases c7 : x26_3 = true
   ·subst c7
    have H1 : (some t262) = some r := by rw [if_pos rfl] at H; exact H
    clear H
    have H := H1
    clear H1
    obtain rfl := Option.some.inj H
    go_wp2
    go_ret
    exact ⟨by first | rfl | (simp [errW_none, errW_some] <;> rfl) | (simp [*, errW_none, errW_some] <;> rfl), by repeat (first | (with_reducible first | exact HB.out | apply below_alloc | apply pw_below_drewN | apply below_drew1) | exact HB.out)⟩
   ·replace c7 := Bool.eq_false_iff.mpr c7
    subst c7
    have H1 : ((heronrylaw15_grown.f kj3 l0).bind fun t263 => ((oplist_Undo.f t263 l1).bind fun t267 => ((oplist_Sane.f t263).bind fun t271 => (if t271 = true then ((oplist_Sane.f t267).bind fun t272 => (if t272 = true then (if (t267.length : Int) < (t263.length : Int) then (none) else (heronrylaw15_OplistUndoes.j1 kj3 l1 t262 (decide ((t267.length : Int) > 256)) t267)) else (none))) else (none))))) = some r := by rw [if_neg (show ¬ (false = true) by decide)] at H; exact H
    clear H
    have H := H1
    clear H1
    replace H := Option.bind_eq_some_iff.mp H
    obtain ⟨t263, A80, H⟩ := H
    replace H : ((oplist_Undo.f t263 l1).bind fun t267 => ((oplist_Sane.f t263).bind fun t271 => (if t271 = true then ((oplist_Sane.f t267).bind fun t272 => (if t272 = true then (if (t267.length : Int) < (t263.length : Int) then (none) else (heronrylaw15_OplistUndoes.j1 kj3 l1 t262 (decide ((t267.length : Int) > 256)) t267)) else (none))) else (none)))) = some r := H
    have A8 := Aside0.mk A80
    clear A80
    replace H := Option.bind_eq_some_iff.mp H
    obtain ⟨t267, A90, H⟩ := H
    replace H : ((oplist_Sane.f t263).bind fun t271 => (if t271 = true then ((oplist_Sane.f t267).bind fun t272 => (if t272 = true then (if (t267.length : Int) < (t263.length : Int) then (none) else (heronrylaw15_OplistUndoes.j1 kj3 l1 t262 (decide ((t267.length : Int) > 256)) t267)) else (none))) else (none))) = some r := H
    have A9 := Aside0.mk A90
    clear A90
    have HC10 := Aside0.mk H
    clear H
    go_upto_region 6 with (first | ((with_reducible refine gate_callee (f := 9) rfl ?_); refine goesL_ (some 29) rfl rfl Try.func9 (by kernel_rfl) rfl #[.slice A0 l0.length c0] rfl (by (try simp only [List.map_toArray, List.map_cons, List.map_nil]); first | done | rfl | (simp only [List.length_drop, List.length_take]; rfl)) ?_; (with_reducible refine (heronrylaw15_grown.calls kj3 _ _ l0 t263 _ ?side1 ?side2 A8.out).mono ?_); (case side1 => repeat (first | exact (Kd.C_below HR0.out HB.out) | (with_reducible refine Kd.C_alloc ?_ _) | (with_reducible refine Kd.C_drewN ?_ _) | (with_reducible refine Kd.C_drew ?_))); (case side2 => exact HC0.out); rintro e w11 ⟨v264, rfl, ho0, hb⟩; refine ⟨_, rfl, ?_⟩; have n0_ := Aside0.mk (Kd.R_lower ho0 (below_size (by repeat (first | (with_reducible first | exact HB.out | apply below_alloc | apply pw_below_drewN | apply below_drew1) | exact HB.out)))); have n1_ := Aside0.mk (below_step (by repeat (first | (with_reducible first | exact HB.out | apply below_alloc | apply pw_below_drewN | apply below_drew1) | exact HB.out)) hb); clear HB; have HO265 := n0_; have HB := n1_; clear n0_ n1_; (try clear hb); (try clear hb2); (try clear hk); (try clear hi); (try clear ho0)) | ((with_reducible refine gate_dst (N := 6) rfl ?_); (try (refine gate_guard (by rfl) ?_; dsimp only)); refine box_event ?hg (N := 6) ?hd (cs := #[.slice none 0 0]) (t := 26) ?hr ?_; (case hd => rfl); (case hg => rfl); (case hr => first | (go_simp; done) | (go_simp; rfl)); intro gb266 hg w12 hbox hb; have n0_ := Aside0.mk (Kd.R_below (by (with_reducible repeat (first | apply Kd.R_alloc | apply Kd.R_drewN | apply Kd.R_drew)); exact HO265.out) hb); have n1_ := Aside0.mk (below_step (by repeat (first | (with_reducible first | exact HB.out | apply below_alloc | apply pw_below_drewN | apply below_drew1) | exact HB.out)) hb); have n2_ := Aside0.mk (hbox); have n3_ := Aside0.mk ((by rw [hg]; exact (below_size (by repeat (first | (with_reducible first | exact HB.out | apply below_alloc | apply pw_below_drewN | apply below_drew1) | exact HB.out))) : w.heap.size ≤ gb266)); have n4_ := Aside0.mk ((by rw [hg]; exact (below_size (by repeat (first | (with_reducible first | exact HB.out | apply below_alloc | apply pw_below_drewN | apply below_drew1) | exact HB.out))) : w.heap.size ≤ gb266)); clear HO265; clear HB; have HO265 := n0_; have HB := n1_; have BK266 := n2_; have GW266 := n3_; have GE266 := n4_; clear n0_ n1_ n2_ n3_ n4_; clear hb hbox hg; obtain ⟨Ao13, co13, eo13⟩ := Kd.R_slice HO265.out; subst eo13; have hcz14_0 : w12.cell? ⟨gb266, 0, none⟩ = some (.slice none 0 0) := (blk_cell BK266.out 0).trans rfl; have hfz14_0 := blk_frozen BK266.out 0) | ((with_reducible refine gate_callee (f := 12) rfl ?_); refine goesL_ (some 32) rfl rfl Try.func12 (by kernel_rfl) rfl #[.agg #[.slice Ao13 t263.length co13], .slice A1 l1.length c1] rfl (by (try simp only [List.map_toArray, List.map_cons, List.map_nil]); first | done | rfl | (simp only [List.length_drop, List.length_take]; rfl)) ?_; (with_reducible refine (oplist_Undo.calls _ _ t263 _ _ l1 t267 _ ?side1 ?side2 ?side3 ?side4 A9.out).mono ?_); (case side1 => refine (Kd.R_reads' (e := 33) (base := w.heap.size) (ok := fun k_ => True) (n := t263.length) (c := co13) ?_).2.2; exact (by (with_reducible repeat (first | apply Kd.R_alloc | apply Kd.R_drewN | apply Kd.R_drew)); exact (Kd.R_mono (Kd.R_far (p := ⟨gb266, 0, none⟩) (Kd.R_types HO265.out BK266.out (by decide)) (fun _ hk => hk.2) (.slice Ao13 t263.length co13)) (fun _ h_ => h_.1)))); (case side2 => exact (Kd.R_reads' HO265.out).2.1); (case side3 => exact Kd.C_below HR1.out (by repeat (first | (with_reducible first | exact HB.out | apply below_alloc | apply pw_below_drewN | apply below_drew1 | refine below_set ?_ GE266.out) | exact HB.out))); (case side4 => exact HC1.out); rintro e w15 ⟨v268, rfl, ho0, hb⟩; refine ⟨_, rfl, ?_⟩; have n0_ := Aside0.mk (Kd.R_elder' (by (with_reducible repeat (first | apply Kd.R_alloc | apply Kd.R_drewN | apply Kd.R_drew)); exact (Kd.R_mono (Kd.R_far (p := ⟨gb266, 0, none⟩) (Kd.R_types HO265.out BK266.out (by decide)) (fun _ hk => hk.2) (.slice Ao13 t263.length co13)) (fun _ h_ => h_.1))) (Kd.R_base ho0) hb); have n1_ := Aside0.mk (Kd.R_lower (Kd.R_new' ho0 (Kd.R_lt (by (with_reducible repeat (first | apply Kd.R_alloc | apply Kd.R_drewN | apply Kd.R_drew)); exact (Kd.R_mono (Kd.R_far (p := ⟨gb266, 0, none⟩) (Kd.R_types HO265.out BK266.out (by decide)) (fun _ hk => hk.2) (.slice Ao13 t263.length co13)) (fun _ h_ => h_.1))))) (below_size (by repeat (first | (with_reducible first | exact HB.out | apply below_alloc | apply pw_below_drewN | apply below_drew1 | refine below_set ?_ GE266.out) | exact HB.out)))); have n2_ := Aside0.mk (blk_below (g := gb266) (o := .cells #[.slice Ao13 t263.length co13] 26 (0, 0)) (by (with_reducible repeat (first | refine blk_drewN ?_ _ | refine blk_drew ?_ | refine blk_alloc ?_ _)); refine blk_put (cs := #[.slice none 0 0]) ?_ 0 _ rfl; (with_reducible repeat (first | refine blk_drewN ?_ _ | refine blk_drew ?_ | refine blk_alloc ?_ _)); exact BK266.out) hb); have n3_ := Aside0.mk (below_step (by repeat (first | (with_reducible first | exact HB.out | apply below_alloc | apply pw_below_drewN | apply below_drew1 | refine below_set ?_ GE266.out) | exact HB.out)) hb); clear HO265; clear BK266; clear HB; have HO265 := n0_; have HO269 := n1_; have BK266 := n2_; have HB := n3_; clear n0_ n1_ n2_ n3_; (try clear hb); (try clear hb2); (try clear hk); (try clear hi); (try clear ho0)) | ((with_reducible refine gate_dst (N := 7) rfl ?_); (try (refine gate_guard (by rfl) ?_; dsimp only)); refine box_event ?hg (N := 7) ?hd (cs := #[.slice none 0 0]) (t := 26) ?hr ?_; (case hd => rfl); (case hg => rfl); (case hr => first | (go_simp; done) | (go_simp; rfl)); intro gb270 hg w16 hbox hb; have n0_ := Aside0.mk (Kd.R_below (by (with_reducible repeat (first | apply Kd.R_alloc | apply Kd.R_drewN | apply Kd.R_drew)); exact HO265.out) hb); have n1_ := Aside0.mk (Kd.R_below (by (with_reducible repeat (first | apply Kd.R_alloc | apply Kd.R_drewN | apply Kd.R_drew)); exact HO269.out) hb); have n2_ := Aside0.mk (blk_below (g := gb266) (o := .cells #[.slice Ao13 t263.length co13] 26 (0, 0)) (by (with_reducible repeat (first | refine blk_drewN ?_ _ | refine blk_drew ?_ | refine blk_alloc ?_ _)); exact BK266.out) hb); have n3_ := Aside0.mk (below_step (by repeat (first | (with_reducible first | exact HB.out | apply below_alloc | apply pw_below_drewN | apply below_drew1 | refine below_set ?_ GE266.out) | exact HB.out)) hb); have n4_ := Aside0.mk (hbox); have n5_ := Aside0.mk ((by rw [hg]; exact (below_size (by repeat (first | (with_reducible first | exact HB.out | apply below_alloc | apply pw_below_drewN | apply below_drew1 | refine below_set ?_ GE266.out) | exact HB.out))) : w.heap.size ≤ gb270)); have n6_ := Aside0.mk ((by rw [hg]; exact (below_size (by repeat (first | (with_reducible first | exact HB.out | apply below_alloc | apply pw_below_drewN | apply below_drew1 | refine below_set ?_ GE266.out) | exact HB.out))) : w.heap.size ≤ gb270)); have n7_ := Aside0.mk ((by rw [hg]; exact Nat.ne_of_lt (blk_lt (g := gb266) (o := .cells #[.slice Ao13 t263.length co13] 26 (0, 0)) (by (with_reducible repeat (first | refine blk_drewN ?_ _ | refine blk_drew ?_ | refine blk_alloc ?_ _)); exact BK266.out)) : gb266 ≠ gb270)); have n8_ := Aside0.mk ((by rw [hg]; exact Nat.ne_of_gt (blk_lt (g := gb266) (o := .cells #[.slice Ao13 t263.length co13] 26 (0, 0)) (by (with_reducible repeat (first | refine blk_drewN ?_ _ | refine blk_drew ?_ | refine blk_alloc ?_ _)); exact BK266.out)) : gb270 ≠ gb266)); clear HO265; clear HO269; clear BK266; clear HB; have HO265 := n0_; have HO269 := n1_; have BK266 := n2_; have HB := n3_; have BK270 := n4_; have GW270 := n5_; have GE270 := n6_; have NB266_270 := n7_; have NB270_266 := n8_; clear n0_ n1_ n2_ n3_ n4_ n5_ n6_ n7_ n8_; clear hb hbox hg; obtain ⟨Ao17, co17, eo17⟩ := Kd.R_slice HO269.out; subst eo17; have hnb18 := NB270_266.out; have hnc18 := NB266_270.out; have hcz19_0 : w16.cell? ⟨gb270, 0, none⟩ = some (.slice none 0 0) := (blk_cell BK270.out 0).trans rfl; have hfz19_0 := blk_frozen BK270.out 0))
    (try simp only [Act.put, List.setIfInBounds_toArray, List.set_cons_zero, List.set_cons_succ])
    go_cut [55] (fun v55 wc => ∃ (kq : Nat) (x55_9 : Bool), v55 = .bool x55_9 ∧ Aside0 (heronrylaw15_OplistUndoes.j1 kq l1 t262 x55_9 t267 = some r) ∧ Aside0 (kq ≤ kj3) ∧ Aside0 (Kd.R k33 33 wc w.heap.size (fun k_ => some k_ ≠ ((.slice Ao17 t267.length co17) : Value).ownBlock) (.slice Ao13 t263.length co13) t263) ∧ Aside0 (Kd.R k33 33 wc w.heap.size (fun k_ => some k_ ≠ ((.slice Ao13 t263.length co13) : Value).ownBlock) (.slice Ao17 t267.length co17) t267) ∧ Aside0 (wc.heap[gb266]? = some (.cells #[(.slice Ao13 t263.length co13)] 26 (0, 0))) ∧ Aside0 (wc.heap[gb270]? = some (.cells #[(.slice Ao17 t267.length co17)] 26 (0, 0))) ∧ Aside0 (Below w.heap.size w wc))
    case first =>
     have H := HC10.out
     clear HC10
     replace H := Option.bind_eq_some_iff.mp H
     obtain ⟨t271, A200, H⟩ := H
     replace H : (if t271 = true then ((oplist_Sane.f t267).bind fun t272 => (if t272 = true then (if (t267.length : Int) < (t263.length : Int) then (none) else (heronrylaw15_OplistUndoes.j1 kj3 l1 t262 (decide ((t267.length : Int) > 256)) t267)) else (none))) else (none)) = some r := H
     have A20 := Aside0.mk A200
     clear A200
     by_cases c21 : t271 = true
     ·subst c21
      have H1 : ((oplist_Sane.f t267).bind fun t272 => (if t272 = true then (if (t267.length : Int) < (t263.length : Int) then (none) else (heronrylaw15_OplistUndoes.j1 kj3 l1 t262 (decide ((t267.length : Int) > 256)) t267)) else (none))) = some r := by rw [if_pos rfl] at H; exact H
      clear H
      have H := H1
      clear H1
      replace H := Option.bind_eq_some_iff.mp H
      obtain ⟨t272, A220, H⟩ := H
      replace H : (if t272 = true then (if (t267.length : Int) < (t263.length : Int) then (none) else (heronrylaw15_OplistUndoes.j1 kj3 l1 t262 (decide ((t267.length : Int) > 256)) t267)) else (none)) = some r := H
      have A22 := Aside0.mk A220
      clear A220
      by_cases c23 : t272 = true
      ·subst c23
       have H1 : (if (t267.length : Int) < (t263.length : Int) then (none) else (heronrylaw15_OplistUndoes.j1 kj3 l1 t262 (decide ((t267.length : Int) > 256)) t267)) = some r := by rw [if_pos rfl] at H; exact H
       clear H
       have H := H1
       clear H1
       by_cases c24 : (t267.length : Int) < (t263.length : Int)
       ·rw [if_pos c24] at H
        exact absurd H (by simp)
       ·rw [if_neg c24] at H
        have c24b0 : decide ((t267.length : Int) < (t263.length : Int)) = false := decide_eq_false c24
        have c24b1 : decide (t267.length < t263.length) = false := decide_eq_false (fun h => c24 (Int.ofNat_lt.mpr h))
        clear c24
        (first | rw [c24b0] | (simp only [i64_w, i32_w]; rw [c24b0]) | skip)
        have H' := Aside0.mk H
        clear H
        have hnb25 := NB266_270.out
        have hnc25 := NB270_266.out
        have hcz26_0 : w16.cell? ⟨gb266, 0, none⟩ = some (.slice Ao13 t263.length co13) := (blk_cell BK266.out 0).trans rfl
        have hfz26_0 := blk_frozen BK266.out 0
        go_wp2_with (first | ((with_reducible refine gate_callee (f := 15) rfl ?_); refine goesL_ (some 34) rfl rfl Try.func15 (by kernel_rfl) rfl #[.agg #[.slice Ao13 t263.length co13]] rfl (by (try simp only [List.map_toArray, List.map_cons, List.map_nil]); first | done | rfl | (simp only [List.length_drop, List.length_take]; rfl)) ?_; (with_reducible refine (oplist_Sane.calls _ _ t263 true _ ?side1 ?side2 A20.out).mono ?_); (case side1 => refine (Kd.R_reads' (e := 33) (base := w.heap.size) (ok := fun k_ => (True ∧ some k_ ≠ (.slice Ao17 t267.length co17 : Value).ownBlock)) (n := t263.length) (c := co13) ?_).2.2; exact (by (with_reducible repeat (first | apply Kd.R_alloc | apply Kd.R_drewN | apply Kd.R_drew)); exact (Kd.R_mono (Kd.R_far (p := ⟨gb270, 0, none⟩) (Kd.R_types HO265.out BK270.out (by decide)) (fun _ hk => hk.2) (.slice Ao17 t267.length co17)) (fun _ h_ => h_.1)))); (case side2 => exact (Kd.R_reads' HO265.out).2.1); rintro e w27 ⟨rfl, hb⟩; refine ⟨_, rfl, ?_⟩; have n0_ := Aside0.mk (Kd.R_below (by (with_reducible repeat (first | apply Kd.R_alloc | apply Kd.R_drewN | apply Kd.R_drew)); exact (Kd.R_mono (Kd.R_far (p := ⟨gb270, 0, none⟩) (Kd.R_types HO265.out BK270.out (by decide)) (fun _ hk => hk.2) (.slice Ao17 t267.length co17)) (fun _ h_ => h_.1))) hb); have n1_ := Aside0.mk (Kd.R_below (by (with_reducible repeat (first | apply Kd.R_alloc | apply Kd.R_drewN | apply Kd.R_drew)); exact (Kd.R_mono (Kd.R_far (p := ⟨gb270, 0, none⟩) (Kd.R_types HO269.out BK270.out (by decide)) (fun _ hk => hk.2) (.slice Ao17 t267.length co17)) (fun _ h_ => h_.1))) hb); have n2_ := Aside0.mk (blk_below (g := gb266) (o := .cells #[.slice Ao13 t263.length co13] 26 (0, 0)) (by (with_reducible repeat (first | refine blk_drewN ?_ _ | refine blk_drew ?_ | refine blk_alloc ?_ _)); refine blk_far ?_ NB266_270.out _; (with_reducible repeat (first | refine blk_drewN ?_ _ | refine blk_drew ?_ | refine blk_alloc ?_ _)); exact BK266.out) hb); have n3_ := Aside0.mk (blk_below (g := gb270) (o := .cells #[.slice Ao17 t267.length co17] 26 (0, 0)) (by (with_reducible repeat (first | refine blk_drewN ?_ _ | refine blk_drew ?_ | refine blk_alloc ?_ _)); refine blk_put (cs := #[.slice none 0 0]) ?_ 0 _ rfl; (with_reducible repeat (first | refine blk_drewN ?_ _ | refine blk_drew ?_ | refine blk_alloc ?_ _)); exact BK270.out) hb); have n4_ := Aside0.mk (below_step (by repeat (first | (with_reducible first | exact HB.out | apply below_alloc | apply pw_below_drewN | apply below_drew1 | refine below_set ?_ GE266.out | refine below_set ?_ GE270.out) | exact HB.out)) hb); clear HO265; clear HO269; clear BK266; clear BK270; clear HB; have HO265 := n0_; have HO269 := n1_; have BK266 := n2_; have BK270 := n3_; have HB := n4_; clear n0_ n1_ n2_ n3_ n4_; (try clear hb); (try clear hb2); (try clear hk); (try clear hi); have hcz28_0 : w27.cell? ⟨gb270, 0, none⟩ = some (.slice Ao17 t267.length co17) := (blk_cell BK270.out 0).trans rfl; have hfz28_0 := blk_frozen BK270.out 0) | (go_at_call 15; (with_reducible refine (oplist_Sane.calls _ _ t267 true _ ?side1 ?side2 A22.out).mono ?_); (case side1 => repeat (first | exact (Kd.R_reads' HO269.out).2.2 | (with_reducible refine Kd.C_alloc ?_ _) | (with_reducible refine Kd.C_drewN ?_ _) | (with_reducible refine Kd.C_drew ?_))); (case side2 => exact (Kd.R_reads' HO269.out).2.1); rintro e w29 ⟨rfl, hb⟩; have n0_ := Aside0.mk (Kd.R_below (by (with_reducible repeat (first | apply Kd.R_alloc | apply Kd.R_drewN | apply Kd.R_drew)); exact HO265.out) hb); have n1_ := Aside0.mk (Kd.R_below (by (with_reducible repeat (first | apply Kd.R_alloc | apply Kd.R_drewN | apply Kd.R_drew)); exact HO269.out) hb); have n2_ := Aside0.mk (blk_below (g := gb266) (o := .cells #[.slice Ao13 t263.length co13] 26 (0, 0)) (by (with_reducible repeat (first | refine blk_drewN ?_ _ | refine blk_drew ?_ | refine blk_alloc ?_ _)); exact BK266.out) hb); have n3_ := Aside0.mk (blk_below (g := gb270) (o := .cells #[.slice Ao17 t267.length co17] 26 (0, 0)) (by (with_reducible repeat (first | refine blk_drewN ?_ _ | refine blk_drew ?_ | refine blk_alloc ?_ _)); exact BK270.out) hb); have n4_ := Aside0.mk (below_step (by repeat (first | (with_reducible first | exact HB.out | apply below_alloc | apply pw_below_drewN | apply below_drew1 | refine below_set ?_ GE266.out | refine below_set ?_ GE270.out) | exact HB.out)) hb); clear HO265; clear HO269; clear BK266; clear BK270; clear HB; have HO265 := n0_; have HO269 := n1_; have BK266 := n2_; have BK270 := n3_; have HB := n4_; clear n0_ n1_ n2_ n3_ n4_; (try clear hb); (try clear hb2); (try clear hk); (try clear hi); have hcz30_0 : w29.cell? ⟨gb270, 0, none⟩ = some (.slice Ao17 t267.length co17) := (blk_cell BK270.out 0).trans rfl; have hfz30_0 := blk_frozen BK270.out 0; have hcz31_0 : w29.cell? ⟨gb266, 0, none⟩ = some (.slice Ao13 t263.length co13) := (blk_cell BK266.out 0).trans rfl; have hfz31_0 := blk_frozen BK266.out 0))
        go_meet
        case rel => exact ⟨_, (decide ((t267.length : Int) > 256)), (by first | rfl | (simp; done) | (simp [*]; done)), H', ⟨by have := HJ3.out; first | omega | exact Nat.le_refl _⟩, ⟨by (with_reducible repeat (first | apply Kd.R_alloc | apply Kd.R_drewN | apply Kd.R_drew)); exact Kd.R_mono HO265.out (fun _ hk => hk.2)⟩, ⟨by (with_reducible repeat (first | apply Kd.R_alloc | apply Kd.R_drewN | apply Kd.R_drew)); exact Kd.R_mono HO269.out (fun _ hk => hk.2)⟩, ⟨by (with_reducible repeat (first | refine blk_drewN ?_ _ | refine blk_drew ?_ | refine blk_alloc ?_ _)); exact BK266.out⟩, ⟨by (with_reducible repeat (first | refine blk_drewN ?_ _ | refine blk_drew ?_ | refine blk_alloc ?_ _)); exact BK270.out⟩, ⟨by repeat (first | (with_reducible first | exact HB.out | apply below_alloc | apply pw_below_drewN | apply below_drew1 | refine below_set ?_ GE266.out | refine below_set ?_ GE270.out) | exact HB.out)⟩⟩
      ·replace c23 := Bool.eq_false_iff.mpr c23
       subst c23
       have H1 : (none) = some r := by rw [if_neg (show ¬ (false = true) by decide)] at H; exact H
       clear H
       have H := H1
       clear H1
       exact absurd H (by simp)
     ·replace c21 := Bool.eq_false_iff.mpr c21
      subst c21
      have H1 : (none) = some r := by rw [if_neg (show ¬ (false = true) by decide)] at H; exact H
      clear H
      have H := H1
      clear H1
      exact absurd H (by simp)
    case rest =>
     clear HC10
     try clear c1
     try clear c2
     try clear p2
     try clear c5
     try clear c6
     try clear c6b0
     try clear c6b1
     try clear c7
     try clear c8
     try clear c9
     try clear c12
     try clear c15
     try clear c18
     try clear c21
     try clear c23
     try clear c24
     try clear c24b0
     try clear c24b1
     try clear c25
     try clear hcz14_0
     try clear hcz19_0
     try clear hcz26_0
     try clear hcz28_0
     try clear hcz30_0
     try clear hcz31_0
     try clear hfz14_0
     try clear hfz19_0
     try clear hfz26_0
     try clear hfz28_0
     try clear hfz30_0
     try clear hfz31_0
     try clear p2
     obtain ⟨kq, x55_9, rfl, HA, HJ9, HO_267000, HO_271000, BK266, BK270, HB⟩ := hcut
     cases kq with
     | zero => exact absurd HA.out (by simp [heronrylaw15_OplistUndoes.j1])
     | succ kj9 =>
      have H := HA.out
      clear HA
      simp only [heronrylaw15_OplistUndoes.j1] at H
      by_cases c32 : x55_9 = true
      ·subst c32
       have H1 : (none) = some r := by rw [if_pos rfl] at H; exact H
       clear H
       have H := H1
       clear H1
       exact absurd H (by simp)
      ·replace c32 := Bool.eq_false_iff.mpr c32
       subst c32
       have H1 : (heronrylaw15_OplistUndoes.l0 kj9 l1 t262 0 t267) = some r := by rw [if_neg (show ¬ (false = true) by decide)] at H; exact H
       clear H
       have H := H1
       clear H1
       have H' := Aside0.mk H
       clear H
       go_wp2
       go_loopg [8] kj9 (fun kq v8 w' => ∃ (x8_3 : Int), v8 = .int .i64 x8_3 ∧ Aside0 (heronrylaw15_OplistUndoes.l0 kq l1 t262 x8_3 t267 = some r) ∧ Aside0 (kq ≤ kj9) ∧ Aside0 (Kd.R k33 33 w' w.heap.size (fun k_ => some k_ ≠ ((.slice Ao17 t267.length co17) : Value).ownBlock) (.slice Ao13 t263.length co13) t263) ∧ Aside0 (Kd.R k33 33 w' w.heap.size (fun k_ => some k_ ≠ ((.slice Ao13 t263.length co13) : Value).ownBlock) (.slice Ao17 t267.length co17) t267) ∧ Aside0 (w'.heap[gb266]? = some (.cells #[(.slice Ao13 t263.length co13)] 26 (0, 0))) ∧ Aside0 (w'.heap[gb270]? = some (.cells #[(.slice Ao17 t267.length co17)] 26 (0, 0))) ∧ Aside0 (Below w.heap.size w w'))
       case atStart => exact ⟨(0), (by first | rfl | (simp; done) | (simp [*]; done)), H', ⟨Nat.le_refl _⟩, ⟨by (with_reducible repeat (first | apply Kd.R_alloc | apply Kd.R_drewN | apply Kd.R_drew)); exact HO_267000.out⟩, ⟨by (with_reducible repeat (first | apply Kd.R_alloc | apply Kd.R_drewN | apply Kd.R_drew)); exact HO_271000.out⟩, ⟨by (with_reducible repeat (first | refine blk_drewN ?_ _ | refine blk_drew ?_ | refine blk_alloc ?_ _)); exact BK266.out⟩, ⟨by (with_reducible repeat (first | refine blk_drewN ?_ _ | refine blk_drew ?_ | refine blk_alloc ?_ _)); exact BK270.out⟩, ⟨by repeat (first | (with_reducible first | exact HB.out | apply below_alloc | apply pw_below_drewN | apply below_drew1 | refine below_set ?_ GE266.out | refine below_set ?_ GE270.out) | exact HB.out)⟩⟩
       case round =>
        clear H'
        try clear c1
        try clear c2
        try clear p2
        try clear c3
        try clear c5
        try clear c6
        try clear c6b0
        try clear c6b1
        try clear c7
        try clear c8
        try clear c9
        try clear c12
        try clear c15
        try clear c18
        try clear c21
        try clear c23
        try clear c24
        try clear c24b0
        try clear c24b1
        try clear c25
        try clear c32
        try clear hcz14_0
        try clear hcz19_0
        try clear hcz26_0
        try clear hcz28_0
        try clear hcz30_0
        try clear hcz31_0
        try clear hfz14_0
        try clear hfz19_0
        try clear hfz26_0
        try clear hfz28_0
        try clear hfz30_0
        try clear hfz31_0
        try clear p2
        obtain ⟨x8_3, rfl, HA, HK3, HO_267000, HO_271000, BK266, BK270, HB⟩ := hrel
        cases gk with
        | zero => exact absurd HA.out (by simp [heronrylaw15_OplistUndoes.l0])
        | succ k3 =>
         have H := HA.out
         clear HA
         simp only [heronrylaw15_OplistUndoes.l0] at H
         by_cases c33 : x8_3 < (l1.length : Int)
         ·rw [if_pos c33] at H
          have c33b0 : decide (x8_3 < (l1.length : Int)) = true := decide_eq_true c33
          clear c33
          by_cases c34 : 0 ≤ x8_3
          ·rw [if_pos c34] at H
           have c34b0 : decide (0 ≤ x8_3) = true := decide_eq_true c34
           clear c34
           replace H := Option.bind_eq_some_iff.mp H
           obtain ⟨t274, A350, H⟩ := H
           replace H : (if (t274.length : Int) = 0 then (heronrylaw15_OplistUndoes.l0 k3 l1 t262 (wrap64 (x8_3 + 1)) t267) else (none)) = some r := H
           have A35 := Aside0.mk A350
           clear A350
           by_cases c36 : (t274.length : Int) = 0
           ·rw [if_pos c36] at H
            have c36b0 : ((t274.length : Int) == 0) = true := beq_iff_eq.mpr c36
            have c36b1 : ((t274.length : Int) != 0) = false := bne_eq_false_iff_eq.mpr c36
            clear c36
            have H' := Aside0.mk H
            clear H
            try go_wp2
            have n0_ := Aside0.mk (Kd.R_drew HO_267000.out)
            have n1_ := Aside0.mk (Kd.R_drew HO_271000.out)
            have n2_ := Aside0.mk (blk_drew BK266.out)
            have n3_ := Aside0.mk (blk_drew BK270.out)
            have n4_ := Aside0.mk (below_drew1 HB.out)
            clear HO_267000
            clear HO_271000
            clear BK266
            clear BK270
            clear HB
            have HO_267000 := n0_
            have HO_271000 := n1_
            have BK266 := n2_
            have BK270 := n3_
            have HB := n4_
            clear n0_ n1_ n2_ n3_ n4_
            have p273 : 0 ≤ (x8_3 : Int) := of_decide_eq_true (by first | (with_reducible assumption) | assumption)
            have q273 : x8_3 < (l1.length : Int) := of_decide_eq_true (by first | (with_reducible assumption) | assumption)
            obtain ⟨ad273, e273, hx273_0⟩ := Kd.at_int HR1.out x8_3 p273 q273
            have hw273_0 := hx273_0
            cases e273
            replace hx273_0 := (HB.out.cell (World.block_lt_of_cell? w _ hx273_0)).trans hx273_0
            replace p273 := eq_true p273
            replace q273 := eq_true q273
            refine start_ (n := 8) (S := fun w' => w'.cell? ⟨gb270, 0, none⟩ = some (.slice Ao17 t267.length co17) ∧ w'.cell? (ad273.add (x8_3).toNat) = some (.int .i64 (rd l1 x8_3))) (ds := []) #[false, false, false, false, false, false, false, false] (by kernel_rfl) rfl rfl ⟨(blk_cell BK270.out 0).trans rfl, ((HB.out.cell (World.block_lt_of_cell? w _ hw273_0)).trans hw273_0)⟩ (fun hHeld => ?_); refine with_tabW heronrylaw15_OplistUndoes.tab11 heronrylaw15_OplistUndoes.bits11 (fun HT_ HW_ => ?_)
            generalize wr.drew = w37 at HO_267000 HO_271000 BK266 BK270 HB hx273_0 hHeld ⊢
            refine pure_ (i := 1) (N := some 63) (v := ?_) (a' := ?_) #[false, true, false, false, false, false, false, false] rfl rfl (any_of HT_.out (by kernel_rfl)) (fun _ _ _ h => h) (Or.inl ⟨by rfl, ?_⟩) ?_ ?_
            rotate_left
            ·intro w'
             go_simp
             with_reducible rfl
            rotate_left
            ·simp only [Act.put, List.setIfInBounds_toArray, List.set_cons_zero, List.set_cons_succ, i64_w, i32_w]
             rfl
            refine pure_ (i := 2) (N := some 64) (v := ?_) (a' := ?_) #[false, true, true, false, false, false, false, false] rfl rfl (any_of HT_.out (by kernel_rfl)) (fun _ _ _ h => h) (Or.inl ⟨by rfl, ?_⟩) ?_ ?_
            rotate_left
            ·intro w'
             go_simp
             with_reducible rfl
            rotate_left
            ·simp only [Act.put, List.setIfInBounds_toArray, List.set_cons_zero, List.set_cons_succ, i64_w, i32_w]
             rfl
            refine pure_ (i := 3) (N := some 65) (v := ?_) (a' := ?_) #[false, true, true, true, false, false, false, false] rfl rfl (any_of HT_.out (by kernel_rfl)) (fun _ _ _ h => h) (Or.inl ⟨by rfl, ?_⟩) ?_ ?_
            rotate_left
            ·intro w'
             go_simp
             with_reducible rfl
            rotate_left
            ·simp only [Act.put, List.setIfInBounds_toArray, List.set_cons_zero, List.set_cons_succ, i64_w, i32_w]
             rfl
            refine take_ (i := 0) (N := some 62) (v := ?_) (a' := ?_) #[true, true, true, true, false, false, false, false] rfl rfl (take_ofW HT_.out HW_.out (by kernel_rfl)) (fun _ _ _ h => h) (Or.inl ⟨by rfl, ?_⟩) hHeld ?_ ?_
            rotate_left
            ·rintro w' ⟨s0, s1⟩
             go_simp
             with_reducible rfl
            rotate_left
            ·simp only [Act.put, List.setIfInBounds_toArray, List.set_cons_zero, List.set_cons_succ, i64_w, i32_w]
             rfl
            refine take_ (i := 4) (N := some 66) (v := ?_) (a' := ?_) #[true, true, true, true, true, false, false, false] rfl rfl (take_ofW HT_.out HW_.out (by kernel_rfl)) (fun _ _ _ h => h) (Or.inl ⟨by rfl, ?_⟩) hHeld ?_ ?_
            rotate_left
            ·rintro w' ⟨s0, s1⟩
             go_simp
             with_reducible rfl
            rotate_left
            ·simp only [Act.put, List.setIfInBounds_toArray, List.set_cons_zero, List.set_cons_succ, i64_w, i32_w]
             rfl
            refine one_ (i := 5) (N := some 67) #[true, true, true, true, true, true, false, false] rfl rfl (one_of HT_.out (by kernel_rfl)) (by decide) (fun K hK => ?_)
            refine goes_ Try.func11 (by kernel_rfl) rfl #[.agg #[.slice Ao17 t267.length co17], .int .i64 (rd l1 x8_3)] (by rfl) rfl rfl (by (try simp only [List.map_toArray, List.map_cons, List.map_nil]); first | done | rfl | (simp only [List.length_drop, List.length_take]; rfl)) ?_
            with_reducible refine (oplist_Open.calls _ _ t267 (rd l1 x8_3) t274 _ ?side1 ?side2 A35.out).mono ?_
            (case side1 => repeat (first | exact (Kd.R_reads' HO_271000.out).2.2 | (with_reducible refine Kd.C_alloc ?_ _) | (with_reducible refine Kd.C_drewN ?_ _) | (with_reducible refine Kd.C_drew ?_)))
            (case side2 => exact (Kd.R_reads' HO_271000.out).2.1)
            rintro e w38 ⟨v275, rfl, ho0, hb⟩
            refine ⟨_, rfl, ?_⟩
            have n0_ := Aside0.mk (Kd.R_elder' (by (with_reducible repeat (first | apply Kd.R_alloc | apply Kd.R_drewN | apply Kd.R_drew)); exact HO_267000.out) (Kd.R_base ho0) hb)
            have n1_ := Aside0.mk (Kd.R_elder' (by (with_reducible repeat (first | apply Kd.R_alloc | apply Kd.R_drewN | apply Kd.R_drew)); exact HO_271000.out) (Kd.R_base ho0) hb)
            have n2_ := Aside0.mk (Kd.R_lower (Kd.R_new' (Kd.R_new' ho0 (Kd.R_lt (by (with_reducible repeat (first | apply Kd.R_alloc | apply Kd.R_drewN | apply Kd.R_drew)); exact HO_267000.out))) (Kd.R_lt (by (with_reducible repeat (first | apply Kd.R_alloc | apply Kd.R_drewN | apply Kd.R_drew)); exact HO_271000.out))) (below_size (by repeat (first | (with_reducible first | exact HB.out | apply below_alloc | apply pw_below_drewN | apply below_drew1 | refine below_set ?_ GE266.out | refine below_set ?_ GE270.out) | exact HB.out))))
            have n3_ := Aside0.mk (blk_below (g := gb266) (o := .cells #[.slice Ao13 t263.length co13] 26 (0, 0)) (by (with_reducible repeat (first | refine blk_drewN ?_ _ | refine blk_drew ?_ | refine blk_alloc ?_ _)); exact BK266.out) hb)
            have n4_ := Aside0.mk (blk_below (g := gb270) (o := .cells #[.slice Ao17 t267.length co17] 26 (0, 0)) (by (with_reducible repeat (first | refine blk_drewN ?_ _ | refine blk_drew ?_ | refine blk_alloc ?_ _)); exact BK270.out) hb)
            have n5_ := Aside0.mk (below_step (by repeat (first | (with_reducible first | exact HB.out | apply below_alloc | apply pw_below_drewN | apply below_drew1 | refine below_set ?_ GE266.out | refine below_set ?_ GE270.out) | exact HB.out)) hb)
            clear HO_267000
            clear HO_271000
            clear BK266
            clear BK270
            clear HB
            have HO_267000 := n0_
            have HO_271000 := n1_
            have HO276 := n2_
            have BK266 := n3_
            have BK270 := n4_
            have HB := n5_
            clear n0_ n1_ n2_ n3_ n4_ n5_
            (try clear hb)
            (try clear hb2)
            (try clear hk)
            (try clear hi)
            (try clear ho0)
            obtain ⟨Ao39, co39, eo39⟩ := Kd.R_slice HO276.out
            (first | subst eo39 | (injection eo39 with f1_ f2_ f3_; have f4_ := f1_.symm; have f5_ := f3_.symm; clear f1_ f2_ f3_; subst f4_; subst f5_))
            refine hK.out _ _ ⟨(blk_cell BK270.out 0).trans rfl, ((HB.out.cell (World.block_lt_of_cell? w _ hw273_0)).trans hw273_0)⟩ (fun hHeld => ?_)
            clear hK K
            refine norm_ (a' := ?_) ?_ ?_
            rotate_left
            ·show Act.put _ (some 67) _ = _
             simp only [Act.put, List.setIfInBounds_toArray, List.set_cons_zero, List.set_cons_succ, i64_w, i32_w]
             rfl
            refine pure_ (i := 6) (N := some 68) (v := ?_) (a' := ?_) #[true, true, true, true, true, true, true, false] rfl rfl (any_of HT_.out (by kernel_rfl)) (fun _ _ _ h => h) (Or.inl ⟨by rfl, ?_⟩) ?_ ?_
            rotate_left
            ·intro w'
             go_simp
             with_reducible rfl
            rotate_left
            ·simp only [Act.put, List.setIfInBounds_toArray, List.set_cons_zero, List.set_cons_succ, i64_w, i32_w]
             rfl
            refine pure_ (i := 7) (N := some 69) (v := ?_) (a' := ?_) #[true, true, true, true, true, true, true, true] rfl rfl (any_of HT_.out (by kernel_rfl)) (fun _ _ _ h => h) (Or.inl ⟨by rfl, ?_⟩) ?_ ?_
            rotate_left
            ·intro w'
             go_simp
             with_reducible rfl
            rotate_left
            ·simp only [Act.put, List.setIfInBounds_toArray, List.set_cons_zero, List.set_cons_succ, i64_w, i32_w]
             rfl
            refine done_ (done_of HT_.out (by kernel_rfl)) ?_
            try go_wp2
            go_roundg k3
            case measure => have := HJ3.out; have := HJ9.out; have := HK3.out; omega
            case rel => exact ⟨(wrap64 (x8_3 + 1)), (by first | rfl | (simp; done) | (simp [*]; done)), H', ⟨by have := HJ3.out; have := HJ9.out; have := HK3.out; omega⟩, ⟨by (with_reducible repeat (first | apply Kd.R_alloc | apply Kd.R_drewN | apply Kd.R_drew)); exact Kd.R_mono HO_267000.out (fun _ hk => hk.1)⟩, ⟨by (with_reducible repeat (first | apply Kd.R_alloc | apply Kd.R_drewN | apply Kd.R_drew)); exact Kd.R_mono HO_271000.out (fun _ hk => hk.1)⟩, ⟨by (with_reducible repeat (first | refine blk_drewN ?_ _ | refine blk_drew ?_ | refine blk_alloc ?_ _)); exact BK266.out⟩, ⟨by (with_reducible repeat (first | refine blk_drewN ?_ _ | refine blk_drew ?_ | refine blk_alloc ?_ _)); exact BK270.out⟩, ⟨by repeat (first | (with_reducible first | exact HB.out | apply below_alloc | apply pw_below_drewN | apply below_drew1 | refine below_set ?_ GE266.out | refine below_set ?_ GE270.out) | exact HB.out)⟩⟩
           ·rw [if_neg c36] at H
            exact absurd H (by simp)
          ·rw [if_neg c34] at H
           exact absurd H (by simp)
         ·rw [if_neg c33] at H
          have c33b0 : decide (x8_3 < (l1.length : Int)) = false := decide_eq_false c33
          clear c33
          have H' := Aside0.mk H
          clear H
          go_wp2
          go_loopg [9] k3 (fun kq v9 w' => ∃ (x9_4 : Int), v9 = .int .i64 x9_4 ∧ Aside0 (heronrylaw15_OplistUndoes.l1 kq t262 x9_4 t267 = some r) ∧ Aside0 (kq ≤ k3) ∧ Aside0 (Kd.R k33 33 w' w.heap.size (fun k_ => some k_ ≠ ((.slice Ao17 t267.length co17) : Value).ownBlock) (.slice Ao13 t263.length co13) t263) ∧ Aside0 (Kd.R k33 33 w' w.heap.size (fun k_ => some k_ ≠ ((.slice Ao13 t263.length co13) : Value).ownBlock) (.slice Ao17 t267.length co17) t267) ∧ Aside0 (w'.heap[gb266]? = some (.cells #[(.slice Ao13 t263.length co13)] 26 (0, 0))) ∧ Aside0 (w'.heap[gb270]? = some (.cells #[(.slice Ao17 t267.length co17)] 26 (0, 0))) ∧ Aside0 (Below w.heap.size w w'))
          case atStart => exact ⟨(0), (by first | rfl | (simp; done) | (simp [*]; done)), H', ⟨Nat.le_refl _⟩, ⟨by (with_reducible repeat (first | apply Kd.R_alloc | apply Kd.R_drewN | apply Kd.R_drew)); exact HO_267000.out⟩, ⟨by (with_reducible repeat (first | apply Kd.R_alloc | apply Kd.R_drewN | apply Kd.R_drew)); exact HO_271000.out⟩, ⟨by (with_reducible repeat (first | refine blk_drewN ?_ _ | refine blk_drew ?_ | refine blk_alloc ?_ _)); exact BK266.out⟩, ⟨by (with_reducible repeat (first | refine blk_drewN ?_ _ | refine blk_drew ?_ | refine blk_alloc ?_ _)); exact BK270.out⟩, ⟨by repeat (first | (with_reducible first | exact HB.out | apply below_alloc | apply pw_below_drewN | apply below_drew1 | refine below_set ?_ GE266.out | refine below_set ?_ GE270.out) | exact HB.out)⟩⟩
          case round =>
           clear H'
           try clear c1
           try clear c2
           try clear p2
           try clear q2
           try clear hx2
           try clear c3
           try clear c5
           try clear c6
           try clear c6b0
           try clear c6b1
           try clear p6
           try clear c7
           try clear c8
           try clear c9
           try clear c11
           try clear c12
           try clear c15
           try clear c18
           try clear c21
           try clear c23
           try clear c24
           try clear c24b0
           try clear c24b1
           try clear c25
           try clear p27
           try clear q27
           try clear hx27
           try clear c32
           try clear c33
           try clear c33b0
           try clear c34
           try clear c34b0
           try clear c36
           try clear c36b0
           try clear c36b1
           try clear hcz14_0
           try clear hcz19_0
           try clear hcz26_0
           try clear hcz28_0
           try clear hcz30_0
           try clear hcz31_0
           try clear hfz14_0
           try clear hfz19_0
           try clear hfz26_0
           try clear hfz28_0
           try clear hfz30_0
           try clear hfz31_0
           try clear hx273_0
           try clear p2
           try clear p273
           try clear q273
           obtain ⟨x9_4, rfl, HA, HK4, HO_267000, HO_271000, BK266, BK270, HB⟩ := hrel
           cases gk with
           | zero => exact absurd HA.out (by simp [heronrylaw15_OplistUndoes.l1])
           | succ k4 =>
            have H := HA.out
            clear HA
            simp only [heronrylaw15_OplistUndoes.l1] at H
            by_cases c40 : x9_4 < 4
            ·rw [if_pos c40] at H
             have c40b0 : decide (x9_4 < 4) = true := decide_eq_true c40
             clear c40
             have H' := Aside0.mk H
             clear H
             go_wp2
             go_loopg [10, 11] k4 (fun kq v10 v11 w' => ∃ (x10_5 : List Int) (x11_5 : Int), v11 = .int .i64 x11_5 ∧ Aside0 (heronrylaw15_OplistUndoes.l2 kq t262 x9_4 x10_5 x11_5 t267 = some r) ∧ Aside0 (kq ≤ k4) ∧ Aside0 (Kd.R (Kd.int .i64) 3 w' w.heap.size (fun _ => True) v10 x10_5) ∧ Aside0 (Kd.R k33 33 w' w.heap.size (fun k_ => some k_ ≠ ((.slice Ao17 t267.length co17) : Value).ownBlock) (.slice Ao13 t263.length co13) t263) ∧ Aside0 (Kd.R k33 33 w' w.heap.size (fun k_ => some k_ ≠ ((.slice Ao13 t263.length co13) : Value).ownBlock) (.slice Ao17 t267.length co17) t267) ∧ Aside0 (w'.heap[gb266]? = some (.cells #[(.slice Ao13 t263.length co13)] 26 (0, 0))) ∧ Aside0 (w'.heap[gb270]? = some (.cells #[(.slice Ao17 t267.length co17)] 26 (0, 0))) ∧ Aside0 (Below w.heap.size w w'))
             case atStart => exact ⟨(([] : List Int)), (0), (by first | rfl | (simp; done) | (simp [*]; done)), H', ⟨Nat.le_refl _⟩, ⟨by first | exact Kd.R_nil _ _ _ _ _ | exact Kd.N_nil _ _ _ _ _ | exact Kd.V_nil _ _ _ _ _ | exact Kd.Q_nil _ _ _ _ _ | exact Kd.S_nil _ _ _ _ _⟩, ⟨by (with_reducible repeat (first | apply Kd.R_alloc | apply Kd.R_drewN | apply Kd.R_drew)); exact HO_267000.out⟩, ⟨by (with_reducible repeat (first | apply Kd.R_alloc | apply Kd.R_drewN | apply Kd.R_drew)); exact HO_271000.out⟩, ⟨by (with_reducible repeat (first | refine blk_drewN ?_ _ | refine blk_drew ?_ | refine blk_alloc ?_ _)); exact BK266.out⟩, ⟨by (with_reducible repeat (first | refine blk_drewN ?_ _ | refine blk_drew ?_ | refine blk_alloc ?_ _)); exact BK270.out⟩, ⟨by repeat (first | (with_reducible first | exact HB.out | apply below_alloc | apply pw_below_drewN | apply below_drew1 | refine below_set ?_ GE266.out | refine below_set ?_ GE270.out) | exact HB.out)⟩⟩
             case round =>
              clear H'
              try clear c1
              try clear c2
              try clear p2
              try clear q2
              try clear hx2
              try clear c3
              try clear c4
              try clear c5
              try clear c6
              try clear c6b0
              try clear c6b1
              try clear p6
              try clear c7
              try clear c8
              try clear c9
              try clear c11
              try clear c12
              try clear c15
              try clear c18
              try clear c21
              try clear c23
              try clear c24
              try clear c24b0
              try clear c24b1
              try clear c25
              try clear p27
              try clear q27
              try clear hx27
              try clear c32
              try clear c33
              try clear c33b0
              try clear c34
              try clear c34b0
              try clear c36
              try clear c36b0
              try clear c36b1
              try clear c40
              try clear c40b0
              try clear hcz14_0
              try clear hcz19_0
              try clear hcz26_0
              try clear hcz28_0
              try clear hcz30_0
              try clear hcz31_0
              try clear hfz14_0
              try clear hfz19_0
              try clear hfz26_0
              try clear hfz28_0
              try clear hfz30_0
              try clear hfz31_0
              try clear hx273_0
              try clear p2
              try clear p27
              try clear p273
              try clear p6
              try clear q2
              try clear q27
              try clear q273
              obtain ⟨x10_5, x11_5, rfl, HA, HK5, HO_10, HO_267000, HO_271000, BK266, BK270, HB⟩ := hrel
              cases gk with
              | zero => exact absurd HA.out (by simp [heronrylaw15_OplistUndoes.l2])
              | succ k5 =>
               have H := HA.out
               clear HA
               simp only [heronrylaw15_OplistUndoes.l2] at H
               by_cases c41 : x11_5 < 8
               ·rw [if_pos c41] at H
                have c41b0 : decide (x11_5 < 8) = true := decide_eq_true c41
                clear c41
                replace H := Option.bind_eq_some_iff.mp H
                obtain ⟨t277, A420, H⟩ := H
                replace H : (heronrylaw15_OplistUndoes.l3 k5 t262 x9_4 x10_5 x11_5 t277 0 t267) = some r := H
                have A42 := Aside0.mk A420
                clear A420
                have H' := Aside0.mk H
                clear H
                have hnb43 := NB270_266.out
                have hnc43 := NB266_270.out
                have hcz44_0 : wr.cell? ⟨gb270, 0, none⟩ = some (.slice Ao17 t267.length co17) := (blk_cell BK270.out 0).trans rfl
                have hfz44_0 := blk_frozen BK270.out 0
                go_wp2_with (first | ((with_reducible refine gate_callee (f := 11) rfl ?_); refine goesL_ (some 80) rfl rfl Try.func11 (by kernel_rfl) rfl #[.agg #[.slice Ao17 t267.length co17], .int .i64 x11_5] rfl (by (try simp only [List.map_toArray, List.map_cons, List.map_nil]); first | done | rfl | (simp only [List.length_drop, List.length_take]; rfl)) ?_; (with_reducible refine (oplist_Open.calls _ _ t267 x11_5 t277 _ ?side1 ?side2 A42.out).mono ?_); (case side1 => repeat (first | exact (Kd.R_reads' HO_271000.out).2.2 | (with_reducible refine Kd.C_alloc ?_ _) | (with_reducible refine Kd.C_drewN ?_ _) | (with_reducible refine Kd.C_drew ?_))); (case side2 => exact (Kd.R_reads' HO_271000.out).2.1); rintro e w45 ⟨v278, rfl, ho0, hb⟩; refine ⟨_, rfl, ?_⟩; have n0_ := Aside0.mk (Kd.R_below (by (with_reducible repeat (first | apply Kd.R_alloc | apply Kd.R_drewN | apply Kd.R_drew)); exact HO_10.out) hb); have n1_ := Aside0.mk (Kd.R_elder' (by (with_reducible repeat (first | apply Kd.R_alloc | apply Kd.R_drewN | apply Kd.R_drew)); exact HO_267000.out) (Kd.R_base ho0) hb); have n2_ := Aside0.mk (Kd.R_elder' (by (with_reducible repeat (first | apply Kd.R_alloc | apply Kd.R_drewN | apply Kd.R_drew)); exact HO_271000.out) (Kd.R_base ho0) hb); have n3_ := Aside0.mk (Kd.R_lower (Kd.R_new' (Kd.R_new' ho0 (Kd.R_lt (by (with_reducible repeat (first | apply Kd.R_alloc | apply Kd.R_drewN | apply Kd.R_drew)); exact HO_267000.out))) (Kd.R_lt (by (with_reducible repeat (first | apply Kd.R_alloc | apply Kd.R_drewN | apply Kd.R_drew)); exact HO_271000.out))) (below_size (by repeat (first | (with_reducible first | exact HB.out | apply below_alloc | apply pw_below_drewN | apply below_drew1 | refine below_set ?_ GE266.out | refine below_set ?_ GE270.out) | exact HB.out)))); have n4_ := Aside0.mk (blk_below (g := gb266) (o := .cells #[.slice Ao13 t263.length co13] 26 (0, 0)) (by (with_reducible repeat (first | refine blk_drewN ?_ _ | refine blk_drew ?_ | refine blk_alloc ?_ _)); exact BK266.out) hb); have n5_ := Aside0.mk (blk_below (g := gb270) (o := .cells #[.slice Ao17 t267.length co17] 26 (0, 0)) (by (with_reducible repeat (first | refine blk_drewN ?_ _ | refine blk_drew ?_ | refine blk_alloc ?_ _)); exact BK270.out) hb); have n6_ := Aside0.mk (below_step (by repeat (first | (with_reducible first | exact HB.out | apply below_alloc | apply pw_below_drewN | apply below_drew1 | refine below_set ?_ GE266.out | refine below_set ?_ GE270.out) | exact HB.out)) hb); clear HO_10; clear HO_267000; clear HO_271000; clear BK266; clear BK270; clear HB; have HO_10 := n0_; have HO_267000 := n1_; have HO_271000 := n2_; have HO279 := n3_; have BK266 := n4_; have BK270 := n5_; have HB := n6_; clear n0_ n1_ n2_ n3_ n4_ n5_ n6_; (try clear hb); (try clear hb2); (try clear hk); (try clear hi); (try clear ho0)))
                go_loopg [10, 13] k5 (fun kq v10 v13 w' => ∃ (x10_6 : List Int) (x13_6 : Int), v13 = .int .i64 x13_6 ∧ Aside0 (heronrylaw15_OplistUndoes.l3 kq t262 x9_4 x10_6 x11_5 t277 x13_6 t267 = some r) ∧ Aside0 (kq ≤ k5) ∧ Aside0 (Kd.R (Kd.int .i64) 3 w' w.heap.size (fun _ => True) v10 x10_6) ∧ Aside0 (Kd.R k33 33 w' w.heap.size (fun k_ => some k_ ≠ ((.slice Ao13 t263.length co13) : Value).ownBlock ∧ some k_ ≠ ((.slice Ao17 t267.length co17) : Value).ownBlock) v278 t277) ∧ Aside0 (Kd.R k33 33 w' w.heap.size (fun k_ => some k_ ≠ (v278 : Value).ownBlock ∧ some k_ ≠ ((.slice Ao17 t267.length co17) : Value).ownBlock) (.slice Ao13 t263.length co13) t263) ∧ Aside0 (Kd.R k33 33 w' w.heap.size (fun k_ => some k_ ≠ (v278 : Value).ownBlock ∧ some k_ ≠ ((.slice Ao13 t263.length co13) : Value).ownBlock) (.slice Ao17 t267.length co17) t267) ∧ Aside0 (w'.heap[gb266]? = some (.cells #[(.slice Ao13 t263.length co13)] 26 (0, 0))) ∧ Aside0 (w'.heap[gb270]? = some (.cells #[(.slice Ao17 t267.length co17)] 26 (0, 0))) ∧ Aside0 (Below w.heap.size w w'))
                case atStart => exact ⟨(x10_5), (0), (by first | rfl | (simp; done) | (simp [*]; done)), H', ⟨Nat.le_refl _⟩, ⟨by (with_reducible repeat (first | apply Kd.R_alloc | apply Kd.R_drewN | apply Kd.R_drew)); exact HO_10.out⟩, ⟨by (with_reducible repeat (first | apply Kd.R_alloc | apply Kd.R_drewN | apply Kd.R_drew)); exact Kd.R_mono HO279.out (fun _ hk => ⟨hk.1.2, hk.2⟩)⟩, ⟨by (with_reducible repeat (first | apply Kd.R_alloc | apply Kd.R_drewN | apply Kd.R_drew)); exact Kd.R_mono HO_267000.out (fun _ hk => ⟨hk.2, hk.1⟩)⟩, ⟨by (with_reducible repeat (first | apply Kd.R_alloc | apply Kd.R_drewN | apply Kd.R_drew)); exact Kd.R_mono HO_271000.out (fun _ hk => ⟨hk.2, hk.1⟩)⟩, ⟨by (with_reducible repeat (first | refine blk_drewN ?_ _ | refine blk_drew ?_ | refine blk_alloc ?_ _)); exact BK266.out⟩, ⟨by (with_reducible repeat (first | refine blk_drewN ?_ _ | refine blk_drew ?_ | refine blk_alloc ?_ _)); exact BK270.out⟩, ⟨by repeat (first | (with_reducible first | exact HB.out | apply below_alloc | apply pw_below_drewN | apply below_drew1 | refine below_set ?_ GE266.out | refine below_set ?_ GE270.out) | exact HB.out)⟩⟩
                case round =>
                 clear H'
                 try clear c1
                 try clear c2
                 try clear p2
                 try clear q2
                 try clear hx2
                 try clear c3
                 try clear c4
                 try clear c5
                 try clear c6
                 try clear c6b0
                 try clear c6b1
                 try clear p6
                 try clear c7
                 try clear c8
                 try clear c9
                 try clear c11
                 try clear c12
                 try clear c15
                 try clear c18
                 try clear c21
                 try clear c23
                 try clear c24
                 try clear c24b0
                 try clear c24b1
                 try clear c25
                 try clear p27
                 try clear q27
                 try clear hx27
                 try clear c32
                 try clear c33
                 try clear c33b0
                 try clear c34
                 try clear c34b0
                 try clear c36
                 try clear c36b0
                 try clear c36b1
                 try clear c40
                 try clear c40b0
                 try clear c41
                 try clear c41b0
                 try clear c43
                 try clear hcz14_0
                 try clear hcz19_0
                 try clear hcz26_0
                 try clear hcz28_0
                 try clear hcz30_0
                 try clear hcz31_0
                 try clear hcz44_0
                 try clear hfz14_0
                 try clear hfz19_0
                 try clear hfz26_0
                 try clear hfz28_0
                 try clear hfz30_0
                 try clear hfz31_0
                 try clear hfz44_0
                 try clear hx273_0
                 try clear p2
                 try clear p27
                 try clear p273
                 try clear p6
                 try clear q2
                 try clear q27
                 try clear q273
                 obtain ⟨x10_6, x13_6, rfl, HA, HK6, HO_10, HO_12, HO_267000, HO_271000, BK266, BK270, HB⟩ := hrel
                 cases gk with
                 | zero => exact absurd HA.out (by simp [heronrylaw15_OplistUndoes.l3])
                 | succ k6 =>
                  have H := HA.out
                  clear HA
                  simp only [heronrylaw15_OplistUndoes.l3] at H
                  by_cases c46 : x13_6 < (t277.length : Int)
                  ·rw [if_pos c46] at H
                   have c46b0 : decide (x13_6 < (t277.length : Int)) = true := decide_eq_true c46
                   clear c46
                   by_cases c47 : 0 ≤ x13_6
                   ·rw [if_pos c47] at H
                    have c47b0 : decide (0 ≤ x13_6) = true := decide_eq_true c47
                    clear c47
                    by_cases c48 : ((rd_T33 t277 x13_6).f1) = x9_4
                    ·rw [if_pos c48] at H
                     have c48b0 : (((rd_T33 t277 x13_6).f1) == x9_4) = true := beq_iff_eq.mpr c48
                     have c48b1 : (((rd_T33 t277 x13_6).f1) != x9_4) = false := bne_eq_false_iff_eq.mpr c48
                     clear c48
                     by_cases c49 : x10_6.length < 17592186044416
                     ·rw [if_pos c49] at H
                      have LMc49 := Aside0.mk c49
                      clear c49
                      obtain ⟨y282, hy282⟩ : ∃ y_ : List Int, y_ = (x10_6 ++ [(rd_T33 t277 x13_6).f2]) := ⟨_, rfl⟩
                      replace H : (heronrylaw15_OplistUndoes.l3 k6 t262 x9_4 y282 x11_5 t277 (wrap64 (x13_6 + 1)) t267) = some r := by first | (rw [hy282]; with_reducible exact H) | (have H2_ := (Option.bind_some _ _).symm.trans H; rw [hy282]; with_reducible exact H2_) | (have H2_ := (Option.bind_some _ _).symm.trans H; with_reducible exact H2_) | with_reducible exact H | (rw [hy282]; exact H) | exact H
                      have Ny282 := Aside0.mk hy282
                      clear hy282
                      have H' := Aside0.mk H
                      clear H
                      obtain ⟨Ao50, co50, eo50⟩ := Kd.R_slice HO_12.out
                      subst eo50
                      have p280 : 0 ≤ (x13_6 : Int) := of_decide_eq_true (by first | (with_reducible assumption) | assumption)
                      have q280 : x13_6 < (t277.length : Int) := of_decide_eq_true (by first | (with_reducible assumption) | assumption)
                      obtain ⟨ad280, e280, hx280_0, hx280_1, hx280_2, hx280_3⟩ := at_T33 (Kd.R_reads' HO_12.out).2.2 x13_6 p280 q280
                      cases e280
                      replace p280 := eq_true p280
                      replace q280 := eq_true q280
                      have p281 : 0 ≤ (x13_6 : Int) := of_decide_eq_true (by first | (with_reducible assumption) | assumption)
                      have q281 : x13_6 < (t277.length : Int) := of_decide_eq_true (by first | (with_reducible assumption) | assumption)
                      obtain ⟨ad281, e281, hx281_0, hx281_1, hx281_2, hx281_3⟩ := at_T33 (Kd.R_reads' HO_12.out).2.2 x13_6 p281 q281
                      obtain rfl : ad280 = ad281 := (by injection e281)
                      replace p281 := eq_true p281
                      replace q281 := eq_true q281
                      go_wp2_with (first | ((with_reducible refine gate_builtin (b := .append) (xs := #[.tmp 94, .tmp 100]) rfl ?_); (try (refine gate_guard (by rfl) ?_; dsimp only)); at_builtin; refine Kd.R_append (Kd.int .i64) (w0 := w) w.heap.size rfl (.tmp 94) (.tmp 100) 35 3 (.int .i64 0) 8 rfl Try.underlying35 info3 rfl (by decide) (by omega) u10 x10_6 ((rd_T33 t277 x13_6).f2) [.int .i64 ((rd_T33 t277 x13_6).f2)] (fun _ => True) (fun _ => False) rfl rfl ?aP (fun _ hk => hk.elim) ?aF ?aO ?aB ?aS ?aL ?_; (case aP => exact rfl); (case aB => exact (by repeat (first | (with_reducible first | exact HB.out | apply below_alloc | apply pw_below_drewN | apply below_drew1 | refine below_set ?_ GE266.out | refine below_set ?_ GE270.out) | exact HB.out))); (case aF => exact (fun _ _ => trivial)); (case aO => exact (by (with_reducible repeat (first | apply Kd.R_alloc | apply Kd.R_drewN | apply Kd.R_drew)); exact HO_10.out)); (case aS => exact (below_size (by repeat (first | (with_reducible first | exact HB.out | apply below_alloc | apply pw_below_drewN | apply below_drew1 | refine below_set ?_ GE266.out | refine below_set ?_ GE270.out) | exact HB.out)))); (case aL => have := LMc49.out; omega); intro v283 w51 ho hb hg hat; rw [← Ny282.out] at ho; have n0_ := Aside0.mk (Kd.R_over' (by (with_reducible repeat (first | apply Kd.R_alloc | apply Kd.R_drewN | apply Kd.R_drew)); exact HO_12.out) (Kd.R_typed (by (with_reducible repeat (first | apply Kd.R_alloc | apply Kd.R_drewN | apply Kd.R_drew)); exact HO_10.out)) (by decide) hg); have n1_ := Aside0.mk (Kd.R_over' (by (with_reducible repeat (first | apply Kd.R_alloc | apply Kd.R_drewN | apply Kd.R_drew)); exact HO_267000.out) (Kd.R_typed (by (with_reducible repeat (first | apply Kd.R_alloc | apply Kd.R_drewN | apply Kd.R_drew)); exact HO_10.out)) (by decide) hg); have n2_ := Aside0.mk (Kd.R_over' (by (with_reducible repeat (first | apply Kd.R_alloc | apply Kd.R_drewN | apply Kd.R_drew)); exact HO_271000.out) (Kd.R_typed (by (with_reducible repeat (first | apply Kd.R_alloc | apply Kd.R_drewN | apply Kd.R_drew)); exact HO_10.out)) (by decide) hg); have n3_ := Aside0.mk (blk_grown (g := gb266) (o := .cells #[.slice Ao13 t263.length co13] 26 (0, 0)) (by (with_reducible repeat (first | refine blk_drewN ?_ _ | refine blk_drew ?_ | refine blk_alloc ?_ _)); exact BK266.out) hg (Kd.R_ne HO_10.out BK266.out (by decide))); have n4_ := Aside0.mk (blk_grown (g := gb270) (o := .cells #[.slice Ao17 t267.length co17] 26 (0, 0)) (by (with_reducible repeat (first | refine blk_drewN ?_ _ | refine blk_drew ?_ | refine blk_alloc ?_ _)); exact BK270.out) hg (Kd.R_ne HO_10.out BK270.out (by decide))); have n5_ := Aside0.mk (hb); have n6_ := Aside0.mk (ho); clear HO_12; clear HO_267000; clear HO_271000; clear BK266; clear BK270; clear HB; clear HO_10; have HO_12 := n0_; have HO_267000 := n1_; have HO_271000 := n2_; have BK266 := n3_; have BK270 := n4_; have HB := n5_; have HO284 := n6_; clear n0_ n1_ n2_ n3_ n4_ n5_ n6_; clear ho hb hg hat))
                      go_roundg k6
                      case measure => have := HJ3.out; have := HJ9.out; have := HK3.out; have := HK4.out; have := HK5.out; have := HK6.out; omega
                      case rel => exact ⟨(y282), (wrap64 (x13_6 + 1)), (by first | rfl | (simp; done) | (simp [*]; done)), H', ⟨by have := HJ3.out; have := HJ9.out; have := HK3.out; have := HK4.out; have := HK5.out; have := HK6.out; omega⟩, ⟨by (with_reducible repeat (first | apply Kd.R_alloc | apply Kd.R_drewN | apply Kd.R_drew)); exact HO284.out⟩, ⟨by (with_reducible repeat (first | apply Kd.R_alloc | apply Kd.R_drewN | apply Kd.R_drew)); exact HO_12.out⟩, ⟨by (with_reducible repeat (first | apply Kd.R_alloc | apply Kd.R_drewN | apply Kd.R_drew)); exact HO_267000.out⟩, ⟨by (with_reducible repeat (first | apply Kd.R_alloc | apply Kd.R_drewN | apply Kd.R_drew)); exact HO_271000.out⟩, ⟨by (with_reducible repeat (first | refine blk_drewN ?_ _ | refine blk_drew ?_ | refine blk_alloc ?_ _)); exact BK266.out⟩, ⟨by (with_reducible repeat (first | refine blk_drewN ?_ _ | refine blk_drew ?_ | refine blk_alloc ?_ _)); exact BK270.out⟩, ⟨by repeat (first | (with_reducible first | exact HB.out | apply below_alloc | apply pw_below_drewN | apply below_drew1 | refine below_set ?_ GE266.out | refine below_set ?_ GE270.out) | exact HB.out)⟩⟩
                     ·rw [if_neg c49] at H
                      exact absurd H (by simp)
                    ·rw [if_neg c48] at H
                     have c48b0 : (((rd_T33 t277 x13_6).f1) == x9_4) = false := beq_eq_false_iff_ne.mpr c48
                     have c48b1 : (((rd_T33 t277 x13_6).f1) != x9_4) = true := bne_iff_ne.mpr c48
                     have H' := Aside0.mk H
                     clear H
                     obtain ⟨Ao52, co52, eo52⟩ := Kd.R_slice HO_12.out
                     subst eo52
                     have p280 : 0 ≤ (x13_6 : Int) := of_decide_eq_true (by first | (with_reducible assumption) | assumption)
                     have q280 : x13_6 < (t277.length : Int) := of_decide_eq_true (by first | (with_reducible assumption) | assumption)
                     obtain ⟨ad280, e280, hx280_0, hx280_1, hx280_2, hx280_3⟩ := at_T33 (Kd.R_reads' HO_12.out).2.2 x13_6 p280 q280
                     cases e280
                     replace p280 := eq_true p280
                     replace q280 := eq_true q280
                     go_wp2
                     go_roundg k6
                     case measure => have := HJ3.out; have := HJ9.out; have := HK3.out; have := HK4.out; have := HK5.out; have := HK6.out; omega
                     case rel => exact ⟨(x10_6), (wrap64 (x13_6 + 1)), (by first | rfl | (simp; done) | (simp [*]; done)), H', ⟨by have := HJ3.out; have := HJ9.out; have := HK3.out; have := HK4.out; have := HK5.out; have := HK6.out; omega⟩, ⟨by (with_reducible repeat (first | apply Kd.R_alloc | apply Kd.R_drewN | apply Kd.R_drew)); exact HO_10.out⟩, ⟨by (with_reducible repeat (first | apply Kd.R_alloc | apply Kd.R_drewN | apply Kd.R_drew)); exact HO_12.out⟩, ⟨by (with_reducible repeat (first | apply Kd.R_alloc | apply Kd.R_drewN | apply Kd.R_drew)); exact HO_267000.out⟩, ⟨by (with_reducible repeat (first | apply Kd.R_alloc | apply Kd.R_drewN | apply Kd.R_drew)); exact HO_271000.out⟩, ⟨by (with_reducible repeat (first | refine blk_drewN ?_ _ | refine blk_drew ?_ | refine blk_alloc ?_ _)); exact BK266.out⟩, ⟨by (with_reducible repeat (first | refine blk_drewN ?_ _ | refine blk_drew ?_ | refine blk_alloc ?_ _)); exact BK270.out⟩, ⟨by repeat (first | (with_reducible first | exact HB.out | apply below_alloc | apply pw_below_drewN | apply below_drew1 | refine below_set ?_ GE266.out | refine below_set ?_ GE270.out) | exact HB.out)⟩⟩
                   ·rw [if_neg c47] at H
                    exact absurd H (by simp)
                  ·rw [if_neg c46] at H
                   have c46b0 : decide (x13_6 < (t277.length : Int)) = false := decide_eq_false c46
                   clear c46
                   have H' := Aside0.mk H
                   clear H
                   obtain ⟨Ao53, co53, eo53⟩ := Kd.R_slice HO_12.out
                   subst eo53
                   go_wp2
                   go_roundg k6
                   case measure => have := HJ3.out; have := HJ9.out; have := HK3.out; have := HK4.out; have := HK5.out; have := HK6.out; omega
                   case rel => exact ⟨(x10_6), (wrap64 (x11_5 + 1)), (by first | rfl | (simp; done) | (simp [*]; done)), H', ⟨by have := HJ3.out; have := HJ9.out; have := HK3.out; have := HK4.out; have := HK5.out; have := HK6.out; omega⟩, ⟨by (with_reducible repeat (first | apply Kd.R_alloc | apply Kd.R_drewN | apply Kd.R_drew)); exact HO_10.out⟩, ⟨by (with_reducible repeat (first | apply Kd.R_alloc | apply Kd.R_drewN | apply Kd.R_drew)); exact Kd.R_mono HO_267000.out (fun _ hk => hk.2)⟩, ⟨by (with_reducible repeat (first | apply Kd.R_alloc | apply Kd.R_drewN | apply Kd.R_drew)); exact Kd.R_mono HO_271000.out (fun _ hk => hk.2)⟩, ⟨by (with_reducible repeat (first | refine blk_drewN ?_ _ | refine blk_drew ?_ | refine blk_alloc ?_ _)); exact BK266.out⟩, ⟨by (with_reducible repeat (first | refine blk_drewN ?_ _ | refine blk_drew ?_ | refine blk_alloc ?_ _)); exact BK270.out⟩, ⟨by repeat (first | (with_reducible first | exact HB.out | apply below_alloc | apply pw_below_drewN | apply below_drew1 | refine below_set ?_ GE266.out | refine below_set ?_ GE270.out) | exact HB.out)⟩⟩
               ·rw [if_neg c41] at H
                have c41b0 : decide (x11_5 < 8) = false := decide_eq_false c41
                clear c41
                replace H := Option.bind_eq_some_iff.mp H
                obtain ⟨⟨t285, t286⟩, A540, H⟩ := H
                replace H : ((span_Sum.f x10_5).bind fun bt287 => (if t285 = bt287.1 then (if t286 = bt287.2 then (heronrylaw15_OplistUndoes.l1 k5 t262 (wrap64 (x9_4 + 1)) t267) else (none)) else (none))) = some r := H
                have A54 := Aside0.mk A540
                clear A540
                replace H := Option.bind_eq_some_iff.mp H
                obtain ⟨⟨t287, t288⟩, A550, H⟩ := H
                replace H : (if t285 = t287 then (if t286 = t288 then (heronrylaw15_OplistUndoes.l1 k5 t262 (wrap64 (x9_4 + 1)) t267) else (none)) else (none)) = some r := H
                have A55 := Aside0.mk A550
                clear A550
                by_cases c56 : t285 = t287
                ·rw [if_pos c56] at H
                 have c56b0 : (t285 == t287) = true := beq_iff_eq.mpr c56
                 have c56b1 : (t285 != t287) = false := bne_eq_false_iff_eq.mpr c56
                 clear c56
                 by_cases c57 : t286 = t288
                 ·rw [if_pos c57] at H
                  have c57b0 : (t286 == t288) = true := beq_iff_eq.mpr c57
                  have c57b1 : (t286 != t288) = false := bne_eq_false_iff_eq.mpr c57
                  clear c57
                  have H' := Aside0.mk H
                  clear H
                  have hnb58 := NB270_266.out
                  have hnc58 := NB266_270.out
                  have hcz59_0 : wr.cell? ⟨gb270, 0, none⟩ = some (.slice Ao17 t267.length co17) := (blk_cell BK270.out 0).trans rfl
                  have hfz59_0 := blk_frozen BK270.out 0
                  go_wp2_with (first | ((with_reducible refine gate_callee (f := 16) rfl ?_); refine goesL_ (some 105) rfl rfl Try.func16 (by kernel_rfl) rfl #[.agg #[.slice Ao17 t267.length co17], .int .i64 x9_4] rfl (by (try simp only [List.map_toArray, List.map_cons, List.map_nil]); first | done | rfl | (simp only [List.length_drop, List.length_take]; rfl)) ?_; (with_reducible refine (oplist_Net.calls k5 _ _ t267 x9_4 t285 t286 _ ?side1 ?side2 A54.out).mono ?_); (case side1 => repeat (first | exact (Kd.R_reads' HO_271000.out).2.2 | (with_reducible refine Kd.C_alloc ?_ _) | (with_reducible refine Kd.C_drewN ?_ _) | (with_reducible refine Kd.C_drew ?_))); (case side2 => exact (Kd.R_reads' HO_271000.out).2.1); rintro e w60 ⟨rfl, hb⟩; refine ⟨_, rfl, ?_⟩; have n0_ := Aside0.mk (Kd.R_below (by (with_reducible repeat (first | apply Kd.R_alloc | apply Kd.R_drewN | apply Kd.R_drew)); exact HO_10.out) hb); have n1_ := Aside0.mk (Kd.R_below (by (with_reducible repeat (first | apply Kd.R_alloc | apply Kd.R_drewN | apply Kd.R_drew)); exact HO_267000.out) hb); have n2_ := Aside0.mk (Kd.R_below (by (with_reducible repeat (first | apply Kd.R_alloc | apply Kd.R_drewN | apply Kd.R_drew)); exact HO_271000.out) hb); have n3_ := Aside0.mk (blk_below (g := gb266) (o := .cells #[.slice Ao13 t263.length co13] 26 (0, 0)) (by (with_reducible repeat (first | refine blk_drewN ?_ _ | refine blk_drew ?_ | refine blk_alloc ?_ _)); exact BK266.out) hb); have n4_ := Aside0.mk (blk_below (g := gb270) (o := .cells #[.slice Ao17 t267.length co17] 26 (0, 0)) (by (with_reducible repeat (first | refine blk_drewN ?_ _ | refine blk_drew ?_ | refine blk_alloc ?_ _)); exact BK270.out) hb); have n5_ := Aside0.mk (below_step (by repeat (first | (with_reducible first | exact HB.out | apply below_alloc | apply pw_below_drewN | apply below_drew1 | refine below_set ?_ GE266.out | refine below_set ?_ GE270.out) | exact HB.out)) hb); clear HO_10; clear HO_267000; clear HO_271000; clear BK266; clear BK270; clear HB; have HO_10 := n0_; have HO_267000 := n1_; have HO_271000 := n2_; have BK266 := n3_; have BK270 := n4_; have HB := n5_; clear n0_ n1_ n2_ n3_ n4_ n5_; (try clear hb); (try clear hb2); (try clear hk); (try clear hi); obtain ⟨Ao61, co61, eo61⟩ := Kd.R_slice HO_10.out; subst eo61) | ((with_reducible refine gate_callee (f := 17) rfl ?_); refine goesL_ (some 110) rfl rfl Try.func17 (by kernel_rfl) rfl #[.slice Ao61 x10_5.length co61] rfl (by (try simp only [List.map_toArray, List.map_cons, List.map_nil]); first | done | rfl | (simp only [List.length_drop, List.length_take]; rfl)) ?_; (with_reducible refine (span_Sum.calls _ _ x10_5 t287 t288 _ ?side1 ?side2 A55.out).mono ?_); (case side1 => repeat (first | exact (Kd.R_reads' HO_10.out).2.2 | (with_reducible refine Kd.C_alloc ?_ _) | (with_reducible refine Kd.C_drewN ?_ _) | (with_reducible refine Kd.C_drew ?_))); (case side2 => exact (Kd.R_reads' HO_10.out).2.1); rintro e w62 ⟨rfl, hb⟩; refine ⟨_, rfl, ?_⟩; have n0_ := Aside0.mk (Kd.R_below (by (with_reducible repeat (first | apply Kd.R_alloc | apply Kd.R_drewN | apply Kd.R_drew)); exact HO_10.out) hb); have n1_ := Aside0.mk (Kd.R_below (by (with_reducible repeat (first | apply Kd.R_alloc | apply Kd.R_drewN | apply Kd.R_drew)); exact HO_267000.out) hb); have n2_ := Aside0.mk (Kd.R_below (by (with_reducible repeat (first | apply Kd.R_alloc | apply Kd.R_drewN | apply Kd.R_drew)); exact HO_271000.out) hb); have n3_ := Aside0.mk (blk_below (g := gb266) (o := .cells #[.slice Ao13 t263.length co13] 26 (0, 0)) (by (with_reducible repeat (first | refine blk_drewN ?_ _ | refine blk_drew ?_ | refine blk_alloc ?_ _)); exact BK266.out) hb); have n4_ := Aside0.mk (blk_below (g := gb270) (o := .cells #[.slice Ao17 t267.length co17] 26 (0, 0)) (by (with_reducible repeat (first | refine blk_drewN ?_ _ | refine blk_drew ?_ | refine blk_alloc ?_ _)); exact BK270.out) hb); have n5_ := Aside0.mk (below_step (by repeat (first | (with_reducible first | exact HB.out | apply below_alloc | apply pw_below_drewN | apply below_drew1 | refine below_set ?_ GE266.out | refine below_set ?_ GE270.out) | exact HB.out)) hb); clear HO_10; clear HO_267000; clear HO_271000; clear BK266; clear BK270; clear HB; have HO_10 := n0_; have HO_267000 := n1_; have HO_271000 := n2_; have BK266 := n3_; have BK270 := n4_; have HB := n5_; clear n0_ n1_ n2_ n3_ n4_ n5_; (try clear hb); (try clear hb2); (try clear hk); (try clear hi)))
                  go_roundg k5
                  case measure => have := HJ3.out; have := HJ9.out; have := HK3.out; have := HK4.out; have := HK5.out; omega
                  case rel => exact ⟨(wrap64 (x9_4 + 1)), (by first | rfl | (simp; done) | (simp [*]; done)), H', ⟨by have := HJ3.out; have := HJ9.out; have := HK3.out; have := HK4.out; have := HK5.out; omega⟩, ⟨by (with_reducible repeat (first | apply Kd.R_alloc | apply Kd.R_drewN | apply Kd.R_drew)); exact HO_267000.out⟩, ⟨by (with_reducible repeat (first | apply Kd.R_alloc | apply Kd.R_drewN | apply Kd.R_drew)); exact HO_271000.out⟩, ⟨by (with_reducible repeat (first | refine blk_drewN ?_ _ | refine blk_drew ?_ | refine blk_alloc ?_ _)); exact BK266.out⟩, ⟨by (with_reducible repeat (first | refine blk_drewN ?_ _ | refine blk_drew ?_ | refine blk_alloc ?_ _)); exact BK270.out⟩, ⟨by repeat (first | (with_reducible first | exact HB.out | apply below_alloc | apply pw_below_drewN | apply below_drew1 | refine below_set ?_ GE266.out | refine below_set ?_ GE270.out) | exact HB.out)⟩⟩
                 ·rw [if_neg c57] at H
                  exact absurd H (by simp)
                ·rw [if_neg c56] at H
                 exact absurd H (by simp)
            ·rw [if_neg c40] at H
             have c40b0 : decide (x9_4 < 4) = false := decide_eq_false c40
             clear c40
             obtain rfl := Option.some.inj H
             go_wp2
             go_ret
             exact ⟨by first | rfl | (simp [errW_none, errW_some] <;> rfl) | (simp [*, errW_none, errW_some] <;> rfl), by repeat (first | (with_reducible first | exact HB.out | apply below_alloc | apply pw_below_drewN | apply below_drew1 | refine below_set ?_ GE266.out | refine below_set ?_ GE270.out) | exact HB.out)⟩

end Go.Proofs.Ytjpoepiidmoegaa.Q
