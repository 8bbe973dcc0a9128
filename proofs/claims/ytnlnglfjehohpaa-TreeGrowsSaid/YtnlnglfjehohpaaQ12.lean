-- Cut to what one claim reaches, out of what the kit's print laid for this seat (wip/tools/trim.py).
import Derived.Test.YtnlnglfjehohpaaQ0
import Derived.Test.YtnlnglfjehohpaaQ5
import Derived.Test.YtnlnglfjehohpaaQ6
import Derived.Test.YtnlnglfjehohpaaQ7
import Derived.Test.YtnlnglfjehohpaaTD
import Derived.Test.YtnlnglfjehohpaaTL
import Derived.Test.YtnlnglfjehohpaaTO
namespace Go.Proofs.Ytnlnglfjehohpaa.Q
open Go.RowKit Go.Proofs.YtnlnglfjehohpaaW.PrintWords Go.Proofs.YtnlnglfjehohpaaW.PrintLast Go.Proofs.YtnlnglfjehohpaaW.PrintMore
attribute [local go_sem] max2_int min2_int max_two min_two max_three min_three max_four min_four   -- for this text's walks alone
set_option linter.unusedVariables false
set_option linter.unusedSimpArgs false

mutual
def heronrylaw09_TreeGrows.l0 : Nat → Bool → List Int → List Int → Int → List (S35) → Int → Option (Bool)
 | 0, _, _, _, _, _, _ => none
 | k + 1, x3, x5, x6, x7, x355000, x355001 => if x7 < (x5.length : Int) then (if 0 ≤ x7 then (if (rd x5 x7) < 0 then (some false) else (if (rd x5 x7) ≥ (x6.length : Int) then (some false) else (if 0 ≤ (rd x5 x7) then (if (rd x5 x7) < (x6.length : Int) then (heronrylaw09_TreeGrows.l0 k x3 x5 (x6.set ((rd x5 x7) : Int).toNat (wrap64 ((rd x6 (rd x5 x7)) + 1))) (wrap64 (x7 + 1)) x355000 x355001) else (none)) else (none)))) else (none)) else (heronrylaw09_TreeGrows.l1 k x3 x6 0 x355000 x355001)
def heronrylaw09_TreeGrows.l1 : Nat → Bool → List Int → Int → List (S35) → Int → Option (Bool)
 | 0, _, _, _, _, _ => none
 | k + 1, x3, x6, x8, x355000, x355001 => if x8 < (x355000.length : Int) then ((tree_Fixed.f x355000 x355001 x8).bind fun t367 => (if t367 = true then (if 0 ≤ x8 then (if x8 < (x6.length : Int) then (if (rd x6 x8) = 1 then ((tree_Lost.f x355000 x355001 x8).bind fun t369 => (if t369 = true then (some false) else (if ((rd_T35 x355000 x8).f1) = 1 then ((tree_Lost.f x355000 x355001 x8).bind fun t371 => (if t371 = true then (some false) else ((tree_Deep.f x355000 x355001 x8).bind fun t372 => (if t372 > 8 then (some false) else (heronrylaw09_TreeGrows.l1 k x3 x6 (wrap64 (x8 + 1)) x355000 x355001))))) else ((tree_Deep.f x355000 x355001 x8).bind fun t373 => (if t373 > 8 then (some false) else (heronrylaw09_TreeGrows.l1 k x3 x6 (wrap64 (x8 + 1)) x355000 x355001)))))) else (some false)) else (none)) else (none)) else (if 0 ≤ x8 then (if x8 < (x6.length : Int) then (if (rd x6 x8) = 0 then (if ((rd_T35 x355000 x8).f1) = 1 then ((tree_Lost.f x355000 x355001 x8).bind fun t376 => (if t376 = true then (some false) else ((tree_Deep.f x355000 x355001 x8).bind fun t377 => (if t377 > 8 then (some false) else (heronrylaw09_TreeGrows.l1 k x3 x6 (wrap64 (x8 + 1)) x355000 x355001))))) else ((tree_Deep.f x355000 x355001 x8).bind fun t378 => (if t378 > 8 then (some false) else (heronrylaw09_TreeGrows.l1 k x3 x6 (wrap64 (x8 + 1)) x355000 x355001)))) else (some false)) else (none)) else (none)))) else (if x3 = true then ((tree_Sane.f k x355000 x355001).bind fun t366 => (some t366)) else (some false))
end
def heronrylaw09_TreeGrows.f (k : Nat) (l0 : List (S47)) : Option (Bool) := (heronrylaw09_awake.f k).bind fun t349 => (if (l0.length : Int) > 150 then (some t349) else ((heronrylaw09_grown.f k l0).bind fun bt350 => ((tree_Order.f bt350.1 bt350.2).bind fun t355 => (if 0 ≤ (bt350.1.length : Int) then (if ((bt350.1.length : Int) : Int).toNat ≤ 35184372088832 then (heronrylaw09_TreeGrows.l0 k t349 t355 (List.replicate ((bt350.1.length : Int) : Int).toNat 0) 0 bt350.1 bt350.2) else (none)) else (none)))))
set_option maxHeartbeats 8000000 in
set_option maxRecDepth 100000 in
theorem heronrylaw09_TreeGrows.calls (k : Nat) (A0 : Option Addr) (c0 : Nat) (l0 : List (S47)) (r : Bool) (w : World) (hT_ : Aside0 (r = true)) (hr0 : Kd.C k47 w A0 l0.length l0) (hc0 : l0.length ≤ c0) (h : heronrylaw09_TreeGrows.f k l0 = some r) :
  Calls Try.prog 7 #[.slice A0 l0.length c0] w fun e w' => e = .returned (.bool r) ∧ Below w.heap.size w w' := by
 have hu26 := Try.underlying26
 have HR0 := Aside0.mk hr0
 have HC0 := Aside0.mk hc0
 clear hr0 hc0
 have HB := Aside0.mk (Below.refl w.heap.size w)
 have H : ((heronrylaw09_awake.f k).bind fun t349 => (if (l0.length : Int) > 150 then (some t349) else ((heronrylaw09_grown.f k l0).bind fun bt350 => ((tree_Order.f bt350.1 bt350.2).bind fun t355 => (if 0 ≤ (bt350.1.length : Int) then (if ((bt350.1.length : Int) : Int).toNat ≤ 35184372088832 then (heronrylaw09_TreeGrows.l0 k t349 t355 (List.replicate ((bt350.1.length : Int) : Int).toNat 0) 0 bt350.1 bt350.2) else (none)) else (none)))))) = some r := h
 clear h
 replace H := Option.bind_eq_some_iff.mp H
 obtain ⟨t349, A20, H⟩ := H
 replace H : (if (l0.length : Int) > 150 then (some t349) else ((heronrylaw09_grown.f k l0).bind fun bt350 => ((tree_Order.f bt350.1 bt350.2).bind fun t355 => (if 0 ≤ (bt350.1.length : Int) then (if ((bt350.1.length : Int) : Int).toNat ≤ 35184372088832 then (heronrylaw09_TreeGrows.l0 k t349 t355 (List.replicate ((bt350.1.length : Int) : Int).toNat 0) 0 bt350.1 bt350.2) else (none)) else (none))))) = some r := H
 have A2 := Aside0.mk A20
 clear A20
 by_cases c3 : (l0.length : Int) > 150
 ·rw [if_pos c3] at H
  have c3b0 : decide (150 < (l0.length : Int)) = true := decide_eq_true c3
  have c3b1 : decide (150 < l0.length) = true := decide_eq_true (by omega)
  clear c3
  obtain rfl := Option.some.inj H
  go_enter Try.func7, Try.ntmps7
  go_wp2_with (first | ((with_reducible refine gate_callee (f := 8) rfl ?_); refine goesL_ (some 10) rfl rfl Try.func8 (by kernel_rfl) rfl #[] rfl (by (try simp only [List.map_toArray, List.map_cons, List.map_nil]); first | done | rfl | (simp only [List.length_drop, List.length_take]; rfl)) ?_; (with_reducible refine (heronrylaw09_awake.calls k  t349 _ A2.out).mono ?_); rintro e w4 ⟨rfl, hb⟩; refine ⟨_, rfl, ?_⟩; have n0_ := Aside0.mk (below_step (by repeat (first | (with_reducible first | exact HB.out | apply below_alloc | apply pw_below_drewN | apply below_drew1) | exact HB.out)) hb); clear HB; have HB := n0_; clear n0_; (try clear hb); (try clear hb2); (try clear hk); (try clear hi)))
  go_ret
  exact ⟨by first | rfl | (simp [errW_none, errW_some] <;> rfl) | (simp [*, errW_none, errW_some] <;> rfl), by repeat (first | (with_reducible first | exact HB.out | apply below_alloc | apply pw_below_drewN | apply below_drew1) | exact HB.out)⟩
 ·rw [if_neg c3] at H
  have c3b0 : decide (150 < (l0.length : Int)) = false := decide_eq_false c3
  have c3b1 : decide (150 < l0.length) = false := decide_eq_false (by omega)
  clear c3
  replace H := Option.bind_eq_some_iff.mp H
  obtain ⟨⟨t350, t353⟩, A50, H⟩ := H
  replace H : ((tree_Order.f t350 t353).bind fun t355 => (if 0 ≤ (t350.length : Int) then (if ((t350.length : Int) : Int).toNat ≤ 35184372088832 then (heronrylaw09_TreeGrows.l0 k t349 t355 (List.replicate ((t350.length : Int) : Int).toNat 0) 0 t350 t353) else (none)) else (none))) = some r := H
  have A5 := Aside0.mk A50
  clear A50
  replace H := Option.bind_eq_some_iff.mp H
  obtain ⟨t355, A60, H⟩ := H
  replace H : (if 0 ≤ (t350.length : Int) then (if ((t350.length : Int) : Int).toNat ≤ 35184372088832 then (heronrylaw09_TreeGrows.l0 k t349 t355 (List.replicate ((t350.length : Int) : Int).toNat 0) 0 t350 t353) else (none)) else (none)) = some r := H
  have A6 := Aside0.mk A60
  clear A60
  by_cases c7 : 0 ≤ (t350.length : Int)
  ·rw [if_pos c7] at H
   have c7b0 := eq_true c7
   have c7b1 : decide (0 ≤ (t350.length : Int)) = true := decide_eq_true c7
   clear c7
   by_cases c8 : ((t350.length : Int) : Int).toNat ≤ 35184372088832
   ·rw [if_pos c8] at H
    have c8b0 := eq_true c8
    have c8b1 : decide (((t350.length : Int) : Int).toNat ≤ 35184372088832) = true := decide_eq_true c8
    clear c8
    obtain ⟨y358, hy358⟩ : ∃ y_ : List Int, y_ = (List.replicate ((t350.length : Int) : Int).toNat 0) := ⟨_, rfl⟩
    replace H : (heronrylaw09_TreeGrows.l0 k t349 t355 y358 0 t350 t353) = some r := by first | (rw [hy358]; with_reducible exact H) | (have H2_ := (Option.bind_some _ _).symm.trans H; rw [hy358]; with_reducible exact H2_) | (have H2_ := (Option.bind_some _ _).symm.trans H; with_reducible exact H2_) | with_reducible exact H | (rw [hy358]; exact H) | exact H
    have Ny358 := Aside0.mk hy358
    clear hy358
    have H' := Aside0.mk H
    clear H
    go_enter Try.func7, Try.ntmps7
    go_wp2_with (first | ((with_reducible refine gate_callee (f := 8) rfl ?_); refine goesL_ (some 10) rfl rfl Try.func8 (by kernel_rfl) rfl #[] rfl (by (try simp only [List.map_toArray, List.map_cons, List.map_nil]); first | done | rfl | (simp only [List.length_drop, List.length_take]; rfl)) ?_; (with_reducible refine (heronrylaw09_awake.calls k  t349 _ A2.out).mono ?_); rintro e w9 ⟨rfl, hb⟩; refine ⟨_, rfl, ?_⟩; have n0_ := Aside0.mk (below_step (by repeat (first | (with_reducible first | exact HB.out | apply below_alloc | apply pw_below_drewN | apply below_drew1) | exact HB.out)) hb); clear HB; have HB := n0_; clear n0_; (try clear hb); (try clear hb2); (try clear hk); (try clear hi)) | ((with_reducible refine gate_callee (f := 9) rfl ?_); refine goesL_ (some 16) rfl rfl Try.func9 (by kernel_rfl) rfl #[.slice A0 l0.length c0] rfl (by (try simp only [List.map_toArray, List.map_cons, List.map_nil]); first | done | rfl | (simp only [List.length_drop, List.length_take]; rfl)) ?_; (with_reducible refine (heronrylaw09_grown.calls k _ _ l0 t350 t353 _ ?side1 ?side2 A5.out).mono ?_); (case side1 => repeat (first | exact (Kd.C_below HR0.out HB.out) | (with_reducible refine Kd.C_alloc ?_ _) | (with_reducible refine Kd.C_drewN ?_ _) | (with_reducible refine Kd.C_drew ?_))); (case side2 => exact HC0.out); rintro e w10 ⟨v351, rfl, ho0, hb⟩; refine ⟨_, rfl, ?_⟩; have n0_ := Aside0.mk (Kd.R_lower ho0 (below_size (by repeat (first | (with_reducible first | exact HB.out | apply below_alloc | apply pw_below_drewN | apply below_drew1) | exact HB.out)))); have n1_ := Aside0.mk (below_step (by repeat (first | (with_reducible first | exact HB.out | apply below_alloc | apply pw_below_drewN | apply below_drew1) | exact HB.out)) hb); clear HB; have HO352 := n0_; have HB := n1_; clear n0_ n1_; (try clear hb); (try clear hb2); (try clear hk); (try clear hi); (try clear ho0)) | ((with_reducible refine gate_dst (N := 4) rfl ?_); (try (refine gate_guard (by rfl) ?_; dsimp only)); refine box_event ?hg (N := 4) ?hd (cs := #[.slice none 0 0, .int .i64 0]) (t := 26) ?hr ?_; (case hd => rfl); (case hg => rfl); (case hr => first | (go_simp; done) | (go_simp; rfl)); intro gb354 hg w11 hbox hb; have n0_ := Aside0.mk (Kd.R_below (by (with_reducible repeat (first | apply Kd.R_alloc | apply Kd.R_drewN | apply Kd.R_drew)); exact HO352.out) hb); have n1_ := Aside0.mk (below_step (by repeat (first | (with_reducible first | exact HB.out | apply below_alloc | apply pw_below_drewN | apply below_drew1) | exact HB.out)) hb); have n2_ := Aside0.mk (hbox); have n3_ := Aside0.mk ((by rw [hg]; exact (below_size (by repeat (first | (with_reducible first | exact HB.out | apply below_alloc | apply pw_below_drewN | apply below_drew1) | exact HB.out))) : w.heap.size ≤ gb354)); have n4_ := Aside0.mk ((by rw [hg]; exact (below_size (by repeat (first | (with_reducible first | exact HB.out | apply below_alloc | apply pw_below_drewN | apply below_drew1) | exact HB.out))) : w.heap.size ≤ gb354)); clear HO352; clear HB; have HO352 := n0_; have HB := n1_; have BK354 := n2_; have GW354 := n3_; have GE354 := n4_; clear n0_ n1_ n2_ n3_ n4_; clear hb hbox hg; obtain ⟨Ao12, co12, eo12⟩ := Kd.R_slice HO352.out; subst eo12; have hcz13_0 : w11.cell? ⟨gb354, 0, none⟩ = some (.slice none 0 0) := (blk_cell BK354.out 0).trans rfl; have hcz13_1 : w11.cell? ⟨gb354, 1, none⟩ = some (.int .i64 0) := (blk_cell BK354.out 1).trans rfl; have hfz13_0 := blk_frozen BK354.out 0; have hfz13_1 := blk_frozen BK354.out 1) | ((with_reducible refine gate_callee (f := 19) rfl ?_); refine goesL_ (some 18) rfl rfl Try.func19 (by kernel_rfl) rfl #[.agg #[.slice Ao12 t350.length co12, .int .i64 t353]] rfl (by (try simp only [List.map_toArray, List.map_cons, List.map_nil]); first | done | rfl | (simp only [List.length_drop, List.length_take]; rfl)) ?_; (with_reducible refine (tree_Order.calls _ _ t350 t353 t355 _ ?side1 ?side2 A6.out).mono ?_); (case side1 => refine (Kd.R_reads' (e := 35) (base := w.heap.size) (ok := fun k_ => True) (n := t350.length) (c := co12) ?_).2.2; exact (by (with_reducible repeat (first | apply Kd.R_alloc | apply Kd.R_drewN | apply Kd.R_drew)); exact (Kd.R_mono (Kd.R_far (p := ⟨gb354, 1, none⟩) (Kd.R_far (p := ⟨gb354, 0, none⟩) (Kd.R_types HO352.out BK354.out (by decide)) (fun _ hk => hk.2) (.slice Ao12 t350.length co12)) (fun _ hk => hk.2) (.int .i64 t353)) (fun _ h_ => h_.1)))); (case side2 => exact (Kd.R_reads' HO352.out).2.1); rintro e w14 ⟨v356, rfl, ho0, hb⟩; refine ⟨_, rfl, ?_⟩; have n0_ := Aside0.mk (Kd.R_below (by (with_reducible repeat (first | apply Kd.R_alloc | apply Kd.R_drewN | apply Kd.R_drew)); exact (Kd.R_mono (Kd.R_far (p := ⟨gb354, 1, none⟩) (Kd.R_far (p := ⟨gb354, 0, none⟩) (Kd.R_types HO352.out BK354.out (by decide)) (fun _ hk => hk.2) (.slice Ao12 t350.length co12)) (fun _ hk => hk.2) (.int .i64 t353)) (fun _ h_ => h_.1))) hb); have n1_ := Aside0.mk (Kd.R_lower ho0 (below_size (by repeat (first | (with_reducible first | exact HB.out | apply below_alloc | apply pw_below_drewN | apply below_drew1 | refine below_set ?_ GE354.out) | exact HB.out)))); have n2_ := Aside0.mk (blk_below (g := gb354) (o := .cells #[.slice Ao12 t350.length co12, .int .i64 t353] 26 (0, 0)) (by (with_reducible repeat (first | refine blk_drewN ?_ _ | refine blk_drew ?_ | refine blk_alloc ?_ _)); refine blk_put (cs := #[.slice Ao12 t350.length co12, .int .i64 0]) ?_ 1 _ rfl; (with_reducible repeat (first | refine blk_drewN ?_ _ | refine blk_drew ?_ | refine blk_alloc ?_ _)); refine blk_put (cs := #[.slice none 0 0, .int .i64 0]) ?_ 0 _ rfl; (with_reducible repeat (first | refine blk_drewN ?_ _ | refine blk_drew ?_ | refine blk_alloc ?_ _)); exact BK354.out) hb); have n3_ := Aside0.mk (below_step (by repeat (first | (with_reducible first | exact HB.out | apply below_alloc | apply pw_below_drewN | apply below_drew1 | refine below_set ?_ GE354.out) | exact HB.out)) hb); clear HO352; clear BK354; clear HB; have HO352 := n0_; have HO357 := n1_; have BK354 := n2_; have HB := n3_; clear n0_ n1_ n2_ n3_; (try clear hb); (try clear hb2); (try clear hk); (try clear hi); (try clear ho0); have hcz15_0 : w14.cell? ⟨gb354, 0, none⟩ = some (.slice Ao12 t350.length co12) := (blk_cell BK354.out 0).trans rfl; have hcz15_1 : w14.cell? ⟨gb354, 1, none⟩ = some (.int .i64 t353) := (blk_cell BK354.out 1).trans rfl; have hfz15_0 := blk_frozen BK354.out 0; have hfz15_1 := blk_frozen BK354.out 1) | ((with_reducible refine gate_dst (N := 22) rfl ?_); (try (refine gate_guard (by rfl) ?_; dsimp only)); refine Kd.R_make (Kd.int .i64) _ 3 rfl (N := 22) rfl 28 _ _ rfl (t350.length : Int) rfl rfl Try.underlying28 (.int .i64 0) 8 info3 rfl (by decide) (by omega) 0 (ok := fun _ => True) (okp := fun _ => True) rfl (fun _ hk => hk) trivial (of_decide_eq_true (by first | (with_reducible assumption) | assumption)) (Nat.le_trans (Nat.mul_le_mul_right _ (of_decide_eq_true (by first | (with_reducible assumption) | assumption) : (t350.length : Int).toNat ≤ 35184372088832)) (by omega)) (Below.refl _ _) (Nat.le_refl _) ?_; intro v359 w16 ho17 hb hg_ hnew_; clear hg_ hnew_; (first | rw [← Ny358.out] at ho17 | (simp only [Int.reduceToNat] at ho17; rw [← Ny358.out] at ho17)); have n0_ := Aside0.mk (Kd.R_below (by (with_reducible repeat (first | apply Kd.R_alloc | apply Kd.R_drewN | apply Kd.R_drew)); exact HO352.out) hb); have n1_ := Aside0.mk (Kd.R_elder' (by (with_reducible repeat (first | apply Kd.R_alloc | apply Kd.R_drewN | apply Kd.R_drew)); exact HO357.out) (Kd.R_base ho17) hb); have n2_ := Aside0.mk (Kd.R_lower (Kd.R_new' ho17 (Kd.R_lt (by (with_reducible repeat (first | apply Kd.R_alloc | apply Kd.R_drewN | apply Kd.R_drew)); exact HO357.out))) (below_size (by repeat (first | (with_reducible first | exact HB.out | apply below_alloc | apply pw_below_drewN | apply below_drew1 | refine below_set ?_ GE354.out) | exact HB.out)))); have n3_ := Aside0.mk (blk_below (g := gb354) (o := .cells #[.slice Ao12 t350.length co12, .int .i64 t353] 26 (0, 0)) (by (with_reducible repeat (first | refine blk_drewN ?_ _ | refine blk_drew ?_ | refine blk_alloc ?_ _)); exact BK354.out) hb); have n4_ := Aside0.mk (below_step (by repeat (first | (with_reducible first | exact HB.out | apply below_alloc | apply pw_below_drewN | apply below_drew1 | refine below_set ?_ GE354.out) | exact HB.out)) hb); clear HO352; clear HO357; clear BK354; clear HB; have HO352 := n0_; have HO357 := n1_; have HO360 := n2_; have BK354 := n3_; have HB := n4_; clear n0_ n1_ n2_ n3_ n4_; clear hb ho17))
    go_loopg [7] k (fun kq v7 w' => ∃ (x6_1 : List Int) (x7_1 : Int), v7 = .int .i64 x7_1 ∧ Aside0 (heronrylaw09_TreeGrows.l0 kq t349 t355 x6_1 x7_1 t350 t353 = some r) ∧ Aside0 (kq ≤ k) ∧ Aside0 (Kd.R (Kd.int .i64) 3 w' w.heap.size (fun k_ => some k_ ≠ (v359 : Value).ownBlock) v356 t355) ∧ Aside0 (Kd.R (Kd.int .i64) 3 w' w.heap.size (fun k_ => some k_ ≠ (v356 : Value).ownBlock) v359 x6_1) ∧ Aside0 (Kd.R k35 35 w' w.heap.size (fun _ => True) (.slice Ao12 t350.length co12) t350) ∧ Aside0 (w'.heap[gb354]? = some (.cells #[(.slice Ao12 t350.length co12), .int .i64 t353] 26 (0, 0))) ∧ Aside0 (Below w.heap.size w w'))
    case atStart => exact ⟨(y358), (0), (by first | rfl | (simp; done) | (simp [*]; done)), H', ⟨Nat.le_refl _⟩, ⟨by (with_reducible repeat (first | apply Kd.R_alloc | apply Kd.R_drewN | apply Kd.R_drew)); exact Kd.R_mono HO357.out (fun _ hk => hk.2)⟩, ⟨by (with_reducible repeat (first | apply Kd.R_alloc | apply Kd.R_drewN | apply Kd.R_drew)); exact Kd.R_mono HO360.out (fun _ hk => hk.2)⟩, ⟨by (with_reducible repeat (first | apply Kd.R_alloc | apply Kd.R_drewN | apply Kd.R_drew)); exact HO352.out⟩, ⟨by (with_reducible repeat (first | refine blk_drewN ?_ _ | refine blk_drew ?_ | refine blk_alloc ?_ _)); exact BK354.out⟩, ⟨by repeat (first | (with_reducible first | exact HB.out | apply below_alloc | apply pw_below_drewN | apply below_drew1 | refine below_set ?_ GE354.out) | exact HB.out)⟩⟩
    case round =>
     clear H'
     try clear c1
     try clear p2
     try clear c3
     try clear c3b0
     try clear c3b1
     try clear c7
     try clear c7b0
     try clear c7b1
     try clear c8
     try clear c8b0
     try clear c8b1
     try clear c9
     try clear hcz13_0
     try clear hcz13_1
     try clear hcz15_0
     try clear hcz15_1
     try clear hfz13_0
     try clear hfz13_1
     try clear hfz15_0
     try clear hfz15_1
     obtain ⟨x6_1, x7_1, rfl, HA, HK1, HO_5, HO_6, HO_355000, BK354, HB⟩ := hrel
     cases gk with
     | zero => exact absurd HA.out (by simp [heronrylaw09_TreeGrows.l0])
     | succ k1 =>
      have H := HA.out
      clear HA
      simp only [heronrylaw09_TreeGrows.l0] at H
      by_cases c18 : x7_1 < (t355.length : Int)
      ·rw [if_pos c18] at H
       have c18b0 : decide (x7_1 < (t355.length : Int)) = true := decide_eq_true c18
       clear c18
       by_cases c19 : 0 ≤ x7_1
       ·rw [if_pos c19] at H
        have c19b0 : decide (0 ≤ x7_1) = true := decide_eq_true c19
        clear c19
        by_cases c20 : (rd t355 x7_1) < 0
        ·rw [if_pos c20] at H
         have c20b0 : decide ((rd t355 x7_1) < 0) = true := decide_eq_true c20
         clear c20
         obtain rfl := Option.some.inj H
         exact absurd hT_.out (by decide)
        ·rw [if_neg c20] at H
         have c20b0 : decide ((rd t355 x7_1) < 0) = false := decide_eq_false c20
         clear c20
         by_cases c21 : (rd t355 x7_1) ≥ (x6_1.length : Int)
         ·rw [if_pos c21] at H
          have c21b0 : decide ((x6_1.length : Int) ≤ (rd t355 x7_1)) = true := decide_eq_true c21
          clear c21
          obtain rfl := Option.some.inj H
          exact absurd hT_.out (by decide)
         ·rw [if_neg c21] at H
          have c21b0 : decide ((x6_1.length : Int) ≤ (rd t355 x7_1)) = false := decide_eq_false c21
          clear c21
          by_cases c22 : 0 ≤ (rd t355 x7_1)
          ·rw [if_pos c22] at H
           have c22b0 : decide (0 ≤ (rd t355 x7_1)) = true := decide_eq_true c22
           clear c22
           by_cases c23 : (rd t355 x7_1) < (x6_1.length : Int)
           ·rw [if_pos c23] at H
            have c23b0 : decide ((rd t355 x7_1) < (x6_1.length : Int)) = true := decide_eq_true c23
            clear c23
            obtain ⟨y365, hy365⟩ : ∃ y_ : List Int, y_ = (x6_1.set ((rd t355 x7_1) : Int).toNat (wrap64 ((rd x6_1 (rd t355 x7_1)) + 1))) := ⟨_, rfl⟩
            replace H : (heronrylaw09_TreeGrows.l0 k1 t349 t355 y365 (wrap64 (x7_1 + 1)) t350 t353) = some r := by first | (rw [hy365]; with_reducible exact H) | (have H2_ := (Option.bind_some _ _).symm.trans H; rw [hy365]; with_reducible exact H2_) | (have H2_ := (Option.bind_some _ _).symm.trans H; with_reducible exact H2_) | with_reducible exact H | (rw [hy365]; exact H) | exact H
            have Ny365 := Aside0.mk hy365
            clear hy365
            have H' := Aside0.mk H
            clear H
            obtain ⟨Ao25, co25, eo25⟩ := Kd.R_slice HO_5.out
            subst eo25
            have p361 : 0 ≤ (x7_1 : Int) := of_decide_eq_true (by first | (with_reducible assumption) | assumption)
            have q361 : x7_1 < (t355.length : Int) := of_decide_eq_true (by first | (with_reducible assumption) | assumption)
            obtain ⟨ad361, e361, hx361_0⟩ := Kd.at_int (Kd.R_reads' HO_5.out).2.2 x7_1 p361 q361
            cases e361
            replace p361 := eq_true p361
            replace q361 := eq_true q361
            have p362 : 0 ≤ (x7_1 : Int) := of_decide_eq_true (by first | (with_reducible assumption) | assumption)
            have q362 : x7_1 < (t355.length : Int) := of_decide_eq_true (by first | (with_reducible assumption) | assumption)
            obtain ⟨ad362, e362, hx362_0⟩ := Kd.at_int (Kd.R_reads' HO_5.out).2.2 x7_1 p362 q362
            obtain rfl : ad361 = ad362 := (by injection e362)
            replace p362 := eq_true p362
            replace q362 := eq_true q362
            obtain ⟨Ao26, co26, eo26⟩ := Kd.R_slice HO_6.out
            subst eo26
            have p363 : 0 ≤ (x7_1 : Int) := of_decide_eq_true (by first | (with_reducible assumption) | assumption)
            have q363 : x7_1 < (t355.length : Int) := of_decide_eq_true (by first | (with_reducible assumption) | assumption)
            obtain ⟨ad363, e363, hx363_0⟩ := Kd.at_int (Kd.R_reads' HO_5.out).2.2 x7_1 p363 q363
            obtain rfl : ad361 = ad363 := (by injection e363)
            replace p363 := eq_true p363
            replace q363 := eq_true q363
            have p364 : 0 ≤ ((rd t355 x7_1) : Int) := of_decide_eq_true (by first | (with_reducible assumption) | assumption)
            have q364 : (rd t355 x7_1) < (x6_1.length : Int) := of_decide_eq_true (by first | (with_reducible assumption) | assumption)
            obtain ⟨ad364, e364, hx364_0⟩ := Kd.at_int (Kd.R_reads' HO_6.out).2.2 (rd t355 x7_1) p364 q364
            cases e364
            replace p364 := eq_true p364
            replace q364 := eq_true q364
            have p24 : 0 ≤ ((rd t355 x7_1) : Int) := of_decide_eq_true (by first | (with_reducible assumption) | assumption)
            have q24 : ((rd t355 x7_1) : Int) < ((x6_1.length : Int) : Int) := of_decide_eq_true (by first | (with_reducible assumption) | assumption)
            obtain ⟨go24, co24, eo24, gb24, gl24, cl24, HG24⟩ := Kd.R_form HO_6.out (by omega)
            (first | cases eo24 | (injection eo24 with ea_ en_ ec_; (first | subst ea_ | (injection ea_ with ea_; subst ea_)); subst ec_; clear en_))
            have GB24 := Aside0.mk gb24
            have GG24 := Aside0.mk HG24
            clear gb24 gl24 HG24
            (first | simp only [add_plain] at hx364_0 | skip)
            obtain ⟨hx24_0, hf24_0⟩ := Kd.R_celln 0 HO_6.out ((rd t355 x7_1) : Int) p24 q24
            replace p24 := eq_true p24
            replace q24 := eq_true q24
            have HP27 := Kd.R_putg HO_6.out ((rd t355 x7_1) : Int) (wrap64 ((rd x6_1 (rd t355 x7_1)) + 1))
            go_wp2_with (first | ((with_reducible refine gate_store (t := 3) (p := 51) rfl ?_); refine store_event (t := 3) (p := 51) (v := ?vo_w28) (w1 := (wr.setCell ⟨go24, ((rd t355 x7_1) : Int).toNat, none⟩ (.int .i64 (wrap64 ((rd x6_1 (rd t355 x7_1)) + 1))))) ?hg ?ho ?hn ?hr ?_; (case ho => rfl); (case hg => rfl); (case hn => rfl); (case hr => first | (go_simp; done) | (go_simp; rfl)); intro w28 hw; have hg : wr.grownBy w28 (some go24) := (by rw [hw]; exact HP27.2); have hp_ : Kd.R (Kd.int .i64) 3 w28 w.heap.size (fun k_ => some k_ ≠ (.slice (some ad361) t355.length co25 : Value).ownBlock) (.slice (some ⟨go24, 0, none⟩) x6_1.length co26) y365 := (by rw [hw, Ny365.out]; exact HP27.1); clear HP27; have n0_ := Aside0.mk (Kd.R_after (v := (.slice (some ⟨go24, 0, none⟩) x6_1.length co26)) (v1 := (.slice (some ⟨go24, 0, none⟩) x6_1.length co26)) (ok := (fun _ => True)) (by (with_reducible repeat (first | apply Kd.R_alloc | apply Kd.R_drewN | apply Kd.R_drew)); exact Kd.R_mono HO_5.out (fun _ hk => ⟨trivial, hk⟩)) hg (.inl rfl)); have n1_ := Aside0.mk (hp_); have n2_ := Aside0.mk (Kd.R_over' (v := (.slice (some ⟨go24, 0, none⟩) x6_1.length co26)) (by (with_reducible repeat (first | apply Kd.R_alloc | apply Kd.R_drewN | apply Kd.R_drew)); exact HO_355000.out) (Kd.R_typed HO_6.out) (by decide) hg); have n3_ := Aside0.mk (blk_grown (g := gb354) (o := .cells #[.slice Ao12 t350.length co12, .int .i64 t353] 26 (0, 0)) (by (with_reducible repeat (first | refine blk_drewN ?_ _ | refine blk_drew ?_ | refine blk_alloc ?_ _)); exact BK354.out) hg (Kd.R_ne HO_6.out BK354.out (by decide))); have n4_ := Aside0.mk ((by rw [hw]; exact below_set (HB.out) GB24.out : Below w.heap.size w w28)); clear HO_5; clear HO_6; clear HO_355000; clear BK354; clear HB; have HO_5 := n0_; have HO_6 := n1_; have HO_355000 := n2_; have BK354 := n3_; have HB := n4_; clear n0_ n1_ n2_ n3_ n4_; clear hg hw hp_))
            go_roundg k1
            case measure => have := HK1.out; omega
            case rel => exact ⟨(y365), (wrap64 (x7_1 + 1)), (by first | rfl | (simp; done) | (simp [*]; done)), H', ⟨by have := HK1.out; omega⟩, ⟨by (with_reducible repeat (first | apply Kd.R_alloc | apply Kd.R_drewN | apply Kd.R_drew)); exact Kd.R_mono HO_5.out (fun _ hk => hk.2)⟩, ⟨by (with_reducible repeat (first | apply Kd.R_alloc | apply Kd.R_drewN | apply Kd.R_drew)); exact HO_6.out⟩, ⟨by (with_reducible repeat (first | apply Kd.R_alloc | apply Kd.R_drewN | apply Kd.R_drew)); exact HO_355000.out⟩, ⟨by (with_reducible repeat (first | refine blk_drewN ?_ _ | refine blk_drew ?_ | refine blk_alloc ?_ _)); exact BK354.out⟩, ⟨by repeat (first | (with_reducible first | exact HB.out | apply below_alloc | apply pw_below_drewN | apply below_drew1 | refine below_set ?_ GE354.out) | exact HB.out)⟩⟩
           ·rw [if_neg c23] at H
            exact absurd H (by simp)
          ·rw [if_neg c22] at H
           exact absurd H (by simp)
       ·rw [if_neg c19] at H
        exact absurd H (by simp)
      ·rw [if_neg c18] at H
       have c18b0 : decide (x7_1 < (t355.length : Int)) = false := decide_eq_false c18
       clear c18
       have H' := Aside0.mk H
       clear H
       obtain ⟨Ao29, co29, eo29⟩ := Kd.R_slice HO_5.out
       subst eo29
       go_wp2
       go_loopg [8] k1 (fun kq v8 w' => ∃ (x8_2 : Int), v8 = .int .i64 x8_2 ∧ Aside0 (heronrylaw09_TreeGrows.l1 kq t349 x6_1 x8_2 t350 t353 = some r) ∧ Aside0 (kq ≤ k1) ∧ Aside0 (Kd.R (Kd.int .i64) 3 w' w.heap.size (fun _ => True) v359 x6_1) ∧ Aside0 (Kd.R k35 35 w' w.heap.size (fun _ => True) (.slice Ao12 t350.length co12) t350) ∧ Aside0 (w'.heap[gb354]? = some (.cells #[(.slice Ao12 t350.length co12), .int .i64 t353] 26 (0, 0))) ∧ Aside0 (Below w.heap.size w w'))
       case atStart => exact ⟨(0), (by first | rfl | (simp; done) | (simp [*]; done)), H', ⟨Nat.le_refl _⟩, ⟨by (with_reducible repeat (first | apply Kd.R_alloc | apply Kd.R_drewN | apply Kd.R_drew)); exact Kd.R_mono HO_6.out (fun _ hk => trivial)⟩, ⟨by (with_reducible repeat (first | apply Kd.R_alloc | apply Kd.R_drewN | apply Kd.R_drew)); exact HO_355000.out⟩, ⟨by (with_reducible repeat (first | refine blk_drewN ?_ _ | refine blk_drew ?_ | refine blk_alloc ?_ _)); exact BK354.out⟩, ⟨by repeat (first | (with_reducible first | exact HB.out | apply below_alloc | apply pw_below_drewN | apply below_drew1 | refine below_set ?_ GE354.out) | exact HB.out)⟩⟩
       case round =>
        clear H'
        try clear c1
        try clear c2
        try clear p2
        try clear q2
        try clear hx2
        try clear hf2
        try clear c3
        try clear c3b0
        try clear c3b1
        try clear p3
        try clear q3
        try clear hx3
        try clear p6
        try clear c7
        try clear c7b0
        try clear c7b1
        try clear c8
        try clear c8b0
        try clear c8b1
        try clear c9
        try clear c18
        try clear c18b0
        try clear c19
        try clear c19b0
        try clear c20
        try clear c20b0
        try clear c21
        try clear c21b0
        try clear c22
        try clear c22b0
        try clear c23
        try clear c23b0
        try clear p24
        try clear q24
        try clear hx24
        try clear hf24
        try clear hcz13_0
        try clear hcz13_1
        try clear hcz15_0
        try clear hcz15_1
        try clear hfz13_0
        try clear hfz13_1
        try clear hfz15_0
        try clear hfz15_1
        try clear hx24_0
        try clear hx361_0
        try clear hx362_0
        try clear hx363_0
        try clear hx364_0
        try clear p2
        try clear p24
        try clear p361
        try clear p362
        try clear p363
        try clear p364
        try clear q24
        try clear q361
        try clear q362
        try clear q363
        try clear q364
        obtain ⟨x8_2, rfl, HA, HK2, HO_6, HO_355000, BK354, HB⟩ := hrel
        cases gk with
        | zero => exact absurd HA.out (by simp [heronrylaw09_TreeGrows.l1])
        | succ k2 =>
         have H := HA.out
         clear HA
         simp only [heronrylaw09_TreeGrows.l1] at H
         by_cases c30 : x8_2 < (t350.length : Int)
         ·rw [if_pos c30] at H
          have c30b0 : decide (x8_2 < (t350.length : Int)) = true := decide_eq_true c30
          clear c30
          replace H := Option.bind_eq_some_iff.mp H
          obtain ⟨t367, A310, H⟩ := H
          replace H : (if t367 = true then (if 0 ≤ x8_2 then (if x8_2 < (x6_1.length : Int) then (if (rd x6_1 x8_2) = 1 then ((tree_Lost.f t350 t353 x8_2).bind fun t369 => (if t369 = true then (some false) else (if ((rd_T35 t350 x8_2).f1) = 1 then ((tree_Lost.f t350 t353 x8_2).bind fun t371 => (if t371 = true then (some false) else ((tree_Deep.f t350 t353 x8_2).bind fun t372 => (if t372 > 8 then (some false) else (heronrylaw09_TreeGrows.l1 k2 t349 x6_1 (wrap64 (x8_2 + 1)) t350 t353))))) else ((tree_Deep.f t350 t353 x8_2).bind fun t373 => (if t373 > 8 then (some false) else (heronrylaw09_TreeGrows.l1 k2 t349 x6_1 (wrap64 (x8_2 + 1)) t350 t353)))))) else (some false)) else (none)) else (none)) else (if 0 ≤ x8_2 then (if x8_2 < (x6_1.length : Int) then (if (rd x6_1 x8_2) = 0 then (if ((rd_T35 t350 x8_2).f1) = 1 then ((tree_Lost.f t350 t353 x8_2).bind fun t376 => (if t376 = true then (some false) else ((tree_Deep.f t350 t353 x8_2).bind fun t377 => (if t377 > 8 then (some false) else (heronrylaw09_TreeGrows.l1 k2 t349 x6_1 (wrap64 (x8_2 + 1)) t350 t353))))) else ((tree_Deep.f t350 t353 x8_2).bind fun t378 => (if t378 > 8 then (some false) else (heronrylaw09_TreeGrows.l1 k2 t349 x6_1 (wrap64 (x8_2 + 1)) t350 t353)))) else (some false)) else (none)) else (none))) = some r := H
          have A31 := Aside0.mk A310
          clear A310
          by_cases c32 : t367 = true
          ·subst c32
           have H1 : (if 0 ≤ x8_2 then (if x8_2 < (x6_1.length : Int) then (if (rd x6_1 x8_2) = 1 then ((tree_Lost.f t350 t353 x8_2).bind fun t369 => (if t369 = true then (some false) else (if ((rd_T35 t350 x8_2).f1) = 1 then ((tree_Lost.f t350 t353 x8_2).bind fun t371 => (if t371 = true then (some false) else ((tree_Deep.f t350 t353 x8_2).bind fun t372 => (if t372 > 8 then (some false) else (heronrylaw09_TreeGrows.l1 k2 t349 x6_1 (wrap64 (x8_2 + 1)) t350 t353))))) else ((tree_Deep.f t350 t353 x8_2).bind fun t373 => (if t373 > 8 then (some false) else (heronrylaw09_TreeGrows.l1 k2 t349 x6_1 (wrap64 (x8_2 + 1)) t350 t353)))))) else (some false)) else (none)) else (none)) = some r := by rw [if_pos rfl] at H; exact H
           clear H
           have H := H1
           clear H1
           by_cases c33 : 0 ≤ x8_2
           ·rw [if_pos c33] at H
            have c33b0 : decide (0 ≤ x8_2) = true := decide_eq_true c33
            clear c33
            by_cases c34 : x8_2 < (x6_1.length : Int)
            ·rw [if_pos c34] at H
             have c34b0 : decide (x8_2 < (x6_1.length : Int)) = true := decide_eq_true c34
             clear c34
             by_cases c35 : (rd x6_1 x8_2) = 1
             ·rw [if_pos c35] at H
              have c35b0 : ((rd x6_1 x8_2) == 1) = true := beq_iff_eq.mpr c35
              have c35b1 : ((rd x6_1 x8_2) != 1) = false := bne_eq_false_iff_eq.mpr c35
              clear c35
              replace H := Option.bind_eq_some_iff.mp H
              obtain ⟨t369, A360, H⟩ := H
              replace H : (if t369 = true then (some false) else (if ((rd_T35 t350 x8_2).f1) = 1 then ((tree_Lost.f t350 t353 x8_2).bind fun t371 => (if t371 = true then (some false) else ((tree_Deep.f t350 t353 x8_2).bind fun t372 => (if t372 > 8 then (some false) else (heronrylaw09_TreeGrows.l1 k2 t349 x6_1 (wrap64 (x8_2 + 1)) t350 t353))))) else ((tree_Deep.f t350 t353 x8_2).bind fun t373 => (if t373 > 8 then (some false) else (heronrylaw09_TreeGrows.l1 k2 t349 x6_1 (wrap64 (x8_2 + 1)) t350 t353))))) = some r := H
              have A36 := Aside0.mk A360
              clear A360
              by_cases c37 : t369 = true
              ·subst c37
               have H1 : (some false) = some r := by rw [if_pos rfl] at H; exact H
               clear H
               have H := H1
               clear H1
               obtain rfl := Option.some.inj H
               exact absurd hT_.out (by decide)
              ·replace c37 := Bool.eq_false_iff.mpr c37
               subst c37
               have H1 : (if ((rd_T35 t350 x8_2).f1) = 1 then ((tree_Lost.f t350 t353 x8_2).bind fun t371 => (if t371 = true then (some false) else ((tree_Deep.f t350 t353 x8_2).bind fun t372 => (if t372 > 8 then (some false) else (heronrylaw09_TreeGrows.l1 k2 t349 x6_1 (wrap64 (x8_2 + 1)) t350 t353))))) else ((tree_Deep.f t350 t353 x8_2).bind fun t373 => (if t373 > 8 then (some false) else (heronrylaw09_TreeGrows.l1 k2 t349 x6_1 (wrap64 (x8_2 + 1)) t350 t353)))) = some r := by rw [if_neg (show ¬ (false = true) by decide)] at H; exact H
               clear H
               have H := H1
               clear H1
               by_cases c38 : ((rd_T35 t350 x8_2).f1) = 1
               ·rw [if_pos c38] at H
                have c38b0 : (((rd_T35 t350 x8_2).f1) == 1) = true := beq_iff_eq.mpr c38
                have c38b1 : (((rd_T35 t350 x8_2).f1) != 1) = false := bne_eq_false_iff_eq.mpr c38
                clear c38
                replace H := Option.bind_eq_some_iff.mp H
                obtain ⟨t371, A390, H⟩ := H
                replace H : (if t371 = true then (some false) else ((tree_Deep.f t350 t353 x8_2).bind fun t372 => (if t372 > 8 then (some false) else (heronrylaw09_TreeGrows.l1 k2 t349 x6_1 (wrap64 (x8_2 + 1)) t350 t353)))) = some r := H
                have A39 := Aside0.mk A390
                clear A390
                by_cases c40 : t371 = true
                ·subst c40
                 have H1 : (some false) = some r := by rw [if_pos rfl] at H; exact H
                 clear H
                 have H := H1
                 clear H1
                 obtain rfl := Option.some.inj H
                 exact absurd hT_.out (by decide)
                ·replace c40 := Bool.eq_false_iff.mpr c40
                 subst c40
                 have H1 : ((tree_Deep.f t350 t353 x8_2).bind fun t372 => (if t372 > 8 then (some false) else (heronrylaw09_TreeGrows.l1 k2 t349 x6_1 (wrap64 (x8_2 + 1)) t350 t353))) = some r := by rw [if_neg (show ¬ (false = true) by decide)] at H; exact H
                 clear H
                 have H := H1
                 clear H1
                 replace H := Option.bind_eq_some_iff.mp H
                 obtain ⟨t372, A410, H⟩ := H
                 replace H : (if t372 > 8 then (some false) else (heronrylaw09_TreeGrows.l1 k2 t349 x6_1 (wrap64 (x8_2 + 1)) t350 t353)) = some r := H
                 have A41 := Aside0.mk A410
                 clear A410
                 by_cases c42 : t372 > 8
                 ·rw [if_pos c42] at H
                  have c42b0 : decide (8 < t372) = true := decide_eq_true c42
                  clear c42
                  obtain rfl := Option.some.inj H
                  exact absurd hT_.out (by decide)
                 ·rw [if_neg c42] at H
                  have c42b0 : decide (8 < t372) = false := decide_eq_false c42
                  clear c42
                  have H' := Aside0.mk H
                  clear H
                  have hcz43_0 : wr.cell? ⟨gb354, 0, none⟩ = some (.slice Ao12 t350.length co12) := (blk_cell BK354.out 0).trans rfl
                  have hcz43_1 : wr.cell? ⟨gb354, 1, none⟩ = some (.int .i64 t353) := (blk_cell BK354.out 1).trans rfl
                  have hfz43_0 := blk_frozen BK354.out 0
                  have hfz43_1 := blk_frozen BK354.out 1
                  go_wp2_with (first | ((with_reducible refine gate_callee (f := 17) rfl ?_); refine goesL_ (some 61) rfl rfl Try.func17 (by kernel_rfl) rfl #[.agg #[.slice Ao12 t350.length co12, .int .i64 t353], .int .i64 x8_2] rfl (by (try simp only [List.map_toArray, List.map_cons, List.map_nil]); first | done | rfl | (simp only [List.length_drop, List.length_take]; rfl)) ?_; (with_reducible refine (tree_Fixed.calls _ _ t350 t353 x8_2 true _ ?side1 ?side2 A31.out).mono ?_); (case side1 => repeat (first | exact (Kd.R_reads' HO_355000.out).2.2 | (with_reducible refine Kd.C_alloc ?_ _) | (with_reducible refine Kd.C_drewN ?_ _) | (with_reducible refine Kd.C_drew ?_))); (case side2 => exact (Kd.R_reads' HO_355000.out).2.1); rintro e w44 ⟨rfl, hb⟩; refine ⟨_, rfl, ?_⟩; have n0_ := Aside0.mk (Kd.R_below (by (with_reducible repeat (first | apply Kd.R_alloc | apply Kd.R_drewN | apply Kd.R_drew)); exact HO_6.out) hb); have n1_ := Aside0.mk (Kd.R_below (by (with_reducible repeat (first | apply Kd.R_alloc | apply Kd.R_drewN | apply Kd.R_drew)); exact HO_355000.out) hb); have n2_ := Aside0.mk (blk_below (g := gb354) (o := .cells #[.slice Ao12 t350.length co12, .int .i64 t353] 26 (0, 0)) (by (with_reducible repeat (first | refine blk_drewN ?_ _ | refine blk_drew ?_ | refine blk_alloc ?_ _)); exact BK354.out) hb); have n3_ := Aside0.mk (below_step (by repeat (first | (with_reducible first | exact HB.out | apply below_alloc | apply pw_below_drewN | apply below_drew1 | refine below_set ?_ GE354.out) | exact HB.out)) hb); clear HO_6; clear HO_355000; clear BK354; clear HB; have HO_6 := n0_; have HO_355000 := n1_; have BK354 := n2_; have HB := n3_; clear n0_ n1_ n2_ n3_; (try clear hb); (try clear hb2); (try clear hk); (try clear hi); obtain ⟨Ao45, co45, eo45⟩ := Kd.R_slice HO_6.out; subst eo45; have p368 : 0 ≤ (x8_2 : Int) := of_decide_eq_true (by first | (with_reducible assumption) | assumption); have q368 : x8_2 < (x6_1.length : Int) := of_decide_eq_true (by first | (with_reducible assumption) | assumption); obtain ⟨ad368, e368, hx368_0⟩ := Kd.at_int (Kd.R_reads' HO_6.out).2.2 x8_2 p368 q368; cases e368; replace p368 := eq_true p368; replace q368 := eq_true q368; have hcz46_0 : w44.cell? ⟨gb354, 0, none⟩ = some (.slice Ao12 t350.length co12) := (blk_cell BK354.out 0).trans rfl; have hcz46_1 : w44.cell? ⟨gb354, 1, none⟩ = some (.int .i64 t353) := (blk_cell BK354.out 1).trans rfl; have hfz46_0 := blk_frozen BK354.out 0; have hfz46_1 := blk_frozen BK354.out 1) | (go_at_call 16; (with_reducible refine (tree_Lost.calls _ _ t350 t353 x8_2 false _ ?side1 ?side2 A36.out).mono ?_); (case side1 => repeat (first | exact (Kd.R_reads' HO_355000.out).2.2 | (with_reducible refine Kd.C_alloc ?_ _) | (with_reducible refine Kd.C_drewN ?_ _) | (with_reducible refine Kd.C_drew ?_))); (case side2 => exact (Kd.R_reads' HO_355000.out).2.1); rintro e w47 ⟨rfl, hb⟩; have n0_ := Aside0.mk (Kd.R_below (by (with_reducible repeat (first | apply Kd.R_alloc | apply Kd.R_drewN | apply Kd.R_drew)); exact HO_6.out) hb); have n1_ := Aside0.mk (Kd.R_below (by (with_reducible repeat (first | apply Kd.R_alloc | apply Kd.R_drewN | apply Kd.R_drew)); exact HO_355000.out) hb); have n2_ := Aside0.mk (blk_below (g := gb354) (o := .cells #[.slice Ao12 t350.length co12, .int .i64 t353] 26 (0, 0)) (by (with_reducible repeat (first | refine blk_drewN ?_ _ | refine blk_drew ?_ | refine blk_alloc ?_ _)); exact BK354.out) hb); have n3_ := Aside0.mk (below_step (by repeat (first | (with_reducible first | exact HB.out | apply below_alloc | apply pw_below_drewN | apply below_drew1 | refine below_set ?_ GE354.out) | exact HB.out)) hb); clear HO_6; clear HO_355000; clear BK354; clear HB; have HO_6 := n0_; have HO_355000 := n1_; have BK354 := n2_; have HB := n3_; clear n0_ n1_ n2_ n3_; (try clear hb); (try clear hb2); (try clear hk); (try clear hi); have hcz48_0 : w47.cell? ⟨gb354, 0, none⟩ = some (.slice Ao12 t350.length co12) := (blk_cell BK354.out 0).trans rfl; have hcz48_1 : w47.cell? ⟨gb354, 1, none⟩ = some (.int .i64 t353) := (blk_cell BK354.out 1).trans rfl; have hfz48_0 := blk_frozen BK354.out 0; have hfz48_1 := blk_frozen BK354.out 1; have p370 : 0 ≤ (x8_2 : Int) := of_decide_eq_true (by first | (with_reducible assumption) | assumption); have q370 : x8_2 < (t350.length : Int) := of_decide_eq_true (by first | (with_reducible assumption) | assumption); obtain ⟨ad370, e370, hx370_0, hx370_1, hx370_2, hx370_3⟩ := at_T35 (Kd.R_reads' HO_355000.out).2.2 x8_2 p370 q370; cases e370; replace p370 := eq_true p370; replace q370 := eq_true q370) | (go_at_call 16; (with_reducible refine (tree_Lost.calls _ _ t350 t353 x8_2 false _ ?side1 ?side2 A39.out).mono ?_); (case side1 => repeat (first | exact (Kd.R_reads' HO_355000.out).2.2 | (with_reducible refine Kd.C_alloc ?_ _) | (with_reducible refine Kd.C_drewN ?_ _) | (with_reducible refine Kd.C_drew ?_))); (case side2 => exact (Kd.R_reads' HO_355000.out).2.1); rintro e w49 ⟨rfl, hb⟩; have n0_ := Aside0.mk (Kd.R_below (by (with_reducible repeat (first | apply Kd.R_alloc | apply Kd.R_drewN | apply Kd.R_drew)); exact HO_6.out) hb); have n1_ := Aside0.mk (Kd.R_below (by (with_reducible repeat (first | apply Kd.R_alloc | apply Kd.R_drewN | apply Kd.R_drew)); exact HO_355000.out) hb); have n2_ := Aside0.mk (blk_below (g := gb354) (o := .cells #[.slice (some ad370) t350.length co12, .int .i64 t353] 26 (0, 0)) (by (with_reducible repeat (first | refine blk_drewN ?_ _ | refine blk_drew ?_ | refine blk_alloc ?_ _)); exact BK354.out) hb); have n3_ := Aside0.mk (below_step (by repeat (first | (with_reducible first | exact HB.out | apply below_alloc | apply pw_below_drewN | apply below_drew1 | refine below_set ?_ GE354.out) | exact HB.out)) hb); clear HO_6; clear HO_355000; clear BK354; clear HB; have HO_6 := n0_; have HO_355000 := n1_; have BK354 := n2_; have HB := n3_; clear n0_ n1_ n2_ n3_; (try clear hb); (try clear hb2); (try clear hk); (try clear hi); have hcz50_0 : w49.cell? ⟨gb354, 0, none⟩ = some (.slice (some ad370) t350.length co12) := (blk_cell BK354.out 0).trans rfl; have hcz50_1 : w49.cell? ⟨gb354, 1, none⟩ = some (.int .i64 t353) := (blk_cell BK354.out 1).trans rfl; have hfz50_0 := blk_frozen BK354.out 0; have hfz50_1 := blk_frozen BK354.out 1) | (go_at_call 13; (with_reducible refine (tree_Deep.calls _ _ t350 t353 x8_2 t372 _ ?side1 ?side2 A41.out).mono ?_); (case side1 => repeat (first | exact (Kd.R_reads' HO_355000.out).2.2 | (with_reducible refine Kd.C_alloc ?_ _) | (with_reducible refine Kd.C_drewN ?_ _) | (with_reducible refine Kd.C_drew ?_))); (case side2 => exact (Kd.R_reads' HO_355000.out).2.1); rintro e w51 ⟨rfl, hb⟩; have n0_ := Aside0.mk (Kd.R_below (by (with_reducible repeat (first | apply Kd.R_alloc | apply Kd.R_drewN | apply Kd.R_drew)); exact HO_6.out) hb); have n1_ := Aside0.mk (Kd.R_below (by (with_reducible repeat (first | apply Kd.R_alloc | apply Kd.R_drewN | apply Kd.R_drew)); exact HO_355000.out) hb); have n2_ := Aside0.mk (blk_below (g := gb354) (o := .cells #[.slice (some ad370) t350.length co12, .int .i64 t353] 26 (0, 0)) (by (with_reducible repeat (first | refine blk_drewN ?_ _ | refine blk_drew ?_ | refine blk_alloc ?_ _)); exact BK354.out) hb); have n3_ := Aside0.mk (below_step (by repeat (first | (with_reducible first | exact HB.out | apply below_alloc | apply pw_below_drewN | apply below_drew1 | refine below_set ?_ GE354.out) | exact HB.out)) hb); clear HO_6; clear HO_355000; clear BK354; clear HB; have HO_6 := n0_; have HO_355000 := n1_; have BK354 := n2_; have HB := n3_; clear n0_ n1_ n2_ n3_; (try clear hb); (try clear hb2); (try clear hk); (try clear hi)))
                  go_roundg k2
                  case measure => have := HK1.out; have := HK2.out; omega
                  case rel => exact ⟨(wrap64 (x8_2 + 1)), (by first | rfl | (simp; done) | (simp [*]; done)), H', ⟨by have := HK1.out; have := HK2.out; omega⟩, ⟨by (with_reducible repeat (first | apply Kd.R_alloc | apply Kd.R_drewN | apply Kd.R_drew)); exact HO_6.out⟩, ⟨by (with_reducible repeat (first | apply Kd.R_alloc | apply Kd.R_drewN | apply Kd.R_drew)); exact HO_355000.out⟩, ⟨by (with_reducible repeat (first | refine blk_drewN ?_ _ | refine blk_drew ?_ | refine blk_alloc ?_ _)); exact BK354.out⟩, ⟨by repeat (first | (with_reducible first | exact HB.out | apply below_alloc | apply pw_below_drewN | apply below_drew1 | refine below_set ?_ GE354.out) | exact HB.out)⟩⟩
               ·rw [if_neg c38] at H
                have c38b0 : (((rd_T35 t350 x8_2).f1) == 1) = false := beq_eq_false_iff_ne.mpr c38
                have c38b1 : (((rd_T35 t350 x8_2).f1) != 1) = true := bne_iff_ne.mpr c38
                replace H := Option.bind_eq_some_iff.mp H
                obtain ⟨t373, A520, H⟩ := H
                replace H : (if t373 > 8 then (some false) else (heronrylaw09_TreeGrows.l1 k2 t349 x6_1 (wrap64 (x8_2 + 1)) t350 t353)) = some r := H
                have A52 := Aside0.mk A520
                clear A520
                by_cases c53 : t373 > 8
                ·rw [if_pos c53] at H
                 have c53b0 : decide (8 < t373) = true := decide_eq_true c53
                 clear c53
                 obtain rfl := Option.some.inj H
                 exact absurd hT_.out (by decide)
                ·rw [if_neg c53] at H
                 have c53b0 : decide (8 < t373) = false := decide_eq_false c53
                 clear c53
                 have H' := Aside0.mk H
                 clear H
                 have hcz54_0 : wr.cell? ⟨gb354, 0, none⟩ = some (.slice Ao12 t350.length co12) := (blk_cell BK354.out 0).trans rfl
                 have hcz54_1 : wr.cell? ⟨gb354, 1, none⟩ = some (.int .i64 t353) := (blk_cell BK354.out 1).trans rfl
                 have hfz54_0 := blk_frozen BK354.out 0
                 have hfz54_1 := blk_frozen BK354.out 1
                 go_wp2_with (first | ((with_reducible refine gate_callee (f := 17) rfl ?_); refine goesL_ (some 61) rfl rfl Try.func17 (by kernel_rfl) rfl #[.agg #[.slice Ao12 t350.length co12, .int .i64 t353], .int .i64 x8_2] rfl (by (try simp only [List.map_toArray, List.map_cons, List.map_nil]); first | done | rfl | (simp only [List.length_drop, List.length_take]; rfl)) ?_; (with_reducible refine (tree_Fixed.calls _ _ t350 t353 x8_2 true _ ?side1 ?side2 A31.out).mono ?_); (case side1 => repeat (first | exact (Kd.R_reads' HO_355000.out).2.2 | (with_reducible refine Kd.C_alloc ?_ _) | (with_reducible refine Kd.C_drewN ?_ _) | (with_reducible refine Kd.C_drew ?_))); (case side2 => exact (Kd.R_reads' HO_355000.out).2.1); rintro e w55 ⟨rfl, hb⟩; refine ⟨_, rfl, ?_⟩; have n0_ := Aside0.mk (Kd.R_below (by (with_reducible repeat (first | apply Kd.R_alloc | apply Kd.R_drewN | apply Kd.R_drew)); exact HO_6.out) hb); have n1_ := Aside0.mk (Kd.R_below (by (with_reducible repeat (first | apply Kd.R_alloc | apply Kd.R_drewN | apply Kd.R_drew)); exact HO_355000.out) hb); have n2_ := Aside0.mk (blk_below (g := gb354) (o := .cells #[.slice Ao12 t350.length co12, .int .i64 t353] 26 (0, 0)) (by (with_reducible repeat (first | refine blk_drewN ?_ _ | refine blk_drew ?_ | refine blk_alloc ?_ _)); exact BK354.out) hb); have n3_ := Aside0.mk (below_step (by repeat (first | (with_reducible first | exact HB.out | apply below_alloc | apply pw_below_drewN | apply below_drew1 | refine below_set ?_ GE354.out) | exact HB.out)) hb); clear HO_6; clear HO_355000; clear BK354; clear HB; have HO_6 := n0_; have HO_355000 := n1_; have BK354 := n2_; have HB := n3_; clear n0_ n1_ n2_ n3_; (try clear hb); (try clear hb2); (try clear hk); (try clear hi); obtain ⟨Ao56, co56, eo56⟩ := Kd.R_slice HO_6.out; subst eo56; have p368 : 0 ≤ (x8_2 : Int) := of_decide_eq_true (by first | (with_reducible assumption) | assumption); have q368 : x8_2 < (x6_1.length : Int) := of_decide_eq_true (by first | (with_reducible assumption) | assumption); obtain ⟨ad368, e368, hx368_0⟩ := Kd.at_int (Kd.R_reads' HO_6.out).2.2 x8_2 p368 q368; cases e368; replace p368 := eq_true p368; replace q368 := eq_true q368; have hcz57_0 : w55.cell? ⟨gb354, 0, none⟩ = some (.slice Ao12 t350.length co12) := (blk_cell BK354.out 0).trans rfl; have hcz57_1 : w55.cell? ⟨gb354, 1, none⟩ = some (.int .i64 t353) := (blk_cell BK354.out 1).trans rfl; have hfz57_0 := blk_frozen BK354.out 0; have hfz57_1 := blk_frozen BK354.out 1) | (go_at_call 16; (with_reducible refine (tree_Lost.calls _ _ t350 t353 x8_2 false _ ?side1 ?side2 A36.out).mono ?_); (case side1 => repeat (first | exact (Kd.R_reads' HO_355000.out).2.2 | (with_reducible refine Kd.C_alloc ?_ _) | (with_reducible refine Kd.C_drewN ?_ _) | (with_reducible refine Kd.C_drew ?_))); (case side2 => exact (Kd.R_reads' HO_355000.out).2.1); rintro e w58 ⟨rfl, hb⟩; have n0_ := Aside0.mk (Kd.R_below (by (with_reducible repeat (first | apply Kd.R_alloc | apply Kd.R_drewN | apply Kd.R_drew)); exact HO_6.out) hb); have n1_ := Aside0.mk (Kd.R_below (by (with_reducible repeat (first | apply Kd.R_alloc | apply Kd.R_drewN | apply Kd.R_drew)); exact HO_355000.out) hb); have n2_ := Aside0.mk (blk_below (g := gb354) (o := .cells #[.slice Ao12 t350.length co12, .int .i64 t353] 26 (0, 0)) (by (with_reducible repeat (first | refine blk_drewN ?_ _ | refine blk_drew ?_ | refine blk_alloc ?_ _)); exact BK354.out) hb); have n3_ := Aside0.mk (below_step (by repeat (first | (with_reducible first | exact HB.out | apply below_alloc | apply pw_below_drewN | apply below_drew1 | refine below_set ?_ GE354.out) | exact HB.out)) hb); clear HO_6; clear HO_355000; clear BK354; clear HB; have HO_6 := n0_; have HO_355000 := n1_; have BK354 := n2_; have HB := n3_; clear n0_ n1_ n2_ n3_; (try clear hb); (try clear hb2); (try clear hk); (try clear hi); have hcz59_0 : w58.cell? ⟨gb354, 0, none⟩ = some (.slice Ao12 t350.length co12) := (blk_cell BK354.out 0).trans rfl; have hcz59_1 : w58.cell? ⟨gb354, 1, none⟩ = some (.int .i64 t353) := (blk_cell BK354.out 1).trans rfl; have hfz59_0 := blk_frozen BK354.out 0; have hfz59_1 := blk_frozen BK354.out 1; have p370 : 0 ≤ (x8_2 : Int) := of_decide_eq_true (by first | (with_reducible assumption) | assumption); have q370 : x8_2 < (t350.length : Int) := of_decide_eq_true (by first | (with_reducible assumption) | assumption); obtain ⟨ad370, e370, hx370_0, hx370_1, hx370_2, hx370_3⟩ := at_T35 (Kd.R_reads' HO_355000.out).2.2 x8_2 p370 q370; cases e370; replace p370 := eq_true p370; replace q370 := eq_true q370) | (go_at_call 13; (with_reducible refine (tree_Deep.calls _ _ t350 t353 x8_2 t373 _ ?side1 ?side2 A52.out).mono ?_); (case side1 => repeat (first | exact (Kd.R_reads' HO_355000.out).2.2 | (with_reducible refine Kd.C_alloc ?_ _) | (with_reducible refine Kd.C_drewN ?_ _) | (with_reducible refine Kd.C_drew ?_))); (case side2 => exact (Kd.R_reads' HO_355000.out).2.1); rintro e w60 ⟨rfl, hb⟩; have n0_ := Aside0.mk (Kd.R_below (by (with_reducible repeat (first | apply Kd.R_alloc | apply Kd.R_drewN | apply Kd.R_drew)); exact HO_6.out) hb); have n1_ := Aside0.mk (Kd.R_below (by (with_reducible repeat (first | apply Kd.R_alloc | apply Kd.R_drewN | apply Kd.R_drew)); exact HO_355000.out) hb); have n2_ := Aside0.mk (blk_below (g := gb354) (o := .cells #[.slice (some ad370) t350.length co12, .int .i64 t353] 26 (0, 0)) (by (with_reducible repeat (first | refine blk_drewN ?_ _ | refine blk_drew ?_ | refine blk_alloc ?_ _)); exact BK354.out) hb); have n3_ := Aside0.mk (below_step (by repeat (first | (with_reducible first | exact HB.out | apply below_alloc | apply pw_below_drewN | apply below_drew1 | refine below_set ?_ GE354.out) | exact HB.out)) hb); clear HO_6; clear HO_355000; clear BK354; clear HB; have HO_6 := n0_; have HO_355000 := n1_; have BK354 := n2_; have HB := n3_; clear n0_ n1_ n2_ n3_; (try clear hb); (try clear hb2); (try clear hk); (try clear hi)))
                 go_roundg k2
                 case measure => have := HK1.out; have := HK2.out; omega
                 case rel => exact ⟨(wrap64 (x8_2 + 1)), (by first | rfl | (simp; done) | (simp [*]; done)), H', ⟨by have := HK1.out; have := HK2.out; omega⟩, ⟨by (with_reducible repeat (first | apply Kd.R_alloc | apply Kd.R_drewN | apply Kd.R_drew)); exact HO_6.out⟩, ⟨by (with_reducible repeat (first | apply Kd.R_alloc | apply Kd.R_drewN | apply Kd.R_drew)); exact HO_355000.out⟩, ⟨by (with_reducible repeat (first | refine blk_drewN ?_ _ | refine blk_drew ?_ | refine blk_alloc ?_ _)); exact BK354.out⟩, ⟨by repeat (first | (with_reducible first | exact HB.out | apply below_alloc | apply pw_below_drewN | apply below_drew1 | refine below_set ?_ GE354.out) | exact HB.out)⟩⟩
             ·rw [if_neg c35] at H
              have c35b0 : ((rd x6_1 x8_2) == 1) = false := beq_eq_false_iff_ne.mpr c35
              have c35b1 : ((rd x6_1 x8_2) != 1) = true := bne_iff_ne.mpr c35
              obtain rfl := Option.some.inj H
              exact absurd hT_.out (by decide)
            ·rw [if_neg c34] at H
             exact absurd H (by simp)
           ·rw [if_neg c33] at H
            exact absurd H (by simp)
          ·replace c32 := Bool.eq_false_iff.mpr c32
           subst c32
           have H1 : (if 0 ≤ x8_2 then (if x8_2 < (x6_1.length : Int) then (if (rd x6_1 x8_2) = 0 then (if ((rd_T35 t350 x8_2).f1) = 1 then ((tree_Lost.f t350 t353 x8_2).bind fun t376 => (if t376 = true then (some false) else ((tree_Deep.f t350 t353 x8_2).bind fun t377 => (if t377 > 8 then (some false) else (heronrylaw09_TreeGrows.l1 k2 t349 x6_1 (wrap64 (x8_2 + 1)) t350 t353))))) else ((tree_Deep.f t350 t353 x8_2).bind fun t378 => (if t378 > 8 then (some false) else (heronrylaw09_TreeGrows.l1 k2 t349 x6_1 (wrap64 (x8_2 + 1)) t350 t353)))) else (some false)) else (none)) else (none)) = some r := by rw [if_neg (show ¬ (false = true) by decide)] at H; exact H
           clear H
           have H := H1
           clear H1
           by_cases c61 : 0 ≤ x8_2
           ·rw [if_pos c61] at H
            have c61b0 : decide (0 ≤ x8_2) = true := decide_eq_true c61
            clear c61
            by_cases c62 : x8_2 < (x6_1.length : Int)
            ·rw [if_pos c62] at H
             have c62b0 : decide (x8_2 < (x6_1.length : Int)) = true := decide_eq_true c62
             clear c62
             by_cases c63 : (rd x6_1 x8_2) = 0
             ·rw [if_pos c63] at H
              have c63b0 : ((rd x6_1 x8_2) == 0) = true := beq_iff_eq.mpr c63
              have c63b1 : ((rd x6_1 x8_2) != 0) = false := bne_eq_false_iff_eq.mpr c63
              clear c63
              by_cases c64 : ((rd_T35 t350 x8_2).f1) = 1
              ·rw [if_pos c64] at H
               have c64b0 : (((rd_T35 t350 x8_2).f1) == 1) = true := beq_iff_eq.mpr c64
               have c64b1 : (((rd_T35 t350 x8_2).f1) != 1) = false := bne_eq_false_iff_eq.mpr c64
               clear c64
               replace H := Option.bind_eq_some_iff.mp H
               obtain ⟨t376, A650, H⟩ := H
               replace H : (if t376 = true then (some false) else ((tree_Deep.f t350 t353 x8_2).bind fun t377 => (if t377 > 8 then (some false) else (heronrylaw09_TreeGrows.l1 k2 t349 x6_1 (wrap64 (x8_2 + 1)) t350 t353)))) = some r := H
               have A65 := Aside0.mk A650
               clear A650
               by_cases c66 : t376 = true
               ·subst c66
                have H1 : (some false) = some r := by rw [if_pos rfl] at H; exact H
                clear H
                have H := H1
                clear H1
                obtain rfl := Option.some.inj H
                exact absurd hT_.out (by decide)
               ·replace c66 := Bool.eq_false_iff.mpr c66
                subst c66
                have H1 : ((tree_Deep.f t350 t353 x8_2).bind fun t377 => (if t377 > 8 then (some false) else (heronrylaw09_TreeGrows.l1 k2 t349 x6_1 (wrap64 (x8_2 + 1)) t350 t353))) = some r := by rw [if_neg (show ¬ (false = true) by decide)] at H; exact H
                clear H
                have H := H1
                clear H1
                replace H := Option.bind_eq_some_iff.mp H
                obtain ⟨t377, A670, H⟩ := H
                replace H : (if t377 > 8 then (some false) else (heronrylaw09_TreeGrows.l1 k2 t349 x6_1 (wrap64 (x8_2 + 1)) t350 t353)) = some r := H
                have A67 := Aside0.mk A670
                clear A670
                by_cases c68 : t377 > 8
                ·rw [if_pos c68] at H
                 have c68b0 : decide (8 < t377) = true := decide_eq_true c68
                 clear c68
                 obtain rfl := Option.some.inj H
                 exact absurd hT_.out (by decide)
                ·rw [if_neg c68] at H
                 have c68b0 : decide (8 < t377) = false := decide_eq_false c68
                 clear c68
                 have H' := Aside0.mk H
                 clear H
                 have hcz69_0 : wr.cell? ⟨gb354, 0, none⟩ = some (.slice Ao12 t350.length co12) := (blk_cell BK354.out 0).trans rfl
                 have hcz69_1 : wr.cell? ⟨gb354, 1, none⟩ = some (.int .i64 t353) := (blk_cell BK354.out 1).trans rfl
                 have hfz69_0 := blk_frozen BK354.out 0
                 have hfz69_1 := blk_frozen BK354.out 1
                 go_wp2_with (first | ((with_reducible refine gate_callee (f := 17) rfl ?_); refine goesL_ (some 61) rfl rfl Try.func17 (by kernel_rfl) rfl #[.agg #[.slice Ao12 t350.length co12, .int .i64 t353], .int .i64 x8_2] rfl (by (try simp only [List.map_toArray, List.map_cons, List.map_nil]); first | done | rfl | (simp only [List.length_drop, List.length_take]; rfl)) ?_; (with_reducible refine (tree_Fixed.calls _ _ t350 t353 x8_2 false _ ?side1 ?side2 A31.out).mono ?_); (case side1 => repeat (first | exact (Kd.R_reads' HO_355000.out).2.2 | (with_reducible refine Kd.C_alloc ?_ _) | (with_reducible refine Kd.C_drewN ?_ _) | (with_reducible refine Kd.C_drew ?_))); (case side2 => exact (Kd.R_reads' HO_355000.out).2.1); rintro e w70 ⟨rfl, hb⟩; refine ⟨_, rfl, ?_⟩; have n0_ := Aside0.mk (Kd.R_below (by (with_reducible repeat (first | apply Kd.R_alloc | apply Kd.R_drewN | apply Kd.R_drew)); exact HO_6.out) hb); have n1_ := Aside0.mk (Kd.R_below (by (with_reducible repeat (first | apply Kd.R_alloc | apply Kd.R_drewN | apply Kd.R_drew)); exact HO_355000.out) hb); have n2_ := Aside0.mk (blk_below (g := gb354) (o := .cells #[.slice Ao12 t350.length co12, .int .i64 t353] 26 (0, 0)) (by (with_reducible repeat (first | refine blk_drewN ?_ _ | refine blk_drew ?_ | refine blk_alloc ?_ _)); exact BK354.out) hb); have n3_ := Aside0.mk (below_step (by repeat (first | (with_reducible first | exact HB.out | apply below_alloc | apply pw_below_drewN | apply below_drew1 | refine below_set ?_ GE354.out) | exact HB.out)) hb); clear HO_6; clear HO_355000; clear BK354; clear HB; have HO_6 := n0_; have HO_355000 := n1_; have BK354 := n2_; have HB := n3_; clear n0_ n1_ n2_ n3_; (try clear hb); (try clear hb2); (try clear hk); (try clear hi); obtain ⟨Ao71, co71, eo71⟩ := Kd.R_slice HO_6.out; subst eo71; have p374 : 0 ≤ (x8_2 : Int) := of_decide_eq_true (by first | (with_reducible assumption) | assumption); have q374 : x8_2 < (x6_1.length : Int) := of_decide_eq_true (by first | (with_reducible assumption) | assumption); obtain ⟨ad374, e374, hx374_0⟩ := Kd.at_int (Kd.R_reads' HO_6.out).2.2 x8_2 p374 q374; cases e374; replace p374 := eq_true p374; replace q374 := eq_true q374; have hcz72_0 : w70.cell? ⟨gb354, 0, none⟩ = some (.slice Ao12 t350.length co12) := (blk_cell BK354.out 0).trans rfl; have hcz72_1 : w70.cell? ⟨gb354, 1, none⟩ = some (.int .i64 t353) := (blk_cell BK354.out 1).trans rfl; have hfz72_0 := blk_frozen BK354.out 0; have hfz72_1 := blk_frozen BK354.out 1; have p375 : 0 ≤ (x8_2 : Int) := of_decide_eq_true (by first | (with_reducible assumption) | assumption); have q375 : x8_2 < (t350.length : Int) := of_decide_eq_true (by first | (with_reducible assumption) | assumption); obtain ⟨ad375, e375, hx375_0, hx375_1, hx375_2, hx375_3⟩ := at_T35 (Kd.R_reads' HO_355000.out).2.2 x8_2 p375 q375; cases e375; replace p375 := eq_true p375; replace q375 := eq_true q375) | (go_at_call 16; (with_reducible refine (tree_Lost.calls _ _ t350 t353 x8_2 false _ ?side1 ?side2 A65.out).mono ?_); (case side1 => repeat (first | exact (Kd.R_reads' HO_355000.out).2.2 | (with_reducible refine Kd.C_alloc ?_ _) | (with_reducible refine Kd.C_drewN ?_ _) | (with_reducible refine Kd.C_drew ?_))); (case side2 => exact (Kd.R_reads' HO_355000.out).2.1); rintro e w73 ⟨rfl, hb⟩; have n0_ := Aside0.mk (Kd.R_below (by (with_reducible repeat (first | apply Kd.R_alloc | apply Kd.R_drewN | apply Kd.R_drew)); exact HO_6.out) hb); have n1_ := Aside0.mk (Kd.R_below (by (with_reducible repeat (first | apply Kd.R_alloc | apply Kd.R_drewN | apply Kd.R_drew)); exact HO_355000.out) hb); have n2_ := Aside0.mk (blk_below (g := gb354) (o := .cells #[.slice (some ad375) t350.length co12, .int .i64 t353] 26 (0, 0)) (by (with_reducible repeat (first | refine blk_drewN ?_ _ | refine blk_drew ?_ | refine blk_alloc ?_ _)); exact BK354.out) hb); have n3_ := Aside0.mk (below_step (by repeat (first | (with_reducible first | exact HB.out | apply below_alloc | apply pw_below_drewN | apply below_drew1 | refine below_set ?_ GE354.out) | exact HB.out)) hb); clear HO_6; clear HO_355000; clear BK354; clear HB; have HO_6 := n0_; have HO_355000 := n1_; have BK354 := n2_; have HB := n3_; clear n0_ n1_ n2_ n3_; (try clear hb); (try clear hb2); (try clear hk); (try clear hi); have hcz74_0 : w73.cell? ⟨gb354, 0, none⟩ = some (.slice (some ad375) t350.length co12) := (blk_cell BK354.out 0).trans rfl; have hcz74_1 : w73.cell? ⟨gb354, 1, none⟩ = some (.int .i64 t353) := (blk_cell BK354.out 1).trans rfl; have hfz74_0 := blk_frozen BK354.out 0; have hfz74_1 := blk_frozen BK354.out 1) | (go_at_call 13; (with_reducible refine (tree_Deep.calls _ _ t350 t353 x8_2 t377 _ ?side1 ?side2 A67.out).mono ?_); (case side1 => repeat (first | exact (Kd.R_reads' HO_355000.out).2.2 | (with_reducible refine Kd.C_alloc ?_ _) | (with_reducible refine Kd.C_drewN ?_ _) | (with_reducible refine Kd.C_drew ?_))); (case side2 => exact (Kd.R_reads' HO_355000.out).2.1); rintro e w75 ⟨rfl, hb⟩; have n0_ := Aside0.mk (Kd.R_below (by (with_reducible repeat (first | apply Kd.R_alloc | apply Kd.R_drewN | apply Kd.R_drew)); exact HO_6.out) hb); have n1_ := Aside0.mk (Kd.R_below (by (with_reducible repeat (first | apply Kd.R_alloc | apply Kd.R_drewN | apply Kd.R_drew)); exact HO_355000.out) hb); have n2_ := Aside0.mk (blk_below (g := gb354) (o := .cells #[.slice (some ad375) t350.length co12, .int .i64 t353] 26 (0, 0)) (by (with_reducible repeat (first | refine blk_drewN ?_ _ | refine blk_drew ?_ | refine blk_alloc ?_ _)); exact BK354.out) hb); have n3_ := Aside0.mk (below_step (by repeat (first | (with_reducible first | exact HB.out | apply below_alloc | apply pw_below_drewN | apply below_drew1 | refine below_set ?_ GE354.out) | exact HB.out)) hb); clear HO_6; clear HO_355000; clear BK354; clear HB; have HO_6 := n0_; have HO_355000 := n1_; have BK354 := n2_; have HB := n3_; clear n0_ n1_ n2_ n3_; (try clear hb); (try clear hb2); (try clear hk); (try clear hi)))
                 go_roundg k2
                 case measure => have := HK1.out; have := HK2.out; omega
                 case rel => exact ⟨(wrap64 (x8_2 + 1)), (by first | rfl | (simp; done) | (simp [*]; done)), H', ⟨by have := HK1.out; have := HK2.out; omega⟩, ⟨by (with_reducible repeat (first | apply Kd.R_alloc | apply Kd.R_drewN | apply Kd.R_drew)); exact HO_6.out⟩, ⟨by (with_reducible repeat (first | apply Kd.R_alloc | apply Kd.R_drewN | apply Kd.R_drew)); exact HO_355000.out⟩, ⟨by (with_reducible repeat (first | refine blk_drewN ?_ _ | refine blk_drew ?_ | refine blk_alloc ?_ _)); exact BK354.out⟩, ⟨by repeat (first | (with_reducible first | exact HB.out | apply below_alloc | apply pw_below_drewN | apply below_drew1 | refine below_set ?_ GE354.out) | exact HB.out)⟩⟩
              ·rw [if_neg c64] at H
               have c64b0 : (((rd_T35 t350 x8_2).f1) == 1) = false := beq_eq_false_iff_ne.mpr c64
               have c64b1 : (((rd_T35 t350 x8_2).f1) != 1) = true := bne_iff_ne.mpr c64
               replace H := Option.bind_eq_some_iff.mp H
               obtain ⟨t378, A760, H⟩ := H
               replace H : (if t378 > 8 then (some false) else (heronrylaw09_TreeGrows.l1 k2 t349 x6_1 (wrap64 (x8_2 + 1)) t350 t353)) = some r := H
               have A76 := Aside0.mk A760
               clear A760
               by_cases c77 : t378 > 8
               ·rw [if_pos c77] at H
                have c77b0 : decide (8 < t378) = true := decide_eq_true c77
                clear c77
                obtain rfl := Option.some.inj H
                exact absurd hT_.out (by decide)
               ·rw [if_neg c77] at H
                have c77b0 : decide (8 < t378) = false := decide_eq_false c77
                clear c77
                have H' := Aside0.mk H
                clear H
                have hcz78_0 : wr.cell? ⟨gb354, 0, none⟩ = some (.slice Ao12 t350.length co12) := (blk_cell BK354.out 0).trans rfl
                have hcz78_1 : wr.cell? ⟨gb354, 1, none⟩ = some (.int .i64 t353) := (blk_cell BK354.out 1).trans rfl
                have hfz78_0 := blk_frozen BK354.out 0
                have hfz78_1 := blk_frozen BK354.out 1
                go_wp2_with (first | ((with_reducible refine gate_callee (f := 17) rfl ?_); refine goesL_ (some 61) rfl rfl Try.func17 (by kernel_rfl) rfl #[.agg #[.slice Ao12 t350.length co12, .int .i64 t353], .int .i64 x8_2] rfl (by (try simp only [List.map_toArray, List.map_cons, List.map_nil]); first | done | rfl | (simp only [List.length_drop, List.length_take]; rfl)) ?_; (with_reducible refine (tree_Fixed.calls _ _ t350 t353 x8_2 false _ ?side1 ?side2 A31.out).mono ?_); (case side1 => repeat (first | exact (Kd.R_reads' HO_355000.out).2.2 | (with_reducible refine Kd.C_alloc ?_ _) | (with_reducible refine Kd.C_drewN ?_ _) | (with_reducible refine Kd.C_drew ?_))); (case side2 => exact (Kd.R_reads' HO_355000.out).2.1); rintro e w79 ⟨rfl, hb⟩; refine ⟨_, rfl, ?_⟩; have n0_ := Aside0.mk (Kd.R_below (by (with_reducible repeat (first | apply Kd.R_alloc | apply Kd.R_drewN | apply Kd.R_drew)); exact HO_6.out) hb); have n1_ := Aside0.mk (Kd.R_below (by (with_reducible repeat (first | apply Kd.R_alloc | apply Kd.R_drewN | apply Kd.R_drew)); exact HO_355000.out) hb); have n2_ := Aside0.mk (blk_below (g := gb354) (o := .cells #[.slice Ao12 t350.length co12, .int .i64 t353] 26 (0, 0)) (by (with_reducible repeat (first | refine blk_drewN ?_ _ | refine blk_drew ?_ | refine blk_alloc ?_ _)); exact BK354.out) hb); have n3_ := Aside0.mk (below_step (by repeat (first | (with_reducible first | exact HB.out | apply below_alloc | apply pw_below_drewN | apply below_drew1 | refine below_set ?_ GE354.out) | exact HB.out)) hb); clear HO_6; clear HO_355000; clear BK354; clear HB; have HO_6 := n0_; have HO_355000 := n1_; have BK354 := n2_; have HB := n3_; clear n0_ n1_ n2_ n3_; (try clear hb); (try clear hb2); (try clear hk); (try clear hi); obtain ⟨Ao80, co80, eo80⟩ := Kd.R_slice HO_6.out; subst eo80; have p374 : 0 ≤ (x8_2 : Int) := of_decide_eq_true (by first | (with_reducible assumption) | assumption); have q374 : x8_2 < (x6_1.length : Int) := of_decide_eq_true (by first | (with_reducible assumption) | assumption); obtain ⟨ad374, e374, hx374_0⟩ := Kd.at_int (Kd.R_reads' HO_6.out).2.2 x8_2 p374 q374; cases e374; replace p374 := eq_true p374; replace q374 := eq_true q374; have hcz81_0 : w79.cell? ⟨gb354, 0, none⟩ = some (.slice Ao12 t350.length co12) := (blk_cell BK354.out 0).trans rfl; have hcz81_1 : w79.cell? ⟨gb354, 1, none⟩ = some (.int .i64 t353) := (blk_cell BK354.out 1).trans rfl; have hfz81_0 := blk_frozen BK354.out 0; have hfz81_1 := blk_frozen BK354.out 1; have p375 : 0 ≤ (x8_2 : Int) := of_decide_eq_true (by first | (with_reducible assumption) | assumption); have q375 : x8_2 < (t350.length : Int) := of_decide_eq_true (by first | (with_reducible assumption) | assumption); obtain ⟨ad375, e375, hx375_0, hx375_1, hx375_2, hx375_3⟩ := at_T35 (Kd.R_reads' HO_355000.out).2.2 x8_2 p375 q375; cases e375; replace p375 := eq_true p375; replace q375 := eq_true q375) | (go_at_call 13; (with_reducible refine (tree_Deep.calls _ _ t350 t353 x8_2 t378 _ ?side1 ?side2 A76.out).mono ?_); (case side1 => repeat (first | exact (Kd.R_reads' HO_355000.out).2.2 | (with_reducible refine Kd.C_alloc ?_ _) | (with_reducible refine Kd.C_drewN ?_ _) | (with_reducible refine Kd.C_drew ?_))); (case side2 => exact (Kd.R_reads' HO_355000.out).2.1); rintro e w82 ⟨rfl, hb⟩; have n0_ := Aside0.mk (Kd.R_below (by (with_reducible repeat (first | apply Kd.R_alloc | apply Kd.R_drewN | apply Kd.R_drew)); exact HO_6.out) hb); have n1_ := Aside0.mk (Kd.R_below (by (with_reducible repeat (first | apply Kd.R_alloc | apply Kd.R_drewN | apply Kd.R_drew)); exact HO_355000.out) hb); have n2_ := Aside0.mk (blk_below (g := gb354) (o := .cells #[.slice (some ad375) t350.length co12, .int .i64 t353] 26 (0, 0)) (by (with_reducible repeat (first | refine blk_drewN ?_ _ | refine blk_drew ?_ | refine blk_alloc ?_ _)); exact BK354.out) hb); have n3_ := Aside0.mk (below_step (by repeat (first | (with_reducible first | exact HB.out | apply below_alloc | apply pw_below_drewN | apply below_drew1 | refine below_set ?_ GE354.out) | exact HB.out)) hb); clear HO_6; clear HO_355000; clear BK354; clear HB; have HO_6 := n0_; have HO_355000 := n1_; have BK354 := n2_; have HB := n3_; clear n0_ n1_ n2_ n3_; (try clear hb); (try clear hb2); (try clear hk); (try clear hi)))
                go_roundg k2
                case measure => have := HK1.out; have := HK2.out; omega
                case rel => exact ⟨(wrap64 (x8_2 + 1)), (by first | rfl | (simp; done) | (simp [*]; done)), H', ⟨by have := HK1.out; have := HK2.out; omega⟩, ⟨by (with_reducible repeat (first | apply Kd.R_alloc | apply Kd.R_drewN | apply Kd.R_drew)); exact HO_6.out⟩, ⟨by (with_reducible repeat (first | apply Kd.R_alloc | apply Kd.R_drewN | apply Kd.R_drew)); exact HO_355000.out⟩, ⟨by (with_reducible repeat (first | refine blk_drewN ?_ _ | refine blk_drew ?_ | refine blk_alloc ?_ _)); exact BK354.out⟩, ⟨by repeat (first | (with_reducible first | exact HB.out | apply below_alloc | apply pw_below_drewN | apply below_drew1 | refine below_set ?_ GE354.out) | exact HB.out)⟩⟩
             ·rw [if_neg c63] at H
              have c63b0 : ((rd x6_1 x8_2) == 0) = false := beq_eq_false_iff_ne.mpr c63
              have c63b1 : ((rd x6_1 x8_2) != 0) = true := bne_iff_ne.mpr c63
              obtain rfl := Option.some.inj H
              exact absurd hT_.out (by decide)
            ·rw [if_neg c62] at H
             exact absurd H (by simp)
           ·rw [if_neg c61] at H
            exact absurd H (by simp)
         ·rw [if_neg c30] at H
          have c30b0 : decide (x8_2 < (t350.length : Int)) = false := decide_eq_false c30
          clear c30
          by_cases c83 : t349 = true
          ·subst c83
           have H1 : ((tree_Sane.f k2 t350 t353).bind fun t366 => (some t366)) = some r := by rw [if_pos rfl] at H; exact H
           clear H
           have H := H1
           clear H1
           replace H := Option.bind_eq_some_iff.mp H
           obtain ⟨t366, A840, H⟩ := H
           replace H : (some t366) = some r := H
           have A84 := Aside0.mk A840
           clear A840
           obtain rfl := Option.some.inj H
           have hcz85_0 : wr.cell? ⟨gb354, 0, none⟩ = some (.slice Ao12 t350.length co12) := (blk_cell BK354.out 0).trans rfl
           have hcz85_1 : wr.cell? ⟨gb354, 1, none⟩ = some (.int .i64 t353) := (blk_cell BK354.out 1).trans rfl
           have hfz85_0 := blk_frozen BK354.out 0
           have hfz85_1 := blk_frozen BK354.out 1
           go_wp2_with (first | (go_at_call 18; (with_reducible refine (tree_Sane.calls k2 _ _ t350 t353 t366 _ ?side1 ?side2 A84.out).mono ?_); (case side1 => repeat (first | exact (Kd.R_reads' HO_355000.out).2.2 | (with_reducible refine Kd.C_alloc ?_ _) | (with_reducible refine Kd.C_drewN ?_ _) | (with_reducible refine Kd.C_drew ?_))); (case side2 => exact (Kd.R_reads' HO_355000.out).2.1); rintro e w86 ⟨rfl, hb⟩; have n0_ := Aside0.mk (Kd.R_below (by (with_reducible repeat (first | apply Kd.R_alloc | apply Kd.R_drewN | apply Kd.R_drew)); exact HO_6.out) hb); have n1_ := Aside0.mk (Kd.R_below (by (with_reducible repeat (first | apply Kd.R_alloc | apply Kd.R_drewN | apply Kd.R_drew)); exact HO_355000.out) hb); have n2_ := Aside0.mk (blk_below (g := gb354) (o := .cells #[.slice Ao12 t350.length co12, .int .i64 t353] 26 (0, 0)) (by (with_reducible repeat (first | refine blk_drewN ?_ _ | refine blk_drew ?_ | refine blk_alloc ?_ _)); exact BK354.out) hb); have n3_ := Aside0.mk (below_step (by repeat (first | (with_reducible first | exact HB.out | apply below_alloc | apply pw_below_drewN | apply below_drew1 | refine below_set ?_ GE354.out) | exact HB.out)) hb); clear HO_6; clear HO_355000; clear BK354; clear HB; have HO_6 := n0_; have HO_355000 := n1_; have BK354 := n2_; have HB := n3_; clear n0_ n1_ n2_ n3_; (try clear hb); (try clear hb2); (try clear hk); (try clear hi)))
           go_ret
           exact ⟨by first | rfl | (simp [errW_none, errW_some] <;> rfl) | (simp [*, errW_none, errW_some] <;> rfl), by repeat (first | (with_reducible first | exact HB.out | apply below_alloc | apply pw_below_drewN | apply below_drew1 | refine below_set ?_ GE354.out) | exact HB.out)⟩
          ·replace c83 := Bool.eq_false_iff.mpr c83
           subst c83
           have H1 : (some false) = some r := by rw [if_neg (show ¬ (false = true) by decide)] at H; exact H
           clear H
           have H := H1
           clear H1
           obtain rfl := Option.some.inj H
           exact absurd hT_.out (by decide)
   ·rw [if_neg c8] at H
    exact absurd H (by simp)
  ·rw [if_neg c7] at H
   exact absurd H (by simp)

end Go.Proofs.Ytnlnglfjehohpaa.Q
