-- Cut to what one claim reaches, out of what the kit's print laid for this seat (wip/tools/trim.py).
import Derived.Test.YtjpoepiidmoegaaQ0
import Derived.Test.YtjpoepiidmoegaaQ14
import Derived.Test.YtjpoepiidmoegaaQ15
import Derived.Test.YtjpoepiidmoegaaQ16
import Derived.Test.YtjpoepiidmoegaaQS
namespace Go.Proofs.Ytjpoepiidmoegaa.Q
open Go.RowKit Go.Proofs.YtjpoepiidmoegaaW.PrintWords Go.Proofs.YtjpoepiidmoegaaW.PrintLast Go.Proofs.YtjpoepiidmoegaaW.PrintMore
attribute [local go_sem] max2_int min2_int max_two min_two max_three min_three max_four min_four   -- for this text's walks alone
set_option linter.unusedVariables false
set_option linter.unusedSimpArgs false

def heronryref15_Sane.l0 : Nat → List Bool → Int → Int → List (S83) → Option (Bool)
 | 0, _, _, _, _ => none
 | k + 1, x5, x6, x7, x357000 => if x7 < (x357000.length : Int) then (if 0 ≤ x7 then ((heronryref15_one.f ((rd_T83 x357000 x7).f0) ((rd_T83 x357000 x7).f1) ((rd_T83 x357000 x7).f2) ((rd_T83 x357000 x7).f3)).bind fun t365 => (if t365 = true then (if x7 < (x5.length : Int) then (if rdOf false x5 x7 = true then (heronryref15_Sane.l0 k x5 (wrap64 (x6 + 1)) (wrap64 (x7 + 1)) x357000) else (heronryref15_Sane.l0 k x5 x6 (wrap64 (x7 + 1)) x357000)) else (none)) else (some false))) else (none)) else (some (decide (x6 ≤ 256)))
def heronryref15_Sane.f (k : Nat) (l0_0 : List (S83)) : Option (Bool) := (heronryref15_undone.f k l0_0).bind fun bt357 => (if bt357.2 = true then ((heronryref15_open.f k l0_0).bind fun t361 => (heronryref15_Sane.l0 k t361 (l0_0.length : Int) 0 l0_0)) else (some false))
set_option maxHeartbeats 8000000 in
set_option maxRecDepth 100000 in
theorem heronryref15_Sane.calls (k : Nat) (A0_0 : Option Addr) (c0_0 : Nat) (l0_0 : List (S83)) (r : Bool) (w : World) (hr0_0 : Kd.C k83 w A0_0 l0_0.length l0_0) (hc0_0 : l0_0.length ≤ c0_0) (h : heronryref15_Sane.f k l0_0 = some r) :
  Calls Try.prog 23 #[.agg #[.slice A0_0 l0_0.length c0_0]] w fun e w' => e = .returned (.bool r) ∧ Below w.heap.size w w' := by
 have hu58 := Try.underlying58
 have hu83 := Try.underlying83
 have HR0_0 := am_ hr0_0
 have HC0_0 := am_ hc0_0
 clear hr0_0 hc0_0
 have HB := am_ (Below.refl w.heap.size w)
 have H : ((heronryref15_undone.f k l0_0).bind fun bt357 => (if bt357.2 = true then ((heronryref15_open.f k l0_0).bind fun t361 => (heronryref15_Sane.l0 k t361 (l0_0.length : Int) 0 l0_0)) else (some false))) = some r := h
 clear h
 replace H := Option.bind_eq_some_iff.mp H
 obtain ⟨⟨t357, t358⟩, A20, H⟩ := H
 replace H : (if t358 = true then ((heronryref15_open.f k l0_0).bind fun t361 => (heronryref15_Sane.l0 k t361 (l0_0.length : Int) 0 l0_0)) else (some false)) = some r := H
 have A2 := am_ A20
 clear A20
 by_cases c3 : t358 = true
 ·subst c3
  have H1 : ((heronryref15_open.f k l0_0).bind fun t361 => (heronryref15_Sane.l0 k t361 (l0_0.length : Int) 0 l0_0)) = some r := by rw [if_pos rfl] at H; exact H
  clear H
  have H := H1
  clear H1
  replace H := Option.bind_eq_some_iff.mp H
  obtain ⟨t361, A40, H⟩ := H
  replace H : (heronryref15_Sane.l0 k t361 (l0_0.length : Int) 0 l0_0) = some r := H
  have A4 := am_ A40
  clear A40
  have H' := am_ H
  clear H
  go_enter Try.func23, Try.ntmps23
  go_wp2_with (first | ((with_reducible refine gate_dst (N := 1) rfl ?_); refine box_event ?hg (N := 1) ?hd (cs := #[.slice A0_0 l0_0.length c0_0]) (t := 58) ?hr ?_; (case hd => rfl); (case hg => rfl); (case hr => first | (go_simp; done) | (go_simp; rfl)); intro gb356 hg w5 hbox hb; have n0_ := am_ (below_step (be_ HB.out) hb); have n1_ := am_ (hbox); have n2_ := am_ ((by rw [hg]; exact (below_size (be_ HB.out)) : w.heap.size ≤ gb356)); have n3_ := am_ ((by rw [hg]; exact (below_size (be_ HB.out)) : w.heap.size ≤ gb356)); clear HB; have HB := n0_; have BK356 := n1_; have GW356 := n2_; have GE356 := n3_; clear n0_ n1_ n2_ n3_; clear hb hbox hg; have hcz6_0 : w5.cell? ⟨gb356, 0, none⟩ = some (.slice A0_0 l0_0.length c0_0) := (blk_cell BK356.out 0).trans rfl; have hfz6_0 := blk_frozen BK356.out 0) | ((with_reducible refine gate_callee (f := 50) rfl ?_); refine goesL_ (some 11) rfl rfl Try.func50 (by kernel_rfl) rfl #[.slice A0_0 l0_0.length c0_0] rfl ma_ ?_; (with_reducible refine (heronryref15_undone.calls k _ _ l0_0 t357 true _ ?side1 ?side2 A2.out).mono ?_); (case side1 => repeat (first | exact (Kd.C_below HR0_0.out HB.out) | (with_reducible refine Kd.C_alloc ?_ _) | (with_reducible refine Kd.C_drewN ?_ _) | (with_reducible refine Kd.C_drew ?_))); (case side2 => exact HC0_0.out); rintro e w7 ⟨v359, rfl, ho0, hb⟩; refine ⟨_, rfl, ?_⟩; have n0_ := am_ (Kd.R_lower ho0 (below_size (be_ HB.out))); have n1_ := am_ (bb_ BK356.out hb); have n2_ := am_ (below_step (be_ HB.out) hb); clear BK356; clear HB; have HO360 := n0_; have BK356 := n1_; have HB := n2_; clear n0_ n1_ n2_; (try clear hb); (try clear hb2); (try clear hk); (try clear hi); (try clear ho0); have hcz8_0 : w7.cell? ⟨gb356, 0, none⟩ = some (.slice A0_0 l0_0.length c0_0) := (blk_cell BK356.out 0).trans rfl; have hfz8_0 := blk_frozen BK356.out 0) | ((with_reducible refine gate_callee (f := 51) rfl ?_); refine goesL_ (some 18) rfl rfl Try.func51 (by kernel_rfl) rfl #[.slice A0_0 l0_0.length c0_0] rfl ma_ ?_; (with_reducible refine (heronryref15_open.calls k _ _ l0_0 t361 _ ?side1 ?side2 A4.out).mono ?_); (case side1 => repeat (first | exact (Kd.C_below HR0_0.out HB.out) | (with_reducible refine Kd.C_alloc ?_ _) | (with_reducible refine Kd.C_drewN ?_ _) | (with_reducible refine Kd.C_drew ?_))); (case side2 => exact HC0_0.out); rintro e w9 ⟨v362, rfl, ho0, hb⟩; refine ⟨_, rfl, ?_⟩; have n0_ := am_ (Kd.R_elder' (ro_ HO360.out) (Kd.R_base ho0) hb); have n1_ := am_ (Kd.R_lower (Kd.R_new' ho0 (Kd.R_lt (ro_ HO360.out))) (below_size (be_ HB.out))); have n2_ := am_ (bb_ BK356.out hb); have n3_ := am_ (below_step (be_ HB.out) hb); clear HO360; clear BK356; clear HB; have HO360 := n0_; have HO363 := n1_; have BK356 := n2_; have HB := n3_; clear n0_ n1_ n2_ n3_; (try clear hb); (try clear hb2); (try clear hk); (try clear hi); (try clear ho0); have hcz10_0 : w9.cell? ⟨gb356, 0, none⟩ = some (.slice A0_0 l0_0.length c0_0) := (blk_cell BK356.out 0).trans rfl; have hfz10_0 := blk_frozen BK356.out 0))
  go_loopg [6, 7] k (fun kq v6 v7 w' => ∃ (x6_1 : Int) (x7_1 : Int), v6 = .int .i64 x6_1 ∧ v7 = .int .i64 x7_1 ∧ Aside0 (heronryref15_Sane.l0 kq t361 x6_1 x7_1 l0_0 = some r) ∧ Aside0 (kq ≤ k) ∧ Aside0 (Kd.R Kd.bool 4 w' w.heap.size (fun _ => True) v362 t361) ∧ Aside0 (w'.heap[gb356]? = some (.cells #[(.slice A0_0 l0_0.length c0_0)] 58 (0, 0))) ∧ Aside0 (Below w.heap.size w w'))
  case atStart => exact ⟨((l0_0.length : Int)), (0), (by first | rfl | (simp; done) | (simp [*]; done)), (by first | rfl | (simp; done) | (simp [*]; done)), H', ⟨Nat.le_refl _⟩, ⟨by (with_reducible repeat (first | apply Kd.R_alloc | apply Kd.R_drewN | apply Kd.R_drew)); exact Kd.R_mono HO363.out (fun _ hk => trivial)⟩, ⟨bk_ BK356.out⟩, ⟨be_ HB.out⟩⟩
  case round =>
   clear H'
   try clear c2
   try clear p2
   try clear c3
   try clear c5
   try clear hcz10_0
   try clear hcz6_0
   try clear hcz8_0
   try clear hfz10_0
   try clear hfz6_0
   try clear hfz8_0
   obtain ⟨x6_1, x7_1, rfl, rfl, HA, HK1, HO_5, BK356, HB⟩ := hrel
   cases gk with
   | zero => exact absurd HA.out (by simp [heronryref15_Sane.l0])
   | succ k1 =>
    have H := HA.out
    clear HA
    simp only [heronryref15_Sane.l0] at H
    by_cases c11 : x7_1 < (l0_0.length : Int)
    ·rw [if_pos c11] at H
     have c11b0 : decide (x7_1 < (l0_0.length : Int)) = true := decide_eq_true c11
     clear c11
     by_cases c12 : 0 ≤ x7_1
     ·rw [if_pos c12] at H
      have c12b0 : decide (0 ≤ x7_1) = true := decide_eq_true c12
      clear c12
      replace H := Option.bind_eq_some_iff.mp H
      obtain ⟨t365, A130, H⟩ := H
      replace H : (if t365 = true then (if x7_1 < (t361.length : Int) then (if rdOf false t361 x7_1 = true then (heronryref15_Sane.l0 k1 t361 (wrap64 (x6_1 + 1)) (wrap64 (x7_1 + 1)) l0_0) else (heronryref15_Sane.l0 k1 t361 x6_1 (wrap64 (x7_1 + 1)) l0_0)) else (none)) else (some false)) = some r := H
      have A13 := am_ A130
      clear A130
      by_cases c14 : t365 = true
      ·subst c14
       have H1 : (if x7_1 < (t361.length : Int) then (if rdOf false t361 x7_1 = true then (heronryref15_Sane.l0 k1 t361 (wrap64 (x6_1 + 1)) (wrap64 (x7_1 + 1)) l0_0) else (heronryref15_Sane.l0 k1 t361 x6_1 (wrap64 (x7_1 + 1)) l0_0)) else (none)) = some r := by rw [if_pos rfl] at H; exact H
       clear H
       have H := H1
       clear H1
       by_cases c15 : x7_1 < (t361.length : Int)
       ·rw [if_pos c15] at H
        have c15b0 : decide (x7_1 < (t361.length : Int)) = true := decide_eq_true c15
        clear c15
        obtain ⟨bq16, hbq16⟩ : ∃ b_ : Bool, b_ = (rdOf false t361 x7_1) := ⟨_, rfl⟩
        replace H : (if bq16 = true then (heronryref15_Sane.l0 k1 t361 (wrap64 (x6_1 + 1)) (wrap64 (x7_1 + 1)) l0_0) else (heronryref15_Sane.l0 k1 t361 x6_1 (wrap64 (x7_1 + 1)) l0_0)) = some r := by rw [← hbq16] at H; exact H
        have Nbq16 := am_ hbq16
        clear hbq16
        by_cases c17 : bq16 = true
        ·subst c17
         have H1 : (heronryref15_Sane.l0 k1 t361 (wrap64 (x6_1 + 1)) (wrap64 (x7_1 + 1)) l0_0) = some r := by rw [if_pos rfl] at H; exact H
         clear H
         have H := H1
         clear H1
         have H' := am_ H
         clear H
         have hcz18_0 : wr.cell? ⟨gb356, 0, none⟩ = some (.slice A0_0 l0_0.length c0_0) := (blk_cell BK356.out 0).trans rfl
         have hfz18_0 := blk_frozen BK356.out 0
         have p364 : 0 ≤ (x7_1 : Int) := of_decide_eq_true (by first | (with_reducible assumption) | assumption)
         have q364 : x7_1 < (l0_0.length : Int) := of_decide_eq_true (by first | (with_reducible assumption) | assumption)
         obtain ⟨ad364, e364, hx364_0, hx364_1, hx364_2, hx364_3⟩ := at_T83 HR0_0.out x7_1 p364 q364
         (try rw [← Nbq16.out] at hx364_3)
         cases e364
         replace hx364_0 := (HB.out.cell (World.block_lt_of_cell? w _ hx364_0)).trans hx364_0
         replace hx364_1 := (HB.out.cell (World.block_lt_of_cell? w _ hx364_1)).trans hx364_1
         replace hx364_2 := (HB.out.cell (World.block_lt_of_cell? w _ hx364_2)).trans hx364_2
         replace hx364_3 := (HB.out.cell (World.block_lt_of_cell? w _ hx364_3)).trans hx364_3
         replace p364 := eq_true p364
         replace q364 := eq_true q364
         go_wp2_with (first | ((with_reducible refine gate_callee (f := 49) rfl ?_); refine goesL_ (some 34) rfl rfl Try.func49 (by kernel_rfl) rfl #[.agg #[.int .i64 ((rd_T83 l0_0 x7_1).f0), .int .i64 ((rd_T83 l0_0 x7_1).f1), .int .i64 ((rd_T83 l0_0 x7_1).f2), .bool ((rd_T83 l0_0 x7_1).f3)]] rfl ma_ ?_; (with_reducible refine (heronryref15_one.calls ((rd_T83 l0_0 x7_1).f0) ((rd_T83 l0_0 x7_1).f1) ((rd_T83 l0_0 x7_1).f2) ((rd_T83 l0_0 x7_1).f3) true _ A13.out).mono ?_); rintro e w19 ⟨rfl, hb⟩; refine ⟨_, rfl, ?_⟩; have n0_ := am_ (Kd.R_below (ro_ HO_5.out) hb); have n1_ := am_ (bb_ BK356.out hb); have n2_ := am_ (below_step (be_ HB.out) hb); clear HO_5; clear BK356; clear HB; have HO_5 := n0_; have BK356 := n1_; have HB := n2_; clear n0_ n1_ n2_; (try clear hb); (try clear hb2); (try clear hk); (try clear hi); obtain ⟨Ao20, co20, eo20⟩ := Kd.R_slice HO_5.out; subst eo20; have p366 : 0 ≤ (x7_1 : Int) := of_decide_eq_true (by first | (with_reducible assumption) | assumption); have q366 : x7_1 < (t361.length : Int) := of_decide_eq_true (by first | (with_reducible assumption) | assumption); obtain ⟨ad366, e366, hx366_0⟩ := Kd.at_bool (Kd.R_reads' HO_5.out).2.2 x7_1 p366 q366; (try rw [← Nbq16.out] at hx366_0); cases e366; replace p366 := eq_true p366; replace q366 := eq_true q366))
         go_roundg k1
         case measure => have := HK1.out; omega
         case rel => exact ⟨(wrap64 (x6_1 + 1)), (wrap64 (x7_1 + 1)), (by first | rfl | (simp; done) | (simp [*]; done)), (by first | rfl | (simp; done) | (simp [*]; done)), H', ⟨by have := HK1.out; omega⟩, ⟨ro_ HO_5.out⟩, ⟨bk_ BK356.out⟩, ⟨be_ HB.out⟩⟩
        ·replace c17 := Bool.eq_false_iff.mpr c17
         subst c17
         have H1 : (heronryref15_Sane.l0 k1 t361 x6_1 (wrap64 (x7_1 + 1)) l0_0) = some r := by rw [if_neg (show ¬ (false = true) by decide)] at H; exact H
         clear H
         have H := H1
         clear H1
         have H' := am_ H
         clear H
         have hcz21_0 : wr.cell? ⟨gb356, 0, none⟩ = some (.slice A0_0 l0_0.length c0_0) := (blk_cell BK356.out 0).trans rfl
         have hfz21_0 := blk_frozen BK356.out 0
         have p364 : 0 ≤ (x7_1 : Int) := of_decide_eq_true (by first | (with_reducible assumption) | assumption)
         have q364 : x7_1 < (l0_0.length : Int) := of_decide_eq_true (by first | (with_reducible assumption) | assumption)
         obtain ⟨ad364, e364, hx364_0, hx364_1, hx364_2, hx364_3⟩ := at_T83 HR0_0.out x7_1 p364 q364
         (try rw [← Nbq16.out] at hx364_3)
         cases e364
         replace hx364_0 := (HB.out.cell (World.block_lt_of_cell? w _ hx364_0)).trans hx364_0
         replace hx364_1 := (HB.out.cell (World.block_lt_of_cell? w _ hx364_1)).trans hx364_1
         replace hx364_2 := (HB.out.cell (World.block_lt_of_cell? w _ hx364_2)).trans hx364_2
         replace hx364_3 := (HB.out.cell (World.block_lt_of_cell? w _ hx364_3)).trans hx364_3
         replace p364 := eq_true p364
         replace q364 := eq_true q364
         go_wp2_with (first | ((with_reducible refine gate_callee (f := 49) rfl ?_); refine goesL_ (some 34) rfl rfl Try.func49 (by kernel_rfl) rfl #[.agg #[.int .i64 ((rd_T83 l0_0 x7_1).f0), .int .i64 ((rd_T83 l0_0 x7_1).f1), .int .i64 ((rd_T83 l0_0 x7_1).f2), .bool ((rd_T83 l0_0 x7_1).f3)]] rfl ma_ ?_; (with_reducible refine (heronryref15_one.calls ((rd_T83 l0_0 x7_1).f0) ((rd_T83 l0_0 x7_1).f1) ((rd_T83 l0_0 x7_1).f2) ((rd_T83 l0_0 x7_1).f3) true _ A13.out).mono ?_); rintro e w22 ⟨rfl, hb⟩; refine ⟨_, rfl, ?_⟩; have n0_ := am_ (Kd.R_below (ro_ HO_5.out) hb); have n1_ := am_ (bb_ BK356.out hb); have n2_ := am_ (below_step (be_ HB.out) hb); clear HO_5; clear BK356; clear HB; have HO_5 := n0_; have BK356 := n1_; have HB := n2_; clear n0_ n1_ n2_; (try clear hb); (try clear hb2); (try clear hk); (try clear hi); obtain ⟨Ao23, co23, eo23⟩ := Kd.R_slice HO_5.out; subst eo23; have p366 : 0 ≤ (x7_1 : Int) := of_decide_eq_true (by first | (with_reducible assumption) | assumption); have q366 : x7_1 < (t361.length : Int) := of_decide_eq_true (by first | (with_reducible assumption) | assumption); obtain ⟨ad366, e366, hx366_0⟩ := Kd.at_bool (Kd.R_reads' HO_5.out).2.2 x7_1 p366 q366; (try rw [← Nbq16.out] at hx366_0); cases e366; replace p366 := eq_true p366; replace q366 := eq_true q366))
         go_roundg k1
         case measure => have := HK1.out; omega
         case rel => exact ⟨(x6_1), (wrap64 (x7_1 + 1)), (by first | rfl | (simp; done) | (simp [*]; done)), (by first | rfl | (simp; done) | (simp [*]; done)), H', ⟨by have := HK1.out; omega⟩, ⟨ro_ HO_5.out⟩, ⟨bk_ BK356.out⟩, ⟨be_ HB.out⟩⟩
       ·rw [if_neg c15] at H
        exact absurd H (by simp)
      ·replace c14 := Bool.eq_false_iff.mpr c14
       subst c14
       have H1 : (some false) = some r := by rw [if_neg (show ¬ (false = true) by decide)] at H; exact H
       clear H
       have H := H1
       clear H1
       obtain rfl := Option.some.inj H
       have hcz24_0 : wr.cell? ⟨gb356, 0, none⟩ = some (.slice A0_0 l0_0.length c0_0) := (blk_cell BK356.out 0).trans rfl
       have hfz24_0 := blk_frozen BK356.out 0
       have p364 : 0 ≤ (x7_1 : Int) := of_decide_eq_true (by first | (with_reducible assumption) | assumption)
       have q364 : x7_1 < (l0_0.length : Int) := of_decide_eq_true (by first | (with_reducible assumption) | assumption)
       obtain ⟨ad364, e364, hx364_0, hx364_1, hx364_2, hx364_3⟩ := at_T83 HR0_0.out x7_1 p364 q364
       cases e364
       replace hx364_0 := (HB.out.cell (World.block_lt_of_cell? w _ hx364_0)).trans hx364_0
       replace hx364_1 := (HB.out.cell (World.block_lt_of_cell? w _ hx364_1)).trans hx364_1
       replace hx364_2 := (HB.out.cell (World.block_lt_of_cell? w _ hx364_2)).trans hx364_2
       replace hx364_3 := (HB.out.cell (World.block_lt_of_cell? w _ hx364_3)).trans hx364_3
       replace p364 := eq_true p364
       replace q364 := eq_true q364
       go_wp2_with (first | ((with_reducible refine gate_callee (f := 49) rfl ?_); refine goesL_ (some 34) rfl rfl Try.func49 (by kernel_rfl) rfl #[.agg #[.int .i64 ((rd_T83 l0_0 x7_1).f0), .int .i64 ((rd_T83 l0_0 x7_1).f1), .int .i64 ((rd_T83 l0_0 x7_1).f2), .bool ((rd_T83 l0_0 x7_1).f3)]] rfl ma_ ?_; (with_reducible refine (heronryref15_one.calls ((rd_T83 l0_0 x7_1).f0) ((rd_T83 l0_0 x7_1).f1) ((rd_T83 l0_0 x7_1).f2) ((rd_T83 l0_0 x7_1).f3) false _ A13.out).mono ?_); rintro e w25 ⟨rfl, hb⟩; refine ⟨_, rfl, ?_⟩; have n0_ := am_ (Kd.R_below (ro_ HO_5.out) hb); have n1_ := am_ (bb_ BK356.out hb); have n2_ := am_ (below_step (be_ HB.out) hb); clear HO_5; clear BK356; clear HB; have HO_5 := n0_; have BK356 := n1_; have HB := n2_; clear n0_ n1_ n2_; (try clear hb); (try clear hb2); (try clear hk); (try clear hi)))
       go_ret
       exact ⟨by first | rfl | (simp [errW_none, errW_some] <;> rfl) | (simp [*, errW_none, errW_some] <;> rfl), be_ HB.out⟩
     ·rw [if_neg c12] at H
      exact absurd H (by simp)
    ·rw [if_neg c11] at H
     have c11b0 : decide (x7_1 < (l0_0.length : Int)) = false := decide_eq_false c11
     clear c11
     obtain rfl := Option.some.inj H
     have hcz26_0 : wr.cell? ⟨gb356, 0, none⟩ = some (.slice A0_0 l0_0.length c0_0) := (blk_cell BK356.out 0).trans rfl
     have hfz26_0 := blk_frozen BK356.out 0
     go_wp2
     go_ret
     exact ⟨by first | rfl | (simp [errW_none, errW_some] <;> rfl) | (simp [*, errW_none, errW_some] <;> rfl), be_ HB.out⟩
 ·replace c3 := Bool.eq_false_iff.mpr c3
  subst c3
  have H1 : (some false) = some r := by rw [if_neg (show ¬ (false = true) by decide)] at H; exact H
  clear H
  have H := H1
  clear H1
  obtain rfl := Option.some.inj H
  go_enter Try.func23, Try.ntmps23
  go_wp2_with (first | ((with_reducible refine gate_dst (N := 1) rfl ?_); refine box_event ?hg (N := 1) ?hd (cs := #[.slice A0_0 l0_0.length c0_0]) (t := 58) ?hr ?_; (case hd => rfl); (case hg => rfl); (case hr => first | (go_simp; done) | (go_simp; rfl)); intro gb356 hg w27 hbox hb; have n0_ := am_ (below_step (be_ HB.out) hb); have n1_ := am_ (hbox); have n2_ := am_ ((by rw [hg]; exact (below_size (be_ HB.out)) : w.heap.size ≤ gb356)); have n3_ := am_ ((by rw [hg]; exact (below_size (be_ HB.out)) : w.heap.size ≤ gb356)); clear HB; have HB := n0_; have BK356 := n1_; have GW356 := n2_; have GE356 := n3_; clear n0_ n1_ n2_ n3_; clear hb hbox hg; have hcz28_0 : w27.cell? ⟨gb356, 0, none⟩ = some (.slice A0_0 l0_0.length c0_0) := (blk_cell BK356.out 0).trans rfl; have hfz28_0 := blk_frozen BK356.out 0) | ((with_reducible refine gate_callee (f := 50) rfl ?_); refine goesL_ (some 11) rfl rfl Try.func50 (by kernel_rfl) rfl #[.slice A0_0 l0_0.length c0_0] rfl ma_ ?_; (with_reducible refine (heronryref15_undone.calls k _ _ l0_0 t357 false _ ?side1 ?side2 A2.out).mono ?_); (case side1 => repeat (first | exact (Kd.C_below HR0_0.out HB.out) | (with_reducible refine Kd.C_alloc ?_ _) | (with_reducible refine Kd.C_drewN ?_ _) | (with_reducible refine Kd.C_drew ?_))); (case side2 => exact HC0_0.out); rintro e w29 ⟨v359, rfl, ho0, hb⟩; refine ⟨_, rfl, ?_⟩; have n0_ := am_ (Kd.R_lower ho0 (below_size (be_ HB.out))); have n1_ := am_ (bb_ BK356.out hb); have n2_ := am_ (below_step (be_ HB.out) hb); clear BK356; clear HB; have HO360 := n0_; have BK356 := n1_; have HB := n2_; clear n0_ n1_ n2_; (try clear hb); (try clear hb2); (try clear hk); (try clear hi); (try clear ho0)))
  go_ret
  exact ⟨by first | rfl | (simp [errW_none, errW_some] <;> rfl) | (simp [*, errW_none, errW_some] <;> rfl), be_ HB.out⟩

end Go.Proofs.Ytjpoepiidmoegaa.Q
