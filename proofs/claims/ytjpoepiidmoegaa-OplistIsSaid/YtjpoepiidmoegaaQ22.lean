-- Cut to what one claim reaches, out of what the kit's print laid for this seat (wip/tools/trim.py).
import Derived.Test.YtjpoepiidmoegaaQ0
import Derived.Test.YtjpoepiidmoegaaQ1
import Derived.Test.YtjpoepiidmoegaaQ16
import Derived.Test.YtjpoepiidmoegaaQS
namespace Go.Proofs.Ytjpoepiidmoegaa.Q
open Go.RowKit Go.Proofs.YtjpoepiidmoegaaW.PrintWords Go.Proofs.YtjpoepiidmoegaaW.PrintLast Go.Proofs.YtjpoepiidmoegaaW.PrintMore
attribute [local go_sem] max2_int min2_int max_two min_two max_three min_three max_four min_four   -- for this text's walks alone
set_option linter.unusedVariables false
set_option linter.unusedSimpArgs false

attribute [local go_sem high] eqA55
def heronryref15_Open.l0 : Nat → Int → List Bool → List (S83) → Int → List (S83) → Option ((List (S83)))
 | 0, _, _, _, _, _ => none
 | k + 1, x1, x5, x6, x7, x423000 => if x7 < (x423000.length : Int) then (if 0 ≤ x7 then (if x7 < (x5.length : Int) then (if rdOf false x5 x7 = true then (if ((rd_T83 x423000 x7).f0) = x1 then (if x6.length < 4398046511104 then (heronryref15_Open.l0 k x1 x5 (x6 ++ [(⟨(rd_T83 x423000 x7).f0, (rd_T83 x423000 x7).f1, (rd_T83 x423000 x7).f2, (rd_T83 x423000 x7).f3⟩ : S83)]) (wrap64 (x7 + 1)) x423000) else (none)) else (heronryref15_Open.l0 k x1 x5 x6 (wrap64 (x7 + 1)) x423000)) else (heronryref15_Open.l0 k x1 x5 x6 (wrap64 (x7 + 1)) x423000)) else (none)) else (none)) else (some x6)
def heronryref15_Open.f (k : Nat) (l0_0 : List (S83)) (a1 : Int) : Option ((List (S83))) := (heronryref15_open.f k l0_0).bind fun t423 => (heronryref15_Open.l0 k a1 t423 ([] : List (S83)) 0 l0_0)
set_option maxHeartbeats 8000000 in
set_option maxRecDepth 100000 in
theorem heronryref15_Open.calls (k : Nat) (A0_0 : Option Addr) (c0_0 : Nat) (l0_0 : List (S83)) (a1 : Int) (r : List (S83)) (w : World) (hr0_0 : Kd.C k83 w A0_0 l0_0.length l0_0) (hc0_0 : l0_0.length ≤ c0_0) (h : heronryref15_Open.f k l0_0 a1 = some r) :
  Calls Try.prog 26 #[.agg #[.slice A0_0 l0_0.length c0_0], .int .i64 a1] w fun e w' => ∃ v0_ : Value, e = .returned (v0_) ∧ Kd.R k83 83 w' w.heap.size (fun _ => True) v0_ r ∧ Below w.heap.size w w' := by
 have hu58 := Try.underlying58
 have hu83 := Try.underlying83
 have HR0_0 := am_ hr0_0
 have HC0_0 := am_ hc0_0
 clear hr0_0 hc0_0
 have HB := am_ (Below.refl w.heap.size w)
 have H : ((heronryref15_open.f k l0_0).bind fun t423 => (heronryref15_Open.l0 k a1 t423 ([] : List (S83)) 0 l0_0)) = some r := h
 clear h
 replace H := Option.bind_eq_some_iff.mp H
 obtain ⟨t423, A30, H⟩ := H
 replace H : (heronryref15_Open.l0 k a1 t423 ([] : List (S83)) 0 l0_0) = some r := H
 have A3 := am_ A30
 clear A30
 have H' := am_ H
 clear H
 go_enter Try.func26, Try.ntmps26
 go_wp2_with (first | ((with_reducible refine gate_dst (N := 2) rfl ?_); refine box_event ?hg (N := 2) ?hd (cs := #[.slice A0_0 l0_0.length c0_0]) (t := 58) ?hr ?_; (case hd => rfl); (case hg => rfl); (case hr => first | (go_simp; done) | (go_simp; rfl)); intro gb422 hg w4 hbox hb; have n0_ := am_ (below_step (be_ HB.out) hb); have n1_ := am_ (hbox); have n2_ := am_ ((by rw [hg]; exact (below_size (be_ HB.out)) : w.heap.size ≤ gb422)); have n3_ := am_ ((by rw [hg]; exact (below_size (be_ HB.out)) : w.heap.size ≤ gb422)); clear HB; have HB := n0_; have BK422 := n1_; have GW422 := n2_; have GE422 := n3_; clear n0_ n1_ n2_ n3_; clear hb hbox hg; have hcz5_0 : w4.cell? ⟨gb422, 0, none⟩ = some (.slice A0_0 l0_0.length c0_0) := (blk_cell BK422.out 0).trans rfl; have hfz5_0 := blk_frozen BK422.out 0) | ((with_reducible refine gate_callee (f := 51) rfl ?_); refine goesL_ (some 10) rfl rfl Try.func51 (by kernel_rfl) rfl #[.slice A0_0 l0_0.length c0_0] rfl ma_ ?_; (with_reducible refine (heronryref15_open.calls k _ _ l0_0 t423 _ ?side1 ?side2 A3.out).mono ?_); (case side1 => repeat (first | exact (Kd.C_below HR0_0.out HB.out) | (with_reducible refine Kd.C_alloc ?_ _) | (with_reducible refine Kd.C_drewN ?_ _) | (with_reducible refine Kd.C_drew ?_))); (case side2 => exact HC0_0.out); rintro e w6 ⟨v424, rfl, ho0, hb⟩; refine ⟨_, rfl, ?_⟩; have n0_ := am_ (Kd.R_lower ho0 (below_size (be_ HB.out))); have n1_ := am_ (bb_ BK422.out hb); have n2_ := am_ (below_step (be_ HB.out) hb); clear BK422; clear HB; have HO425 := n0_; have BK422 := n1_; have HB := n2_; clear n0_ n1_ n2_; (try clear hb); (try clear hb2); (try clear hk); (try clear hi); (try clear ho0)))
 go_loopg [6, 7] k (fun kq v6 v7 w' => ∃ (x6_1 : List (S83)) (x7_1 : Int), v7 = .int .i64 x7_1 ∧ Aside0 (heronryref15_Open.l0 kq a1 t423 x6_1 x7_1 l0_0 = some r) ∧ Aside0 (kq ≤ k) ∧ Aside0 (Kd.R Kd.bool 4 w' w.heap.size (fun _ => True) v424 t423) ∧ Aside0 (Kd.R k83 83 w' w.heap.size (fun _ => True) v6 x6_1) ∧ Aside0 (w'.heap[gb422]? = some (.cells #[(.slice A0_0 l0_0.length c0_0)] 58 (0, 0))) ∧ Aside0 (Below w.heap.size w w'))
 case atStart => exact ⟨(([] : List (S83))), (0), (by first | rfl | (simp; done) | (simp [*]; done)), H', ⟨Nat.le_refl _⟩, ⟨ro_ HO425.out⟩, ⟨by first | exact Kd.R_nil _ _ _ _ _ | exact Kd.N_nil _ _ _ _ _ | exact Kd.V_nil _ _ _ _ _ | exact Kd.Q_nil _ _ _ _ _ | exact Kd.S_nil _ _ _ _ _⟩, ⟨bk_ BK422.out⟩, ⟨be_ HB.out⟩⟩
 case round =>
  clear H'
  try clear c2
  try clear p2
  try clear c5
  try clear hcz5_0
  try clear hfz5_0
  obtain ⟨x6_1, x7_1, rfl, HA, HK1, HO_5, HO_6, BK422, HB⟩ := hrel
  cases gk with
  | zero => exact absurd HA.out (by simp [heronryref15_Open.l0])
  | succ k1 =>
   have H := HA.out
   clear HA
   simp only [heronryref15_Open.l0] at H
   by_cases c7 : x7_1 < (l0_0.length : Int)
   ·rw [if_pos c7] at H
    have c7b0 : decide (x7_1 < (l0_0.length : Int)) = true := decide_eq_true c7
    clear c7
    by_cases c8 : 0 ≤ x7_1
    ·rw [if_pos c8] at H
     have c8b0 : decide (0 ≤ x7_1) = true := decide_eq_true c8
     clear c8
     by_cases c9 : x7_1 < (t423.length : Int)
     ·rw [if_pos c9] at H
      have c9b0 : decide (x7_1 < (t423.length : Int)) = true := decide_eq_true c9
      clear c9
      obtain ⟨bq10, hbq10⟩ : ∃ b_ : Bool, b_ = (rdOf false t423 x7_1) := ⟨_, rfl⟩
      replace H : (if bq10 = true then (if ((rd_T83 l0_0 x7_1).f0) = a1 then (if x6_1.length < 4398046511104 then (heronryref15_Open.l0 k1 a1 t423 (x6_1 ++ [(⟨(rd_T83 l0_0 x7_1).f0, (rd_T83 l0_0 x7_1).f1, (rd_T83 l0_0 x7_1).f2, (rd_T83 l0_0 x7_1).f3⟩ : S83)]) (wrap64 (x7_1 + 1)) l0_0) else (none)) else (heronryref15_Open.l0 k1 a1 t423 x6_1 (wrap64 (x7_1 + 1)) l0_0)) else (heronryref15_Open.l0 k1 a1 t423 x6_1 (wrap64 (x7_1 + 1)) l0_0)) = some r := by rw [← hbq10] at H; exact H
      have Nbq10 := am_ hbq10
      clear hbq10
      by_cases c11 : bq10 = true
      ·subst c11
       have H1 : (if ((rd_T83 l0_0 x7_1).f0) = a1 then (if x6_1.length < 4398046511104 then (heronryref15_Open.l0 k1 a1 t423 (x6_1 ++ [(⟨(rd_T83 l0_0 x7_1).f0, (rd_T83 l0_0 x7_1).f1, (rd_T83 l0_0 x7_1).f2, (rd_T83 l0_0 x7_1).f3⟩ : S83)]) (wrap64 (x7_1 + 1)) l0_0) else (none)) else (heronryref15_Open.l0 k1 a1 t423 x6_1 (wrap64 (x7_1 + 1)) l0_0)) = some r := by rw [if_pos rfl] at H; exact H
       clear H
       have H := H1
       clear H1
       by_cases c12 : ((rd_T83 l0_0 x7_1).f0) = a1
       ·rw [if_pos c12] at H
        have c12b0 : (((rd_T83 l0_0 x7_1).f0) == a1) = true := beq_iff_eq.mpr c12
        have c12b1 : (((rd_T83 l0_0 x7_1).f0) != a1) = false := bne_eq_false_iff_eq.mpr c12
        clear c12
        by_cases c13 : x6_1.length < 4398046511104
        ·rw [if_pos c13] at H
         have LMc13 := am_ c13
         clear c13
         obtain ⟨y429, hy429⟩ : ∃ y_ : List (S83), y_ = (x6_1 ++ [(⟨(rd_T83 l0_0 x7_1).f0, (rd_T83 l0_0 x7_1).f1, (rd_T83 l0_0 x7_1).f2, (rd_T83 l0_0 x7_1).f3⟩ : S83)]) := ⟨_, rfl⟩
         replace H : (heronryref15_Open.l0 k1 a1 t423 y429 (wrap64 (x7_1 + 1)) l0_0) = some r := by first | (rw [hy429]; with_reducible exact H) | (have H2_ := (Option.bind_some _ _).symm.trans H; rw [hy429]; with_reducible exact H2_) | (have H2_ := (Option.bind_some _ _).symm.trans H; with_reducible exact H2_) | with_reducible exact H | (rw [hy429]; exact H) | exact H
         have Ny429 := am_ hy429
         clear hy429
         have H' := am_ H
         clear H
         have hcz14_0 : wr.cell? ⟨gb422, 0, none⟩ = some (.slice A0_0 l0_0.length c0_0) := (blk_cell BK422.out 0).trans rfl
         have hfz14_0 := blk_frozen BK422.out 0
         obtain ⟨Ao15, co15, eo15⟩ := Kd.R_slice HO_5.out
         subst eo15
         have p426 : 0 ≤ (x7_1 : Int) := of_decide_eq_true (by first | (with_reducible assumption) | assumption)
         have q426 : x7_1 < (t423.length : Int) := of_decide_eq_true (by first | (with_reducible assumption) | assumption)
         obtain ⟨ad426, e426, hx426_0⟩ := Kd.at_bool (Kd.R_reads' HO_5.out).2.2 x7_1 p426 q426
         (try rw [← Nbq10.out] at hx426_0)
         cases e426
         replace p426 := eq_true p426
         replace q426 := eq_true q426
         have p427 : 0 ≤ (x7_1 : Int) := of_decide_eq_true (by first | (with_reducible assumption) | assumption)
         have q427 : x7_1 < (l0_0.length : Int) := of_decide_eq_true (by first | (with_reducible assumption) | assumption)
         obtain ⟨ad427, e427, hx427_0, hx427_1, hx427_2, hx427_3⟩ := at_T83 HR0_0.out x7_1 p427 q427
         (try rw [← Nbq10.out] at hx427_3)
         cases e427
         replace hx427_0 := (HB.out.cell (World.block_lt_of_cell? w _ hx427_0)).trans hx427_0
         replace hx427_1 := (HB.out.cell (World.block_lt_of_cell? w _ hx427_1)).trans hx427_1
         replace hx427_2 := (HB.out.cell (World.block_lt_of_cell? w _ hx427_2)).trans hx427_2
         replace hx427_3 := (HB.out.cell (World.block_lt_of_cell? w _ hx427_3)).trans hx427_3
         replace p427 := eq_true p427
         replace q427 := eq_true q427
         have p428 : 0 ≤ (x7_1 : Int) := of_decide_eq_true (by first | (with_reducible assumption) | assumption)
         have q428 : x7_1 < (l0_0.length : Int) := of_decide_eq_true (by first | (with_reducible assumption) | assumption)
         obtain ⟨ad428, e428, hx428_0, hx428_1, hx428_2, hx428_3⟩ := at_T83 HR0_0.out x7_1 p428 q428
         (try rw [← Nbq10.out] at hx428_3)
         obtain rfl : ad427 = ad428 := (by injection e428)
         replace hx428_0 := (HB.out.cell (World.block_lt_of_cell? w _ hx428_0)).trans hx428_0
         replace hx428_1 := (HB.out.cell (World.block_lt_of_cell? w _ hx428_1)).trans hx428_1
         replace hx428_2 := (HB.out.cell (World.block_lt_of_cell? w _ hx428_2)).trans hx428_2
         replace hx428_3 := (HB.out.cell (World.block_lt_of_cell? w _ hx428_3)).trans hx428_3
         replace p428 := eq_true p428
         replace q428 := eq_true q428
         go_wp2_with (first | ((with_reducible refine gate_builtin (b := .append) (xs := #[.tmp 32, .tmp 38]) rfl ?_); at_builtin; refine Kd.R_append k83 (w0 := w) w.heap.size rfl (.tmp 32) (.tmp 38) 37 83 (.agg #[(.int .i64 0), (.int .i64 0), (.int .i64 0), (.bool false)]) 32 rfl Try.underlying37 info83 rfl (by decide) (by omega) u6 x6_1 (⟨(rd_T83 l0_0 x7_1).f0, (rd_T83 l0_0 x7_1).f1, (rd_T83 l0_0 x7_1).f2, (rd_T83 l0_0 x7_1).f3⟩ : S83) [.int .i64 ((rd_T83 l0_0 x7_1).f0), .int .i64 ((rd_T83 l0_0 x7_1).f1), .int .i64 ((rd_T83 l0_0 x7_1).f2), .bool ((rd_T83 l0_0 x7_1).f3)] (fun _ => True) (fun _ => False) rfl rfl ?aP (fun _ hk => hk.elim) ?aF ?aO ?aB ?aS ?aL ?_; (case aP => exact k83_mkM _ _ _ (⟨(rd_T83 l0_0 x7_1).f0, (rd_T83 l0_0 x7_1).f1, (rd_T83 l0_0 x7_1).f2, (rd_T83 l0_0 x7_1).f3⟩ : S83)); (case aB => exact (be_ HB.out)); (case aF => exact (fun _ _ => trivial)); (case aO => exact (ro_ HO_6.out)); (case aS => exact (below_size (be_ HB.out))); (case aL => have := LMc13.out; omega); intro v430 w16 ho hb hg hat; rw [← Ny429.out] at ho; have n0_ := am_ (Kd.R_over' (ro_ HO_5.out) (Kd.R_typed (ro_ HO_6.out)) (by decide) hg); have n1_ := am_ (blk_grown (g := gb422) (o := .cells #[.slice (some ad427) l0_0.length c0_0] 58 (0, 0)) (bk_ BK422.out) hg (Kd.R_ne HO_6.out BK422.out (by decide))); have n2_ := am_ (hb); have n3_ := am_ (ho); clear HO_5; clear BK422; clear HB; clear HO_6; have HO_5 := n0_; have BK422 := n1_; have HB := n2_; have HO431 := n3_; clear n0_ n1_ n2_ n3_; clear ho hb hg hat))
         go_roundg k1
         case measure => have := HK1.out; omega
         case rel => exact ⟨(y429), (wrap64 (x7_1 + 1)), (by first | rfl | (simp; done) | (simp [*]; done)), H', ⟨by have := HK1.out; omega⟩, ⟨ro_ HO_5.out⟩, ⟨ro_ HO431.out⟩, ⟨bk_ BK422.out⟩, ⟨be_ HB.out⟩⟩
        ·rw [if_neg c13] at H
         exact absurd H (by simp)
       ·rw [if_neg c12] at H
        have c12b0 : (((rd_T83 l0_0 x7_1).f0) == a1) = false := beq_eq_false_iff_ne.mpr c12
        have c12b1 : (((rd_T83 l0_0 x7_1).f0) != a1) = true := bne_iff_ne.mpr c12
        have H' := am_ H
        clear H
        have hcz17_0 : wr.cell? ⟨gb422, 0, none⟩ = some (.slice A0_0 l0_0.length c0_0) := (blk_cell BK422.out 0).trans rfl
        have hfz17_0 := blk_frozen BK422.out 0
        obtain ⟨Ao18, co18, eo18⟩ := Kd.R_slice HO_5.out
        subst eo18
        have p426 : 0 ≤ (x7_1 : Int) := of_decide_eq_true (by first | (with_reducible assumption) | assumption)
        have q426 : x7_1 < (t423.length : Int) := of_decide_eq_true (by first | (with_reducible assumption) | assumption)
        obtain ⟨ad426, e426, hx426_0⟩ := Kd.at_bool (Kd.R_reads' HO_5.out).2.2 x7_1 p426 q426
        (try rw [← Nbq10.out] at hx426_0)
        cases e426
        replace p426 := eq_true p426
        replace q426 := eq_true q426
        have p427 : 0 ≤ (x7_1 : Int) := of_decide_eq_true (by first | (with_reducible assumption) | assumption)
        have q427 : x7_1 < (l0_0.length : Int) := of_decide_eq_true (by first | (with_reducible assumption) | assumption)
        obtain ⟨ad427, e427, hx427_0, hx427_1, hx427_2, hx427_3⟩ := at_T83 HR0_0.out x7_1 p427 q427
        (try rw [← Nbq10.out] at hx427_3)
        cases e427
        replace hx427_0 := (HB.out.cell (World.block_lt_of_cell? w _ hx427_0)).trans hx427_0
        replace hx427_1 := (HB.out.cell (World.block_lt_of_cell? w _ hx427_1)).trans hx427_1
        replace hx427_2 := (HB.out.cell (World.block_lt_of_cell? w _ hx427_2)).trans hx427_2
        replace hx427_3 := (HB.out.cell (World.block_lt_of_cell? w _ hx427_3)).trans hx427_3
        replace p427 := eq_true p427
        replace q427 := eq_true q427
        go_wp2
        go_roundg k1
        case measure => have := HK1.out; omega
        case rel => exact ⟨(x6_1), (wrap64 (x7_1 + 1)), (by first | rfl | (simp; done) | (simp [*]; done)), H', ⟨by have := HK1.out; omega⟩, ⟨ro_ HO_5.out⟩, ⟨ro_ HO_6.out⟩, ⟨bk_ BK422.out⟩, ⟨be_ HB.out⟩⟩
      ·replace c11 := Bool.eq_false_iff.mpr c11
       subst c11
       have H1 : (heronryref15_Open.l0 k1 a1 t423 x6_1 (wrap64 (x7_1 + 1)) l0_0) = some r := by rw [if_neg (show ¬ (false = true) by decide)] at H; exact H
       clear H
       have H := H1
       clear H1
       have H' := am_ H
       clear H
       have hcz19_0 : wr.cell? ⟨gb422, 0, none⟩ = some (.slice A0_0 l0_0.length c0_0) := (blk_cell BK422.out 0).trans rfl
       have hfz19_0 := blk_frozen BK422.out 0
       obtain ⟨Ao20, co20, eo20⟩ := Kd.R_slice HO_5.out
       subst eo20
       have p426 : 0 ≤ (x7_1 : Int) := of_decide_eq_true (by first | (with_reducible assumption) | assumption)
       have q426 : x7_1 < (t423.length : Int) := of_decide_eq_true (by first | (with_reducible assumption) | assumption)
       obtain ⟨ad426, e426, hx426_0⟩ := Kd.at_bool (Kd.R_reads' HO_5.out).2.2 x7_1 p426 q426
       (try rw [← Nbq10.out] at hx426_0)
       cases e426
       replace p426 := eq_true p426
       replace q426 := eq_true q426
       go_wp2
       go_roundg k1
       case measure => have := HK1.out; omega
       case rel => exact ⟨(x6_1), (wrap64 (x7_1 + 1)), (by first | rfl | (simp; done) | (simp [*]; done)), H', ⟨by have := HK1.out; omega⟩, ⟨ro_ HO_5.out⟩, ⟨ro_ HO_6.out⟩, ⟨bk_ BK422.out⟩, ⟨be_ HB.out⟩⟩
     ·rw [if_neg c9] at H
      exact absurd H (by simp)
    ·rw [if_neg c8] at H
     exact absurd H (by simp)
   ·rw [if_neg c7] at H
    have c7b0 : decide (x7_1 < (l0_0.length : Int)) = false := decide_eq_false c7
    clear c7
    obtain rfl := Option.some.inj H
    have hcz21_0 : wr.cell? ⟨gb422, 0, none⟩ = some (.slice A0_0 l0_0.length c0_0) := (blk_cell BK422.out 0).trans rfl
    have hfz21_0 := blk_frozen BK422.out 0
    go_wp2
    go_ret
    exact ⟨_, by first | rfl | (simp [errW_none, errW_some] <;> rfl) | (simp [*, errW_none, errW_some] <;> rfl), ro_ HO_6.out, be_ HB.out⟩

def heronryref15_SameOps.l0 : Nat → List (S55) → List (S55) → Int → Option (Bool)
 | 0, _, _, _ => none
 | k + 1, x0, x1, x5 => if x5 < (x0.length : Int) then (if 0 ≤ x5 then (if x5 < (x1.length : Int) then (if (!(((rd_T55 x0 x5).f0) == ((rd_T55 x1 x5).f0)) || (!(((rd_T55 x0 x5).f1) == ((rd_T55 x1 x5).f1)))) = true then (some false) else (heronryref15_SameOps.l0 k x0 x1 (wrap64 (x5 + 1)))) else (none)) else (none)) else (some true)
def heronryref15_SameOps.f (k : Nat) (l0 : List (S55)) (l1 : List (S55)) : Option (Bool) := if (l0.length : Int) = (l1.length : Int) then (heronryref15_SameOps.l0 k l0 l1 0) else (some false)
set_option maxHeartbeats 8000000 in
set_option maxRecDepth 100000 in
theorem heronryref15_SameOps.calls (k : Nat) (A0 : Option Addr) (c0 : Nat) (l0 : List (S55)) (A1 : Option Addr) (c1 : Nat) (l1 : List (S55)) (r : Bool) (w : World) (hr0 : Kd.C k55 w A0 l0.length l0) (hc0 : l0.length ≤ c0) (hr1 : Kd.C k55 w A1 l1.length l1) (hc1 : l1.length ≤ c1) (h : heronryref15_SameOps.f k l0 l1 = some r) :
  Calls Try.prog 27 #[.slice A0 l0.length c0, .slice A1 l1.length c1] w fun e w' => e = .returned (.bool r) ∧ Drawn0 w w' := by
 have hu55 := Try.underlying55
 have HR0 := am_ hr0
 have HC0 := am_ hc0
 clear hr0 hc0
 have HR1 := am_ hr1
 have HC1 := am_ hc1
 clear hr1 hc1
 have H : (if (l0.length : Int) = (l1.length : Int) then (heronryref15_SameOps.l0 k l0 l1 0) else (some false)) = some r := h
 clear h
 by_cases c3 : (l0.length : Int) = (l1.length : Int)
 ·rw [if_pos c3] at H
  have c3b0 : ((l0.length : Int) == (l1.length : Int)) = true := beq_iff_eq.mpr c3
  have c3b1 : ((l0.length : Int) != (l1.length : Int)) = false := bne_eq_false_iff_eq.mpr c3
  have c3b2 : (l0.length == l1.length) = true := by first | simpa using c3 | (simp at c3 ⊢; omega)
  clear c3
  have H' := am_ H
  clear H
  go_enter Try.func27, Try.ntmps27
  go_wp2
  repeat (go_quiet (fail); try go_wp2)
  go_loopg [5] k (fun kq v5 w' => ∃ (x5_1 : Int), v5 = .int .i64 x5_1 ∧ Aside0 (heronryref15_SameOps.l0 kq l0 l1 x5_1 = some r) ∧ Aside0 (kq ≤ k) ∧ Drawn0 w w')
  case atStart => exact ⟨(0), (by first | rfl | (simp; done) | (simp [*]; done)), H', ⟨Nat.le_refl _⟩, by repeat (first | exact Drawn0.refl _ | apply Drawn0.step)⟩
  case round =>
   clear H'
   try clear c1
   try clear c2
   try clear p2
   try clear c3
   try clear c3b0
   try clear c3b1
   try clear c3b2
   obtain ⟨x5_1, rfl, HA, HK1, ⟨m1, rfl⟩⟩ := hrel
   cases gk with
   | zero => exact absurd HA.out (by simp [heronryref15_SameOps.l0])
   | succ k1 =>
    have H := HA.out
    clear HA
    simp only [heronryref15_SameOps.l0] at H
    by_cases c4 : x5_1 < (l0.length : Int)
    ·rw [if_pos c4] at H
     have c4b0 : decide (x5_1 < (l0.length : Int)) = true := decide_eq_true c4
     clear c4
     by_cases c5 : 0 ≤ x5_1
     ·rw [if_pos c5] at H
      have c5b0 : decide (0 ≤ x5_1) = true := decide_eq_true c5
      clear c5
      by_cases c6 : x5_1 < (l1.length : Int)
      ·rw [if_pos c6] at H
       have c6b0 : decide (x5_1 < (l1.length : Int)) = true := decide_eq_true c6
       clear c6
       by_cases c7 : (!(((rd_T55 l0 x5_1).f0) == ((rd_T55 l1 x5_1).f0)) || (!(((rd_T55 l0 x5_1).f1) == ((rd_T55 l1 x5_1).f1)))) = true
       ·rw [if_pos c7] at H
        have c7b0 : (!(((rd_T55 l0 x5_1).f0) == ((rd_T55 l1 x5_1).f0)) || (!(((rd_T55 l0 x5_1).f1) == ((rd_T55 l1 x5_1).f1)))) = true := c7
        clear c7
        obtain rfl := Option.some.inj H
        have p432 : 0 ≤ (x5_1 : Int) := of_decide_eq_true (by first | (with_reducible assumption) | assumption)
        have q432 : x5_1 < (l0.length : Int) := of_decide_eq_true (by first | (with_reducible assumption) | assumption)
        obtain ⟨ad432, e432, hx432_0, hx432_1⟩ := at_T55 HR0.out x5_1 p432 q432
        cases e432
        replace p432 := eq_true p432
        replace q432 := eq_true q432
        have p433 : 0 ≤ (x5_1 : Int) := of_decide_eq_true (by first | (with_reducible assumption) | assumption)
        have q433 : x5_1 < (l1.length : Int) := of_decide_eq_true (by first | (with_reducible assumption) | assumption)
        obtain ⟨ad433, e433, hx433_0, hx433_1⟩ := at_T55 HR1.out x5_1 p433 q433
        cases e433
        replace p433 := eq_true p433
        replace q433 := eq_true q433
        go_wp2
        repeat (go_quiet (fail); try go_wp2)
        go_ret
        exact ⟨by first | rfl | (simp; done) | (simp [*]; done), by repeat (first | exact Drawn0.refl _ | apply Drawn0.step)⟩
       ·rw [if_neg c7] at H
        have c7b0 : (!(((rd_T55 l0 x5_1).f0) == ((rd_T55 l1 x5_1).f0)) || (!(((rd_T55 l0 x5_1).f1) == ((rd_T55 l1 x5_1).f1)))) = false := by simpa using c7
        clear c7
        have H' := am_ H
        clear H
        have p432 : 0 ≤ (x5_1 : Int) := of_decide_eq_true (by first | (with_reducible assumption) | assumption)
        have q432 : x5_1 < (l0.length : Int) := of_decide_eq_true (by first | (with_reducible assumption) | assumption)
        obtain ⟨ad432, e432, hx432_0, hx432_1⟩ := at_T55 HR0.out x5_1 p432 q432
        cases e432
        replace p432 := eq_true p432
        replace q432 := eq_true q432
        have p433 : 0 ≤ (x5_1 : Int) := of_decide_eq_true (by first | (with_reducible assumption) | assumption)
        have q433 : x5_1 < (l1.length : Int) := of_decide_eq_true (by first | (with_reducible assumption) | assumption)
        obtain ⟨ad433, e433, hx433_0, hx433_1⟩ := at_T55 HR1.out x5_1 p433 q433
        cases e433
        replace p433 := eq_true p433
        replace q433 := eq_true q433
        go_wp2
        repeat (go_quiet (fail); try go_wp2)
        go_roundg k1
        case measure => have := HK1.out; omega
        case rel => exact ⟨(wrap64 (x5_1 + 1)), (by first | rfl | (simp; done) | (simp [*]; done)), H', ⟨by have := HK1.out; omega⟩, by repeat (first | exact Drawn0.refl _ | apply Drawn0.step)⟩
      ·rw [if_neg c6] at H
       exact absurd H (by simp)
     ·rw [if_neg c5] at H
      exact absurd H (by simp)
    ·rw [if_neg c4] at H
     have c4b0 : decide (x5_1 < (l0.length : Int)) = false := decide_eq_false c4
     clear c4
     obtain rfl := Option.some.inj H
     go_wp2
     repeat (go_quiet (fail); try go_wp2)
     go_ret
     exact ⟨by first | rfl | (simp; done) | (simp [*]; done), by repeat (first | exact Drawn0.refl _ | apply Drawn0.step)⟩
 ·rw [if_neg c3] at H
  have c3b0 : ((l0.length : Int) == (l1.length : Int)) = false := beq_eq_false_iff_ne.mpr c3
  have c3b1 : ((l0.length : Int) != (l1.length : Int)) = true := bne_iff_ne.mpr c3
  have c3b2 : (l0.length == l1.length) = false := by first | simpa using c3 | (simp at c3 ⊢; omega)
  obtain rfl := Option.some.inj H
  go_enter Try.func27, Try.ntmps27
  go_wp2
  repeat (go_quiet (fail); try go_wp2)
  go_ret
  exact ⟨by first | rfl | (simp; done) | (simp [*]; done), by repeat (first | exact Drawn0.refl _ | apply Drawn0.step)⟩

end Go.Proofs.Ytjpoepiidmoegaa.Q
