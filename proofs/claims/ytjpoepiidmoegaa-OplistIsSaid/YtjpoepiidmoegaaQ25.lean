-- Cut to what one claim reaches, out of what the kit's print laid for this seat (wip/tools/trim.py).
import Derived.Test.YtjpoepiidmoegaaQ0
import Derived.Test.YtjpoepiidmoegaaQ16
import Derived.Test.YtjpoepiidmoegaaQ24
import Derived.Test.YtjpoepiidmoegaaQS
namespace Go.Proofs.Ytjpoepiidmoegaa.Q
open Go.RowKit Go.Proofs.YtjpoepiidmoegaaW.PrintWords Go.Proofs.YtjpoepiidmoegaaW.PrintLast Go.Proofs.YtjpoepiidmoegaaW.PrintMore
attribute [local go_sem] max2_int min2_int max_two min_two max_three min_three max_four min_four   -- for this text's walks alone
set_option linter.unusedVariables false
set_option linter.unusedSimpArgs false

def heronryref15_Ops.l0 : Nat → Int → List Bool → List (S55) → Int → List (S83) → List (S107) → Int → Option ((List (S55)))
 | 0, _, _, _, _, _, _, _ => none
 | k + 1, x2, x7, x8, x9, x451000, x452000, x452001 => if x9 < (x451000.length : Int) then (if 0 ≤ x9 then (if x9 < (x7.length : Int) then (if rdOf false x7 x9 = true then ((heronryref09_Within.f k x452000 x452001 ((rd_T83 x451000 x9).f0) x2).bind fun t457 => (if t457 = true then (if x8.length < 8796093022208 then (heronryref15_Ops.l0 k x2 x7 (x8 ++ [(⟨(rd_T83 x451000 x9).f1, (rd_T83 x451000 x9).f2⟩ : S55)]) (wrap64 (x9 + 1)) x451000 x452000 x452001) else (none)) else (heronryref15_Ops.l0 k x2 x7 x8 (wrap64 (x9 + 1)) x451000 x452000 x452001))) else (heronryref15_Ops.l0 k x2 x7 x8 (wrap64 (x9 + 1)) x451000 x452000 x452001)) else (none)) else (none)) else (some x8)
def heronryref15_Ops.f (k : Nat) (l0_0 : List (S83)) (l1_0 : List (S107)) (a1_1 : Int) (a2 : Int) : Option ((List (S55))) := (heronryref15_open.f k l0_0).bind fun t452 => (heronryref15_Ops.l0 k a2 t452 ([] : List (S55)) 0 l0_0 l1_0 a1_1)
def heronryref15_Ops.T6 : Bool × List (List Nat × List Nat) := (true, [([], []), ([], []), ([0, 1], [0, 1]), ([2], [2]), ([3], [3]), ([4], [4]), ([4], [4]), ([6, 4], [4, 6]), ([4], [4]), ([7, 8, 4], [4, 7, 8]), ([9, 4], [4, 9]), ([10, 4], [4, 10]), ([4], [4]), ([5, 11, 12, 4, 4], [4, 5, 11, 12]), ([4, 13], [4, 13])])
def heronryref15_Ops.B6 : List Nat := [0, 0, 3, 7, 15, 31, 31, 95, 31, 479, 991, 2015, 31, 8191, 16383]
theorem heronryref15_Ops.tab6 : rtab .any (opsOf Try.f29 6) = heronryref15_Ops.T6 := by kernel_rfl
theorem heronryref15_Ops.bits6 : waitsOk heronryref15_Ops.T6.2 heronryref15_Ops.B6 = true := by kernel_rfl
def heronryref15_Ops.T7 : Bool × List (List Nat × List Nat) := (true, [([], []), ([], []), ([1], [1]), ([], []), ([2, 3], [2, 3]), ([4], [4]), ([5], [5]), ([], []), ([7], [7]), ([], []), ([8, 9], [8, 9]), ([10], [10]), ([11], [11]), ([6, 12], [6, 12]), ([13], [13]), ([0, 14], [0, 14]), ([15, 15, 0, 1, 2, 3, 4, 5, 6, 7, 8, 9, 10, 11, 12, 13, 14, 15], [0, 15])])
def heronryref15_Ops.B7 : List Nat := [0, 0, 2, 0, 14, 30, 62, 0, 128, 0, 896, 1920, 3968, 8190, 16382, 32767, 65535]
theorem heronryref15_Ops.tab7 : rtab .any (opsOf Try.f29 7) = heronryref15_Ops.T7 := by kernel_rfl
theorem heronryref15_Ops.bits7 : waitsOk heronryref15_Ops.T7.2 heronryref15_Ops.B7 = true := by kernel_rfl
set_option maxHeartbeats 8000000 in
set_option maxRecDepth 100000 in
theorem heronryref15_Ops.calls (k : Nat) (A0_0 : Option Addr) (c0_0 : Nat) (l0_0 : List (S83)) (A1_0 : Option Addr) (c1_0 : Nat) (l1_0 : List (S107)) (a1_1 : Int) (a2 : Int) (r : List (S55)) (w : World) (hr0_0 : Kd.C k83 w A0_0 l0_0.length l0_0) (hc0_0 : l0_0.length ≤ c0_0) (hr1_0 : Kd.C k107 w A1_0 l1_0.length l1_0) (hc1_0 : l1_0.length ≤ c1_0) (h : heronryref15_Ops.f k l0_0 l1_0 a1_1 a2 = some r) :
  Calls Try.prog 29 #[.agg #[.slice A0_0 l0_0.length c0_0], .agg #[.slice A1_0 l1_0.length c1_0, .int .i64 a1_1], .int .i64 a2] w fun e w' => ∃ v0_ : Value, e = .returned (v0_) ∧ Kd.R k55 55 w' w.heap.size (fun _ => True) v0_ r ∧ Below w.heap.size w w' := by
 have hu58 := Try.underlying58
 have hu61 := Try.underlying61
 have hu55 := Try.underlying55
 have HR0_0 := am_ hr0_0
 have HC0_0 := am_ hc0_0
 clear hr0_0 hc0_0
 have HR1_0 := am_ hr1_0
 have HC1_0 := am_ hc1_0
 clear hr1_0 hc1_0
 have HB := am_ (Below.refl w.heap.size w)
 have H : ((heronryref15_open.f k l0_0).bind fun t452 => (heronryref15_Ops.l0 k a2 t452 ([] : List (S55)) 0 l0_0 l1_0 a1_1)) = some r := h
 clear h
 replace H := Option.bind_eq_some_iff.mp H
 obtain ⟨t452, A40, H⟩ := H
 replace H : (heronryref15_Ops.l0 k a2 t452 ([] : List (S55)) 0 l0_0 l1_0 a1_1) = some r := H
 have A4 := am_ A40
 clear A40
 have H' := am_ H
 clear H
 go_enter Try.func29, Try.ntmps29
 go_wp2_with (first | ((with_reducible refine gate_dst (N := 3) rfl ?_); refine box_event ?hg (N := 3) ?hd (cs := #[.slice A0_0 l0_0.length c0_0]) (t := 58) ?hr ?_; (case hd => rfl); (case hg => rfl); (case hr => first | (go_simp; done) | (go_simp; rfl)); intro gb450 hg w5 hbox hb; have n0_ := am_ (below_step (be_ HB.out) hb); have n1_ := am_ (hbox); have n2_ := am_ ((by rw [hg]; exact (below_size (be_ HB.out)) : w.heap.size ≤ gb450)); have n3_ := am_ ((by rw [hg]; exact (below_size (be_ HB.out)) : w.heap.size ≤ gb450)); clear HB; have HB := n0_; have BK450 := n1_; have GW450 := n2_; have GE450 := n3_; clear n0_ n1_ n2_ n3_; clear hb hbox hg) | ((with_reducible refine gate_dst (N := 4) rfl ?_); refine box_event ?hg (N := 4) ?hd (cs := #[.slice A1_0 l1_0.length c1_0, .int .i64 a1_1]) (t := 61) ?hr ?_; (case hd => rfl); (case hg => rfl); (case hr => first | (go_simp; done) | (go_simp; rfl)); intro gb451 hg w6 hbox hb; have n0_ := am_ (bb_ BK450.out hb); have n1_ := am_ (below_step (be_ HB.out) hb); have n2_ := am_ (hbox); have n3_ := am_ ((by rw [hg]; exact (below_size (be_ HB.out)) : w.heap.size ≤ gb451)); have n4_ := am_ ((by rw [hg]; exact (below_size (be_ HB.out)) : w.heap.size ≤ gb451)); have n5_ := am_ ((by rw [hg]; exact Nat.ne_of_lt (bl_ BK450.out) : gb450 ≠ gb451)); have n6_ := am_ ((by rw [hg]; exact Nat.ne_of_gt (bl_ BK450.out) : gb451 ≠ gb450)); clear BK450; clear HB; have BK450 := n0_; have HB := n1_; have BK451 := n2_; have GW451 := n3_; have GE451 := n4_; have NB450_451 := n5_; have NB451_450 := n6_; clear n0_ n1_ n2_ n3_ n4_ n5_ n6_; clear hb hbox hg; have hnb7 := NB450_451.out; have hnc7 := NB451_450.out; have hcz8_0 : w6.cell? ⟨gb450, 0, none⟩ = some (.slice A0_0 l0_0.length c0_0) := (blk_cell BK450.out 0).trans rfl; have hfz8_0 := blk_frozen BK450.out 0) | ((with_reducible refine gate_callee (f := 51) rfl ?_); refine goesL_ (some 12) rfl rfl Try.func51 (by kernel_rfl) rfl #[.slice A0_0 l0_0.length c0_0] rfl ma_ ?_; (with_reducible refine (heronryref15_open.calls k _ _ l0_0 t452 _ ?side1 ?side2 A4.out).mono ?_); (case side1 => repeat (first | exact (Kd.C_below HR0_0.out HB.out) | (with_reducible refine Kd.C_alloc ?_ _) | (with_reducible refine Kd.C_drewN ?_ _) | (with_reducible refine Kd.C_drew ?_))); (case side2 => exact HC0_0.out); rintro e w9 ⟨v453, rfl, ho0, hb⟩; refine ⟨_, rfl, ?_⟩; have n0_ := am_ (Kd.R_lower ho0 (below_size (be_ HB.out))); have n1_ := am_ (bb_ BK450.out hb); have n2_ := am_ (bb_ BK451.out hb); have n3_ := am_ (below_step (be_ HB.out) hb); clear BK450; clear BK451; clear HB; have HO454 := n0_; have BK450 := n1_; have BK451 := n2_; have HB := n3_; clear n0_ n1_ n2_ n3_; (try clear hb); (try clear hb2); (try clear hk); (try clear hi); (try clear ho0)))
 go_loopg [8, 9] k (fun kq v8 v9 w' => ∃ (x8_1 : List (S55)) (x9_1 : Int), v9 = .int .i64 x9_1 ∧ Aside0 (heronryref15_Ops.l0 kq a2 t452 x8_1 x9_1 l0_0 l1_0 a1_1 = some r) ∧ Aside0 (kq ≤ k) ∧ Aside0 (Kd.R Kd.bool 4 w' w.heap.size (fun _ => True) v453 t452) ∧ Aside0 (Kd.R k55 55 w' w.heap.size (fun _ => True) v8 x8_1) ∧ Aside0 (w'.heap[gb450]? = some (.cells #[(.slice A0_0 l0_0.length c0_0)] 58 (0, 0))) ∧ Aside0 (w'.heap[gb451]? = some (.cells #[(.slice A1_0 l1_0.length c1_0), .int .i64 a1_1] 61 (0, 0))) ∧ Aside0 (Below w.heap.size w w'))
 case atStart => exact ⟨(([] : List (S55))), (0), (by first | rfl | (simp; done) | (simp [*]; done)), H', ⟨Nat.le_refl _⟩, ⟨ro_ HO454.out⟩, ⟨by first | exact Kd.R_nil _ _ _ _ _ | exact Kd.N_nil _ _ _ _ _ | exact Kd.V_nil _ _ _ _ _ | exact Kd.Q_nil _ _ _ _ _ | exact Kd.S_nil _ _ _ _ _⟩, ⟨bk_ BK450.out⟩, ⟨bk_ BK451.out⟩, ⟨be_ HB.out⟩⟩
 case round =>
  clear H'
  try clear c1
  try clear c2
  try clear p2
  try clear c5
  try clear c7
  try clear hcz8_0
  try clear hfz8_0
  obtain ⟨x8_1, x9_1, rfl, HA, HK1, HO_7, HO_8, BK450, BK451, HB⟩ := hrel
  cases gk with
  | zero => exact absurd HA.out (by simp [heronryref15_Ops.l0])
  | succ k1 =>
   have H := HA.out
   clear HA
   simp only [heronryref15_Ops.l0] at H
   by_cases c10 : x9_1 < (l0_0.length : Int)
   ·rw [if_pos c10] at H
    have c10b0 : decide (x9_1 < (l0_0.length : Int)) = true := decide_eq_true c10
    clear c10
    by_cases c11 : 0 ≤ x9_1
    ·rw [if_pos c11] at H
     have c11b0 : decide (0 ≤ x9_1) = true := decide_eq_true c11
     clear c11
     by_cases c12 : x9_1 < (t452.length : Int)
     ·rw [if_pos c12] at H
      have c12b0 : decide (x9_1 < (t452.length : Int)) = true := decide_eq_true c12
      clear c12
      obtain ⟨bq13, hbq13⟩ : ∃ b_ : Bool, b_ = (rdOf false t452 x9_1) := ⟨_, rfl⟩
      replace H : (if bq13 = true then ((heronryref09_Within.f k1 l1_0 a1_1 ((rd_T83 l0_0 x9_1).f0) a2).bind fun t457 => (if t457 = true then (if x8_1.length < 8796093022208 then (heronryref15_Ops.l0 k1 a2 t452 (x8_1 ++ [(⟨(rd_T83 l0_0 x9_1).f1, (rd_T83 l0_0 x9_1).f2⟩ : S55)]) (wrap64 (x9_1 + 1)) l0_0 l1_0 a1_1) else (none)) else (heronryref15_Ops.l0 k1 a2 t452 x8_1 (wrap64 (x9_1 + 1)) l0_0 l1_0 a1_1))) else (heronryref15_Ops.l0 k1 a2 t452 x8_1 (wrap64 (x9_1 + 1)) l0_0 l1_0 a1_1)) = some r := by rw [← hbq13] at H; exact H
      have Nbq13 := am_ hbq13
      clear hbq13
      by_cases c14 : bq13 = true
      ·subst c14
       have H1 : ((heronryref09_Within.f k1 l1_0 a1_1 ((rd_T83 l0_0 x9_1).f0) a2).bind fun t457 => (if t457 = true then (if x8_1.length < 8796093022208 then (heronryref15_Ops.l0 k1 a2 t452 (x8_1 ++ [(⟨(rd_T83 l0_0 x9_1).f1, (rd_T83 l0_0 x9_1).f2⟩ : S55)]) (wrap64 (x9_1 + 1)) l0_0 l1_0 a1_1) else (none)) else (heronryref15_Ops.l0 k1 a2 t452 x8_1 (wrap64 (x9_1 + 1)) l0_0 l1_0 a1_1))) = some r := by rw [if_pos rfl] at H; exact H
       clear H
       have H := H1
       clear H1
       replace H := Option.bind_eq_some_iff.mp H
       obtain ⟨t457, A150, H⟩ := H
       replace H : (if t457 = true then (if x8_1.length < 8796093022208 then (heronryref15_Ops.l0 k1 a2 t452 (x8_1 ++ [(⟨(rd_T83 l0_0 x9_1).f1, (rd_T83 l0_0 x9_1).f2⟩ : S55)]) (wrap64 (x9_1 + 1)) l0_0 l1_0 a1_1) else (none)) else (heronryref15_Ops.l0 k1 a2 t452 x8_1 (wrap64 (x9_1 + 1)) l0_0 l1_0 a1_1)) = some r := H
       have A15 := am_ A150
       clear A150
       by_cases c16 : t457 = true
       ·subst c16
        have H1 : (if x8_1.length < 8796093022208 then (heronryref15_Ops.l0 k1 a2 t452 (x8_1 ++ [(⟨(rd_T83 l0_0 x9_1).f1, (rd_T83 l0_0 x9_1).f2⟩ : S55)]) (wrap64 (x9_1 + 1)) l0_0 l1_0 a1_1) else (none)) = some r := by rw [if_pos rfl] at H; exact H
        clear H
        have H := H1
        clear H1
        by_cases c17 : x8_1.length < 8796093022208
        ·rw [if_pos c17] at H
         have LMc17 := am_ c17
         clear c17
         obtain ⟨y460, hy460⟩ : ∃ y_ : List (S55), y_ = (x8_1 ++ [(⟨(rd_T83 l0_0 x9_1).f1, (rd_T83 l0_0 x9_1).f2⟩ : S55)]) := ⟨_, rfl⟩
         replace H : (heronryref15_Ops.l0 k1 a2 t452 y460 (wrap64 (x9_1 + 1)) l0_0 l1_0 a1_1) = some r := by first | (rw [hy460]; with_reducible exact H) | (have H2_ := (Option.bind_some _ _).symm.trans H; rw [hy460]; with_reducible exact H2_) | (have H2_ := (Option.bind_some _ _).symm.trans H; with_reducible exact H2_) | with_reducible exact H | (rw [hy460]; exact H) | exact H
         have Ny460 := am_ hy460
         clear hy460
         have H' := am_ H
         clear H
         have hnb18 := NB450_451.out
         have hnc18 := NB451_450.out
         have hcz19_0 : wr.cell? ⟨gb450, 0, none⟩ = some (.slice A0_0 l0_0.length c0_0) := (blk_cell BK450.out 0).trans rfl
         have hfz19_0 := blk_frozen BK450.out 0
         try go_wp2
         have n0_ := am_ (Kd.R_drew HO_7.out)
         have n1_ := am_ (Kd.R_drew HO_8.out)
         have n2_ := am_ (blk_drew BK450.out)
         have n3_ := am_ (blk_drew BK451.out)
         have n4_ := am_ (below_drew1 HB.out)
         clear HO_7
         clear HO_8
         clear BK450
         clear BK451
         clear HB
         have HO_7 := n0_
         have HO_8 := n1_
         have BK450 := n2_
         have BK451 := n3_
         have HB := n4_
         clear n0_ n1_ n2_ n3_ n4_
         obtain ⟨Ao21, co21, eo21⟩ := Kd.R_slice HO_7.out
         (first | subst eo21 | (injection eo21 with f1_ f2_ f3_; have f4_ := f1_.symm; have f5_ := f3_.symm; clear f1_ f2_ f3_; subst f4_; subst f5_))
         have p455 : 0 ≤ (x9_1 : Int) := of_decide_eq_true (by first | (with_reducible assumption) | assumption)
         have q455 : x9_1 < (t452.length : Int) := of_decide_eq_true (by first | (with_reducible assumption) | assumption)
         obtain ⟨ad455, e455, hx455_0⟩ := Kd.at_bool (Kd.R_reads' HO_7.out).2.2 x9_1 p455 q455
         (try rw [← Nbq13.out] at hx455_0)
         cases e455
         replace p455 := eq_true p455
         replace q455 := eq_true q455
         have p456 : 0 ≤ (x9_1 : Int) := of_decide_eq_true (by first | (with_reducible assumption) | assumption)
         have q456 : x9_1 < (l0_0.length : Int) := of_decide_eq_true (by first | (with_reducible assumption) | assumption)
         obtain ⟨ad456, e456, hx456_0, hx456_1, hx456_2, hx456_3⟩ := at_T83 HR0_0.out x9_1 p456 q456
         have hw456_3 := hx456_3
         have hw456_2 := hx456_2
         have hw456_1 := hx456_1
         have hw456_0 := hx456_0
         (try rw [← Nbq13.out] at hx456_3)
         cases e456
         replace hx456_0 := (HB.out.cell (World.block_lt_of_cell? w _ hx456_0)).trans hx456_0
         replace hx456_1 := (HB.out.cell (World.block_lt_of_cell? w _ hx456_1)).trans hx456_1
         replace hx456_2 := (HB.out.cell (World.block_lt_of_cell? w _ hx456_2)).trans hx456_2
         replace hx456_3 := (HB.out.cell (World.block_lt_of_cell? w _ hx456_3)).trans hx456_3
         replace p456 := eq_true p456
         replace q456 := eq_true q456
         refine start_ (n := 15) (S := fun w' => w'.cell? ⟨gb451, 0, none⟩ = some (.slice A1_0 l1_0.length c1_0) ∧ w'.cell? ⟨gb451, 1, none⟩ = some (.int .i64 a1_1) ∧ w'.cell? ⟨gb450, 0, none⟩ = some (.slice (some ad456) l0_0.length c0_0) ∧ w'.cell? (ad455.add (x9_1).toNat) = some (.bool true) ∧ w'.cell? (ad456.add ((x9_1).toNat * 4)) = some (.int .i64 ((rd_T83 l0_0 x9_1).f0)) ∧ w'.cell? ⟨(ad456.add ((x9_1).toNat * 4)).block, (ad456.add ((x9_1).toNat * 4)).off + 1, none⟩ = some (.int .i64 ((rd_T83 l0_0 x9_1).f1)) ∧ w'.cell? ⟨(ad456.add ((x9_1).toNat * 4)).block, (ad456.add ((x9_1).toNat * 4)).off + 2, none⟩ = some (.int .i64 ((rd_T83 l0_0 x9_1).f2)) ∧ w'.cell? ⟨(ad456.add ((x9_1).toNat * 4)).block, (ad456.add ((x9_1).toNat * 4)).off + 3, none⟩ = some (.bool ((rd_T83 l0_0 x9_1).f3))) (ds := []) #[false, false, false, false, false, false, false, false, false, false, false, false, false, false, false] (by kernel_rfl) rfl rfl ⟨(blk_cell BK451.out 0).trans rfl, (blk_cell BK451.out 1).trans rfl, (blk_cell BK450.out 0).trans rfl, hx455_0, ((HB.out.cell (World.block_lt_of_cell? w _ hw456_0)).trans hw456_0), ((HB.out.cell (World.block_lt_of_cell? w _ hw456_1)).trans hw456_1), ((HB.out.cell (World.block_lt_of_cell? w _ hw456_2)).trans hw456_2), ((HB.out.cell (World.block_lt_of_cell? w _ hw456_3)).trans hw456_3)⟩ (fun hHeld => ?_); refine with_tabW heronryref15_Ops.tab6 heronryref15_Ops.bits6 (fun HT_ HW_ => ?_)
         generalize wr.drew = w20 at HO_7 HO_8 BK450 BK451 HB hx455_0 hx456_0 hx456_1 hx456_2 hx456_3 hHeld ⊢
         refine pure_ (i := 0) (N := some 20) (v := ?_) (a' := ?_) #[true, false, false, false, false, false, false, false, false, false, false, false, false, false, false] rfl rfl (any_of HT_.out (by kernel_rfl)) (fun _ _ _ h => h) (Or.inl ⟨by rfl, ?_⟩) ?_ ?_
         rotate_left
         ·intro w'
          go_simp
          with_reducible rfl
         rotate_left
         ·simp only [Act.put, List.setIfInBounds_toArray, List.set_cons_zero, List.set_cons_succ, i64_w, i32_w]
          rfl
         refine pure_ (i := 1) (N := some 21) (v := ?_) (a' := ?_) #[true, true, false, false, false, false, false, false, false, false, false, false, false, false, false] rfl rfl (any_of HT_.out (by kernel_rfl)) (fun _ _ _ h => h) (Or.inl ⟨by rfl, ?_⟩) ?_ ?_
         rotate_left
         ·intro w'
          go_simp
          with_reducible rfl
         rotate_left
         ·simp only [Act.put, List.setIfInBounds_toArray, List.set_cons_zero, List.set_cons_succ, i64_w, i32_w]
          rfl
         refine pure_ (i := 2) (N := some 22) (v := ?_) (a' := ?_) #[true, true, true, false, false, false, false, false, false, false, false, false, false, false, false] rfl rfl (any_of HT_.out (by kernel_rfl)) (fun _ _ _ h => h) (Or.inl ⟨by rfl, ?_⟩) ?_ ?_
         rotate_left
         ·intro w'
          go_simp
          with_reducible rfl
         rotate_left
         ·simp only [Act.put, List.setIfInBounds_toArray, List.set_cons_zero, List.set_cons_succ, i64_w, i32_w]
          rfl
         refine take_ (i := 3) (N := some 23) (v := ?_) (a' := ?_) #[true, true, true, true, false, false, false, false, false, false, false, false, false, false, false] rfl rfl (take_ofW HT_.out HW_.out (by kernel_rfl)) (fun _ _ _ h => h) (Or.inl ⟨by rfl, ?_⟩) hHeld ?_ ?_
         rotate_left
         ·rintro w' ⟨s0, s1, s2, s3, s4, s5, s6, s7⟩
          go_simp
          with_reducible rfl
         rotate_left
         ·simp only [Act.put, List.setIfInBounds_toArray, List.set_cons_zero, List.set_cons_succ, i64_w, i32_w]
          rfl
         refine pure_ (i := 4) (N := some 24) (v := ?_) (a' := ?_) #[true, true, true, true, true, false, false, false, false, false, false, false, false, false, false] rfl rfl (any_of HT_.out (by kernel_rfl)) (fun _ _ _ h => h) (Or.inl ⟨by rfl, ?_⟩) ?_ ?_
         rotate_left
         ·intro w'
          go_simp
          with_reducible rfl
         rotate_left
         ·simp only [Act.put, List.setIfInBounds_toArray, List.set_cons_zero, List.set_cons_succ, i64_w, i32_w]
          rfl
         refine pure_ (i := 6) (N := some 26) (v := ?_) (a' := ?_) #[true, true, true, true, true, false, true, false, false, false, false, false, false, false, false] rfl rfl (any_of HT_.out (by kernel_rfl)) (fun _ _ _ h => h) (Or.inl ⟨by rfl, ?_⟩) ?_ ?_
         rotate_left
         ·intro w'
          go_simp
          with_reducible rfl
         rotate_left
         ·simp only [Act.put, List.setIfInBounds_toArray, List.set_cons_zero, List.set_cons_succ, i64_w, i32_w]
          rfl
         refine pure_ (i := 8) (N := some 28) (v := ?_) (a' := ?_) #[true, true, true, true, true, false, true, false, true, false, false, false, false, false, false] rfl rfl (any_of HT_.out (by kernel_rfl)) (fun _ _ _ h => h) (Or.inl ⟨by rfl, ?_⟩) ?_ ?_
         rotate_left
         ·intro w'
          go_simp
          with_reducible rfl
         rotate_left
         ·simp only [Act.put, List.setIfInBounds_toArray, List.set_cons_zero, List.set_cons_succ, i64_w, i32_w]
          rfl
         refine pure_ (i := 12) (N := some 32) (v := ?_) (a' := ?_) #[true, true, true, true, true, false, true, false, true, false, false, false, true, false, false] rfl rfl (any_of HT_.out (by kernel_rfl)) (fun _ _ _ h => h) (Or.inl ⟨by rfl, ?_⟩) ?_ ?_
         rotate_left
         ·intro w'
          go_simp
          with_reducible rfl
         rotate_left
         ·simp only [Act.put, List.setIfInBounds_toArray, List.set_cons_zero, List.set_cons_succ, i64_w, i32_w]
          rfl
         refine take_ (i := 5) (N := some 25) (v := ?_) (a' := ?_) #[true, true, true, true, true, true, true, false, true, false, false, false, true, false, false] rfl rfl (take_ofW HT_.out HW_.out (by kernel_rfl)) (fun _ _ _ h => h) (Or.inl ⟨by rfl, ?_⟩) hHeld ?_ ?_
         rotate_left
         ·rintro w' ⟨s0, s1, s2, s3, s4, s5, s6, s7⟩
          go_simp
          with_reducible rfl
         rotate_left
         ·simp only [Act.put, List.setIfInBounds_toArray, List.set_cons_zero, List.set_cons_succ, i64_w, i32_w]
          rfl
         refine take_ (i := 7) (N := some 27) (v := ?_) (a' := ?_) #[true, true, true, true, true, true, true, true, true, false, false, false, true, false, false] rfl rfl (take_ofW HT_.out HW_.out (by kernel_rfl)) (fun _ _ _ h => h) (Or.inl ⟨by rfl, ?_⟩) hHeld ?_ ?_
         rotate_left
         ·rintro w' ⟨s0, s1, s2, s3, s4, s5, s6, s7⟩
          go_simp
          with_reducible rfl
         rotate_left
         ·simp only [Act.put, List.setIfInBounds_toArray, List.set_cons_zero, List.set_cons_succ, i64_w, i32_w]
          rfl
         refine pure_ (i := 9) (N := some 29) (v := ?_) (a' := ?_) #[true, true, true, true, true, true, true, true, true, true, false, false, true, false, false] rfl rfl (any_of HT_.out (by kernel_rfl)) (fun _ _ _ h => h) (Or.inl ⟨by rfl, ?_⟩) ?_ ?_
         rotate_left
         ·intro w'
          go_simp
          with_reducible rfl
         rotate_left
         ·simp only [Act.put, List.setIfInBounds_toArray, List.set_cons_zero, List.set_cons_succ, i64_w, i32_w]
          rfl
         refine pure_ (i := 10) (N := some 30) (v := ?_) (a' := ?_) #[true, true, true, true, true, true, true, true, true, true, true, false, true, false, false] rfl rfl (any_of HT_.out (by kernel_rfl)) (fun _ _ _ h => h) (Or.inl ⟨by rfl, ?_⟩) ?_ ?_
         rotate_left
         ·intro w'
          go_simp
          with_reducible rfl
         rotate_left
         ·simp only [Act.put, List.setIfInBounds_toArray, List.set_cons_zero, List.set_cons_succ, i64_w, i32_w]
          rfl
         refine take_ (i := 11) (N := some 31) (v := ?_) (a' := ?_) #[true, true, true, true, true, true, true, true, true, true, true, true, true, false, false] rfl rfl (take_ofW HT_.out HW_.out (by kernel_rfl)) (fun _ _ _ h => h) (Or.inl ⟨by rfl, ?_⟩) hHeld ?_ ?_
         rotate_left
         ·rintro w' ⟨s0, s1, s2, s3, s4, s5, s6, s7⟩
          go_simp
          with_reducible rfl
         rotate_left
         ·simp only [Act.put, List.setIfInBounds_toArray, List.set_cons_zero, List.set_cons_succ, i64_w, i32_w]
          rfl
         refine one_ (i := 13) (N := some 33) #[true, true, true, true, true, true, true, true, true, true, true, true, true, true, false] rfl rfl (one_of HT_.out (by kernel_rfl)) (by decide) (fun K hK => ?_)
         refine goes_ Try.func54 (by kernel_rfl) rfl #[.agg #[.slice A1_0 l1_0.length c1_0, .int .i64 a1_1], .int .i64 ((rd_T83 l0_0 x9_1).f0), .int .i64 a2] (by rfl) rfl rfl ma_ ?_
         with_reducible refine (heronryref09_Within.calls k1 _ _ l1_0 a1_1 ((rd_T83 l0_0 x9_1).f0) a2 true _ ?side1 ?side2 A15.out).mono ?_
         (case side1 => repeat (first | exact (Kd.C_below HR1_0.out HB.out) | (with_reducible refine Kd.C_alloc ?_ _) | (with_reducible refine Kd.C_drewN ?_ _) | (with_reducible refine Kd.C_drew ?_)))
         (case side2 => exact HC1_0.out)
         rintro e w22 ⟨rfl, hb⟩
         have HS3_ := (hb.cell (World.block_lt_of_cell? _ _ (hHeld.2.2.2.1))).trans (hHeld.2.2.2.1)
         refine ⟨_, rfl, ?_⟩
         have n0_ := am_ (Kd.R_below (ro_ HO_7.out) hb)
         have n1_ := am_ (Kd.R_below (ro_ HO_8.out) hb)
         have n2_ := am_ (bb_ BK450.out hb)
         have n3_ := am_ (bb_ BK451.out hb)
         have n4_ := am_ (below_step (be_ HB.out) hb)
         clear HO_7
         clear HO_8
         clear BK450
         clear BK451
         clear HB
         have HO_7 := n0_
         have HO_8 := n1_
         have BK450 := n2_
         have BK451 := n3_
         have HB := n4_
         clear n0_ n1_ n2_ n3_ n4_
         (try clear hb)
         (try clear hb2)
         (try clear hk)
         (try clear hi)
         refine hK.out _ _ ⟨(blk_cell BK451.out 0).trans rfl, (blk_cell BK451.out 1).trans rfl, (blk_cell BK450.out 0).trans rfl, HS3_, ((HB.out.cell (World.block_lt_of_cell? w _ hw456_0)).trans hw456_0), ((HB.out.cell (World.block_lt_of_cell? w _ hw456_1)).trans hw456_1), ((HB.out.cell (World.block_lt_of_cell? w _ hw456_2)).trans hw456_2), ((HB.out.cell (World.block_lt_of_cell? w _ hw456_3)).trans hw456_3)⟩ (fun hHeld => ?_)
         clear hK K
         refine norm_ (a' := ?_) ?_ ?_
         rotate_left
         ·show Act.put _ (some 33) _ = _
          simp only [Act.put, List.setIfInBounds_toArray, List.set_cons_zero, List.set_cons_succ, i64_w, i32_w]
          rfl
         refine pure_ (i := 14) (N := some 34) (v := ?_) (a' := ?_) #[true, true, true, true, true, true, true, true, true, true, true, true, true, true, true] rfl rfl (any_of HT_.out (by kernel_rfl)) (fun _ _ _ h => h) (Or.inl ⟨by rfl, ?_⟩) ?_ ?_
         rotate_left
         ·intro w'
          go_simp
          with_reducible rfl
         rotate_left
         ·simp only [Act.put, List.setIfInBounds_toArray, List.set_cons_zero, List.set_cons_succ, i64_w, i32_w]
          rfl
         refine done_ (done_of HT_.out (by kernel_rfl)) ?_
         try go_wp2
         have n0_ := am_ (Kd.R_drew HO_7.out)
         have n1_ := am_ (Kd.R_drew HO_8.out)
         have n2_ := am_ (blk_drew BK450.out)
         have n3_ := am_ (blk_drew BK451.out)
         have n4_ := am_ (below_drew1 HB.out)
         clear HO_7
         clear HO_8
         clear BK450
         clear BK451
         clear HB
         have HO_7 := n0_
         have HO_8 := n1_
         have BK450 := n2_
         have BK451 := n3_
         have HB := n4_
         clear n0_ n1_ n2_ n3_ n4_
         have p458 : 0 ≤ (x9_1 : Int) := of_decide_eq_true (by first | (with_reducible assumption) | assumption)
         have q458 : x9_1 < (l0_0.length : Int) := of_decide_eq_true (by first | (with_reducible assumption) | assumption)
         obtain ⟨ad458, e458, hx458_0, hx458_1, hx458_2, hx458_3⟩ := at_T83 HR0_0.out x9_1 p458 q458
         have hw458_3 := hx458_3
         have hw458_2 := hx458_2
         have hw458_1 := hx458_1
         have hw458_0 := hx458_0
         (try rw [← Nbq13.out] at hx458_3)
         obtain rfl : ad456 = ad458 := (by injection e458)
         replace hx458_0 := (HB.out.cell (World.block_lt_of_cell? w _ hx458_0)).trans hx458_0
         replace hx458_1 := (HB.out.cell (World.block_lt_of_cell? w _ hx458_1)).trans hx458_1
         replace hx458_2 := (HB.out.cell (World.block_lt_of_cell? w _ hx458_2)).trans hx458_2
         replace hx458_3 := (HB.out.cell (World.block_lt_of_cell? w _ hx458_3)).trans hx458_3
         replace p458 := eq_true p458
         replace q458 := eq_true q458
         have p459 : 0 ≤ (x9_1 : Int) := of_decide_eq_true (by first | (with_reducible assumption) | assumption)
         have q459 : x9_1 < (l0_0.length : Int) := of_decide_eq_true (by first | (with_reducible assumption) | assumption)
         obtain ⟨ad459, e459, hx459_0, hx459_1, hx459_2, hx459_3⟩ := at_T83 HR0_0.out x9_1 p459 q459
         have hw459_3 := hx459_3
         have hw459_2 := hx459_2
         have hw459_1 := hx459_1
         have hw459_0 := hx459_0
         (try rw [← Nbq13.out] at hx459_3)
         obtain rfl : ad456 = ad459 := (by injection e459)
         replace hx459_0 := (HB.out.cell (World.block_lt_of_cell? w _ hx459_0)).trans hx459_0
         replace hx459_1 := (HB.out.cell (World.block_lt_of_cell? w _ hx459_1)).trans hx459_1
         replace hx459_2 := (HB.out.cell (World.block_lt_of_cell? w _ hx459_2)).trans hx459_2
         replace hx459_3 := (HB.out.cell (World.block_lt_of_cell? w _ hx459_3)).trans hx459_3
         replace p459 := eq_true p459
         replace q459 := eq_true q459
         refine start_ (n := 17) (S := fun w' => w'.cell? ⟨gb450, 0, none⟩ = some (.slice (some ad456) l0_0.length c0_0) ∧ w'.cell? (ad456.add ((x9_1).toNat * 4)) = some (.int .i64 ((rd_T83 l0_0 x9_1).f0)) ∧ w'.cell? ⟨(ad456.add ((x9_1).toNat * 4)).block, (ad456.add ((x9_1).toNat * 4)).off + 1, none⟩ = some (.int .i64 ((rd_T83 l0_0 x9_1).f1)) ∧ w'.cell? ⟨(ad456.add ((x9_1).toNat * 4)).block, (ad456.add ((x9_1).toNat * 4)).off + 2, none⟩ = some (.int .i64 ((rd_T83 l0_0 x9_1).f2)) ∧ w'.cell? ⟨(ad456.add ((x9_1).toNat * 4)).block, (ad456.add ((x9_1).toNat * 4)).off + 3, none⟩ = some (.bool ((rd_T83 l0_0 x9_1).f3)) ∧ w'.cell? (ad456.add ((x9_1).toNat * 4)) = some (.int .i64 ((rd_T83 l0_0 x9_1).f0)) ∧ w'.cell? ⟨(ad456.add ((x9_1).toNat * 4)).block, (ad456.add ((x9_1).toNat * 4)).off + 1, none⟩ = some (.int .i64 ((rd_T83 l0_0 x9_1).f1)) ∧ w'.cell? ⟨(ad456.add ((x9_1).toNat * 4)).block, (ad456.add ((x9_1).toNat * 4)).off + 2, none⟩ = some (.int .i64 ((rd_T83 l0_0 x9_1).f2)) ∧ w'.cell? ⟨(ad456.add ((x9_1).toNat * 4)).block, (ad456.add ((x9_1).toNat * 4)).off + 3, none⟩ = some (.bool ((rd_T83 l0_0 x9_1).f3))) (ds := []) #[false, false, false, false, false, false, false, false, false, false, false, false, false, false, false, false, false] (by kernel_rfl) rfl rfl ⟨(blk_cell BK450.out 0).trans rfl, ((HB.out.cell (World.block_lt_of_cell? w _ hw458_0)).trans hw458_0), ((HB.out.cell (World.block_lt_of_cell? w _ hw458_1)).trans hw458_1), ((HB.out.cell (World.block_lt_of_cell? w _ hw458_2)).trans hw458_2), ((HB.out.cell (World.block_lt_of_cell? w _ hw458_3)).trans hw458_3), ((HB.out.cell (World.block_lt_of_cell? w _ hw459_0)).trans hw459_0), ((HB.out.cell (World.block_lt_of_cell? w _ hw459_1)).trans hw459_1), ((HB.out.cell (World.block_lt_of_cell? w _ hw459_2)).trans hw459_2), ((HB.out.cell (World.block_lt_of_cell? w _ hw459_3)).trans hw459_3)⟩ (fun hHeld => ?_); refine with_tabW heronryref15_Ops.tab7 heronryref15_Ops.bits7 (fun HT_ HW_ => ?_)
         generalize w22.drew = w23 at HO_7 HO_8 BK450 BK451 HB hx458_0 hx458_1 hx458_2 hx458_3 hx459_0 hx459_1 hx459_2 hx459_3 hHeld ⊢
         refine pure_ (i := 0) (N := some 35) (v := ?_) (a' := ?_) #[true, false, false, false, false, false, false, false, false, false, false, false, false, false, false, false, false] rfl rfl (any_of HT_.out (by kernel_rfl)) (fun _ _ _ h => h) (Or.inl ⟨by rfl, ?_⟩) ?_ ?_
         rotate_left
         ·intro w'
          go_simp
          with_reducible rfl
         rotate_left
         ·simp only [Act.put, List.setIfInBounds_toArray, List.set_cons_zero, List.set_cons_succ, i64_w, i32_w]
          rfl
         refine pure_ (i := 1) (N := some 36) (v := ?_) (a' := ?_) #[true, true, false, false, false, false, false, false, false, false, false, false, false, false, false, false, false] rfl rfl (any_of HT_.out (by kernel_rfl)) (fun _ _ _ h => h) (Or.inl ⟨by rfl, ?_⟩) ?_ ?_
         rotate_left
         ·intro w'
          go_simp
          with_reducible rfl
         rotate_left
         ·simp only [Act.put, List.setIfInBounds_toArray, List.set_cons_zero, List.set_cons_succ, i64_w, i32_w]
          rfl
         refine pure_ (i := 3) (N := some 38) (v := ?_) (a' := ?_) #[true, true, false, true, false, false, false, false, false, false, false, false, false, false, false, false, false] rfl rfl (any_of HT_.out (by kernel_rfl)) (fun _ _ _ h => h) (Or.inl ⟨by rfl, ?_⟩) ?_ ?_
         rotate_left
         ·intro w'
          go_simp
          with_reducible rfl
         rotate_left
         ·simp only [Act.put, List.setIfInBounds_toArray, List.set_cons_zero, List.set_cons_succ, i64_w, i32_w]
          rfl
         refine pure_ (i := 7) (N := some 42) (v := ?_) (a' := ?_) #[true, true, false, true, false, false, false, true, false, false, false, false, false, false, false, false, false] rfl rfl (any_of HT_.out (by kernel_rfl)) (fun _ _ _ h => h) (Or.inl ⟨by rfl, ?_⟩) ?_ ?_
         rotate_left
         ·intro w'
          go_simp
          with_reducible rfl
         rotate_left
         ·simp only [Act.put, List.setIfInBounds_toArray, List.set_cons_zero, List.set_cons_succ, i64_w, i32_w]
          rfl
         refine pure_ (i := 9) (N := some 44) (v := ?_) (a' := ?_) #[true, true, false, true, false, false, false, true, false, true, false, false, false, false, false, false, false] rfl rfl (any_of HT_.out (by kernel_rfl)) (fun _ _ _ h => h) (Or.inl ⟨by rfl, ?_⟩) ?_ ?_
         rotate_left
         ·intro w'
          go_simp
          with_reducible rfl
         rotate_left
         ·simp only [Act.put, List.setIfInBounds_toArray, List.set_cons_zero, List.set_cons_succ, i64_w, i32_w]
          rfl
         refine take_ (i := 2) (N := some 37) (v := ?_) (a' := ?_) #[true, true, true, true, false, false, false, true, false, true, false, false, false, false, false, false, false] rfl rfl (take_ofW HT_.out HW_.out (by kernel_rfl)) (fun _ _ _ h => h) (Or.inl ⟨by rfl, ?_⟩) hHeld ?_ ?_
         rotate_left
         ·rintro w' ⟨s0, s1, s2, s3, s4, s5, s6, s7, s8⟩
          go_simp
          with_reducible rfl
         rotate_left
         ·simp only [Act.put, List.setIfInBounds_toArray, List.set_cons_zero, List.set_cons_succ, i64_w, i32_w]
          rfl
         refine pure_ (i := 4) (N := some 39) (v := ?_) (a' := ?_) #[true, true, true, true, true, false, false, true, false, true, false, false, false, false, false, false, false] rfl rfl (any_of HT_.out (by kernel_rfl)) (fun _ _ _ h => h) (Or.inl ⟨by rfl, ?_⟩) ?_ ?_
         rotate_left
         ·intro w'
          go_simp
          with_reducible rfl
         rotate_left
         ·simp only [Act.put, List.setIfInBounds_toArray, List.set_cons_zero, List.set_cons_succ, i64_w, i32_w]
          rfl
         refine pure_ (i := 5) (N := some 40) (v := ?_) (a' := ?_) #[true, true, true, true, true, true, false, true, false, true, false, false, false, false, false, false, false] rfl rfl (any_of HT_.out (by kernel_rfl)) (fun _ _ _ h => h) (Or.inl ⟨by rfl, ?_⟩) ?_ ?_
         rotate_left
         ·intro w'
          go_simp
          with_reducible rfl
         rotate_left
         ·simp only [Act.put, List.setIfInBounds_toArray, List.set_cons_zero, List.set_cons_succ, i64_w, i32_w]
          rfl
         refine take_ (i := 6) (N := some 41) (v := ?_) (a' := ?_) #[true, true, true, true, true, true, true, true, false, true, false, false, false, false, false, false, false] rfl rfl (take_ofW HT_.out HW_.out (by kernel_rfl)) (fun _ _ _ h => h) (Or.inl ⟨by rfl, ?_⟩) hHeld ?_ ?_
         rotate_left
         ·rintro w' ⟨s0, s1, s2, s3, s4, s5, s6, s7, s8⟩
          go_simp
          with_reducible rfl
         rotate_left
         ·simp only [Act.put, List.setIfInBounds_toArray, List.set_cons_zero, List.set_cons_succ, i64_w, i32_w]
          rfl
         refine take_ (i := 8) (N := some 43) (v := ?_) (a' := ?_) #[true, true, true, true, true, true, true, true, true, true, false, false, false, false, false, false, false] rfl rfl (take_ofW HT_.out HW_.out (by kernel_rfl)) (fun _ _ _ h => h) (Or.inl ⟨by rfl, ?_⟩) hHeld ?_ ?_
         rotate_left
         ·rintro w' ⟨s0, s1, s2, s3, s4, s5, s6, s7, s8⟩
          go_simp
          with_reducible rfl
         rotate_left
         ·simp only [Act.put, List.setIfInBounds_toArray, List.set_cons_zero, List.set_cons_succ, i64_w, i32_w]
          rfl
         refine pure_ (i := 10) (N := some 45) (v := ?_) (a' := ?_) #[true, true, true, true, true, true, true, true, true, true, true, false, false, false, false, false, false] rfl rfl (any_of HT_.out (by kernel_rfl)) (fun _ _ _ h => h) (Or.inl ⟨by rfl, ?_⟩) ?_ ?_
         rotate_left
         ·intro w'
          go_simp
          with_reducible rfl
         rotate_left
         ·simp only [Act.put, List.setIfInBounds_toArray, List.set_cons_zero, List.set_cons_succ, i64_w, i32_w]
          rfl
         refine pure_ (i := 11) (N := some 46) (v := ?_) (a' := ?_) #[true, true, true, true, true, true, true, true, true, true, true, true, false, false, false, false, false] rfl rfl (any_of HT_.out (by kernel_rfl)) (fun _ _ _ h => h) (Or.inl ⟨by rfl, ?_⟩) ?_ ?_
         rotate_left
         ·intro w'
          go_simp
          with_reducible rfl
         rotate_left
         ·simp only [Act.put, List.setIfInBounds_toArray, List.set_cons_zero, List.set_cons_succ, i64_w, i32_w]
          rfl
         refine take_ (i := 12) (N := some 47) (v := ?_) (a' := ?_) #[true, true, true, true, true, true, true, true, true, true, true, true, true, false, false, false, false] rfl rfl (take_ofW HT_.out HW_.out (by kernel_rfl)) (fun _ _ _ h => h) (Or.inl ⟨by rfl, ?_⟩) hHeld ?_ ?_
         rotate_left
         ·rintro w' ⟨s0, s1, s2, s3, s4, s5, s6, s7, s8⟩
          go_simp
          with_reducible rfl
         rotate_left
         ·simp only [Act.put, List.setIfInBounds_toArray, List.set_cons_zero, List.set_cons_succ, i64_w, i32_w]
          rfl
         refine pure_ (i := 13) (N := some 48) (v := ?_) (a' := ?_) #[true, true, true, true, true, true, true, true, true, true, true, true, true, true, false, false, false] rfl rfl (any_of HT_.out (by kernel_rfl)) (fun _ _ _ h => h) (Or.inl ⟨by rfl, ?_⟩) ?_ ?_
         rotate_left
         ·intro w'
          go_simp
          with_reducible rfl
         rotate_left
         ·simp only [Act.put, List.setIfInBounds_toArray, List.set_cons_zero, List.set_cons_succ, i64_w, i32_w]
          rfl
         refine one_ (i := 14) (N := some 49) #[true, true, true, true, true, true, true, true, true, true, true, true, true, true, true, false, false] rfl rfl (one_of HT_.out (by kernel_rfl)) (by decide) (fun K hK => ?_)
         refine value_ (w1 := ?_) (v := ?_) (by rfl) rfl ?_ ?_
         rotate_left 2
         ·go_simp
          constructor
          ·rfl
          ·rfl
         refine hK.out _ _ ⟨(blk_cell (blk_alloc BK450.out _) 0).trans rfl, (World.cell?_alloc_lt _ _ _ (World.block_lt_of_cell? _ _ (((HB.out.cell (World.block_lt_of_cell? w _ hw458_0)).trans hw458_0)))).trans (((HB.out.cell (World.block_lt_of_cell? w _ hw458_0)).trans hw458_0)), (World.cell?_alloc_lt _ _ _ (World.block_lt_of_cell? _ _ (((HB.out.cell (World.block_lt_of_cell? w _ hw458_1)).trans hw458_1)))).trans (((HB.out.cell (World.block_lt_of_cell? w _ hw458_1)).trans hw458_1)), (World.cell?_alloc_lt _ _ _ (World.block_lt_of_cell? _ _ (((HB.out.cell (World.block_lt_of_cell? w _ hw458_2)).trans hw458_2)))).trans (((HB.out.cell (World.block_lt_of_cell? w _ hw458_2)).trans hw458_2)), (World.cell?_alloc_lt _ _ _ (World.block_lt_of_cell? _ _ (((HB.out.cell (World.block_lt_of_cell? w _ hw458_3)).trans hw458_3)))).trans (((HB.out.cell (World.block_lt_of_cell? w _ hw458_3)).trans hw458_3)), (World.cell?_alloc_lt _ _ _ (World.block_lt_of_cell? _ _ (((HB.out.cell (World.block_lt_of_cell? w _ hw459_0)).trans hw459_0)))).trans (((HB.out.cell (World.block_lt_of_cell? w _ hw459_0)).trans hw459_0)), (World.cell?_alloc_lt _ _ _ (World.block_lt_of_cell? _ _ (((HB.out.cell (World.block_lt_of_cell? w _ hw459_1)).trans hw459_1)))).trans (((HB.out.cell (World.block_lt_of_cell? w _ hw459_1)).trans hw459_1)), (World.cell?_alloc_lt _ _ _ (World.block_lt_of_cell? _ _ (((HB.out.cell (World.block_lt_of_cell? w _ hw459_2)).trans hw459_2)))).trans (((HB.out.cell (World.block_lt_of_cell? w _ hw459_2)).trans hw459_2)), (World.cell?_alloc_lt _ _ _ (World.block_lt_of_cell? _ _ (((HB.out.cell (World.block_lt_of_cell? w _ hw459_3)).trans hw459_3)))).trans (((HB.out.cell (World.block_lt_of_cell? w _ hw459_3)).trans hw459_3))⟩ (fun hHeld => ?_)
         clear hK K
         refine norm_ (a' := ?_) ?_ ?_
         rotate_left
         ·show Act.put _ (some 49) _ = _
          simp only [Act.put, List.setIfInBounds_toArray, List.set_cons_zero, List.set_cons_succ, i64_w, i32_w]
          rfl
         refine one_ (i := 15) (N := some 50) #[true, true, true, true, true, true, true, true, true, true, true, true, true, true, true, true, false] rfl rfl (one_of HT_.out (by kernel_rfl)) (by decide) (fun K hK => ?_)
         refine Kd.R_append_step k55 (w0 := w) w.heap.size (by rfl) (.tmp 35) (.tmp 49) 51 55 (.agg #[(.int .i64 0), (.int .i64 0)]) 16 rfl Try.underlying51 info55 rfl (by decide) (by omega) u8 x8_1 (⟨(rd_T83 l0_0 x9_1).f1, (rd_T83 l0_0 x9_1).f2⟩ : S55) [.int .i64 ((rd_T83 l0_0 x9_1).f1), .int .i64 ((rd_T83 l0_0 x9_1).f2)] (fun _ => True) (fun _ => False) rfl rfl ?aP (fun _ hk => hk.elim) ?aF ?aO ?aB ?aS ?aL ?_
         (case aP => exact k55_mkM _ _ _ (⟨(rd_T83 l0_0 x9_1).f1, (rd_T83 l0_0 x9_1).f2⟩ : S55))
         (case aB => exact (be_ HB.out))
         (case aF => exact (fun _ _ => trivial))
         (case aO => exact (ro_ HO_8.out))
         (case aS => exact (below_size (be_ HB.out)))
         (case aL => have := LMc17.out; omega)
         intro v461 w24 ho hb hg hat
         rw [← Ny460.out] at ho
         have n0_ := am_ (Kd.R_over' (ro_ HO_7.out) (Kd.R_typed (ro_ HO_8.out)) (by decide) hg)
         have n1_ := am_ (blk_grown (g := gb450) (o := .cells #[.slice (some ad456) l0_0.length c0_0] 58 (0, 0)) (bk_ BK450.out) hg (Kd.R_ne HO_8.out BK450.out (by decide)))
         have n2_ := am_ (blk_grown (g := gb451) (o := .cells #[.slice A1_0 l1_0.length c1_0, .int .i64 a1_1] 61 (0, 0)) (bk_ BK451.out) hg (Kd.R_ne HO_8.out BK451.out (by decide)))
         have n3_ := am_ (hb)
         have n4_ := am_ (ho)
         clear HO_7
         clear BK450
         clear BK451
         clear HB
         clear HO_8
         have HO_7 := n0_
         have BK450 := n1_
         have BK451 := n2_
         have HB := n3_
         have HO462 := n4_
         clear n0_ n1_ n2_ n3_ n4_
         clear ho hb hg hat
         refine hK.out _ _ ⟨(blk_cell BK450.out 0).trans rfl, ((HB.out.cell (World.block_lt_of_cell? w _ hw458_0)).trans hw458_0), ((HB.out.cell (World.block_lt_of_cell? w _ hw458_1)).trans hw458_1), ((HB.out.cell (World.block_lt_of_cell? w _ hw458_2)).trans hw458_2), ((HB.out.cell (World.block_lt_of_cell? w _ hw458_3)).trans hw458_3), ((HB.out.cell (World.block_lt_of_cell? w _ hw459_0)).trans hw459_0), ((HB.out.cell (World.block_lt_of_cell? w _ hw459_1)).trans hw459_1), ((HB.out.cell (World.block_lt_of_cell? w _ hw459_2)).trans hw459_2), ((HB.out.cell (World.block_lt_of_cell? w _ hw459_3)).trans hw459_3)⟩ (fun hHeld => ?_)
         clear hK K
         refine norm_ (a' := ?_) ?_ ?_
         rotate_left
         ·show Act.put _ (some 50) _ = _
          simp only [Act.put, List.setIfInBounds_toArray, List.set_cons_zero, List.set_cons_succ, i64_w, i32_w]
          rfl
         refine pure_ (i := 16) (N := some 8) (v := ?_) (a' := ?_) #[true, true, true, true, true, true, true, true, true, true, true, true, true, true, true, true, true] rfl rfl (any_of HT_.out (by kernel_rfl)) (fun _ _ _ h => h) (Or.inl ⟨by rfl, ?_⟩) ?_ ?_
         rotate_left
         ·intro w'
          go_simp
          with_reducible rfl
         rotate_left
         ·simp only [Act.put, List.setIfInBounds_toArray, List.set_cons_zero, List.set_cons_succ, i64_w, i32_w]
          rfl
         refine done_ (done_of HT_.out (by kernel_rfl)) ?_
         try go_wp2
         go_roundg k1
         case measure => have := HK1.out; omega
         case rel => exact ⟨(y460), (wrap64 (x9_1 + 1)), (by first | rfl | (simp; done) | (simp [*]; done)), H', ⟨by have := HK1.out; omega⟩, ⟨ro_ HO_7.out⟩, ⟨ro_ HO462.out⟩, ⟨bk_ BK450.out⟩, ⟨bk_ BK451.out⟩, ⟨be_ HB.out⟩⟩
        ·rw [if_neg c17] at H
         exact absurd H (by simp)
       ·replace c16 := Bool.eq_false_iff.mpr c16
        subst c16
        have H1 : (heronryref15_Ops.l0 k1 a2 t452 x8_1 (wrap64 (x9_1 + 1)) l0_0 l1_0 a1_1) = some r := by rw [if_neg (show ¬ (false = true) by decide)] at H; exact H
        clear H
        have H := H1
        clear H1
        have H' := am_ H
        clear H
        have hnb25 := NB450_451.out
        have hnc25 := NB451_450.out
        have hcz26_0 : wr.cell? ⟨gb450, 0, none⟩ = some (.slice A0_0 l0_0.length c0_0) := (blk_cell BK450.out 0).trans rfl
        have hfz26_0 := blk_frozen BK450.out 0
        try go_wp2
        have n0_ := am_ (Kd.R_drew HO_7.out)
        have n1_ := am_ (Kd.R_drew HO_8.out)
        have n2_ := am_ (blk_drew BK450.out)
        have n3_ := am_ (blk_drew BK451.out)
        have n4_ := am_ (below_drew1 HB.out)
        clear HO_7
        clear HO_8
        clear BK450
        clear BK451
        clear HB
        have HO_7 := n0_
        have HO_8 := n1_
        have BK450 := n2_
        have BK451 := n3_
        have HB := n4_
        clear n0_ n1_ n2_ n3_ n4_
        obtain ⟨Ao28, co28, eo28⟩ := Kd.R_slice HO_7.out
        (first | subst eo28 | (injection eo28 with f1_ f2_ f3_; have f4_ := f1_.symm; have f5_ := f3_.symm; clear f1_ f2_ f3_; subst f4_; subst f5_))
        have p455 : 0 ≤ (x9_1 : Int) := of_decide_eq_true (by first | (with_reducible assumption) | assumption)
        have q455 : x9_1 < (t452.length : Int) := of_decide_eq_true (by first | (with_reducible assumption) | assumption)
        obtain ⟨ad455, e455, hx455_0⟩ := Kd.at_bool (Kd.R_reads' HO_7.out).2.2 x9_1 p455 q455
        (try rw [← Nbq13.out] at hx455_0)
        cases e455
        replace p455 := eq_true p455
        replace q455 := eq_true q455
        have p456 : 0 ≤ (x9_1 : Int) := of_decide_eq_true (by first | (with_reducible assumption) | assumption)
        have q456 : x9_1 < (l0_0.length : Int) := of_decide_eq_true (by first | (with_reducible assumption) | assumption)
        obtain ⟨ad456, e456, hx456_0, hx456_1, hx456_2, hx456_3⟩ := at_T83 HR0_0.out x9_1 p456 q456
        have hw456_3 := hx456_3
        have hw456_2 := hx456_2
        have hw456_1 := hx456_1
        have hw456_0 := hx456_0
        (try rw [← Nbq13.out] at hx456_3)
        cases e456
        replace hx456_0 := (HB.out.cell (World.block_lt_of_cell? w _ hx456_0)).trans hx456_0
        replace hx456_1 := (HB.out.cell (World.block_lt_of_cell? w _ hx456_1)).trans hx456_1
        replace hx456_2 := (HB.out.cell (World.block_lt_of_cell? w _ hx456_2)).trans hx456_2
        replace hx456_3 := (HB.out.cell (World.block_lt_of_cell? w _ hx456_3)).trans hx456_3
        replace p456 := eq_true p456
        replace q456 := eq_true q456
        refine start_ (n := 15) (S := fun w' => w'.cell? ⟨gb451, 0, none⟩ = some (.slice A1_0 l1_0.length c1_0) ∧ w'.cell? ⟨gb451, 1, none⟩ = some (.int .i64 a1_1) ∧ w'.cell? ⟨gb450, 0, none⟩ = some (.slice (some ad456) l0_0.length c0_0) ∧ w'.cell? (ad455.add (x9_1).toNat) = some (.bool true) ∧ w'.cell? (ad456.add ((x9_1).toNat * 4)) = some (.int .i64 ((rd_T83 l0_0 x9_1).f0)) ∧ w'.cell? ⟨(ad456.add ((x9_1).toNat * 4)).block, (ad456.add ((x9_1).toNat * 4)).off + 1, none⟩ = some (.int .i64 ((rd_T83 l0_0 x9_1).f1)) ∧ w'.cell? ⟨(ad456.add ((x9_1).toNat * 4)).block, (ad456.add ((x9_1).toNat * 4)).off + 2, none⟩ = some (.int .i64 ((rd_T83 l0_0 x9_1).f2)) ∧ w'.cell? ⟨(ad456.add ((x9_1).toNat * 4)).block, (ad456.add ((x9_1).toNat * 4)).off + 3, none⟩ = some (.bool ((rd_T83 l0_0 x9_1).f3))) (ds := []) #[false, false, false, false, false, false, false, false, false, false, false, false, false, false, false] (by kernel_rfl) rfl rfl ⟨(blk_cell BK451.out 0).trans rfl, (blk_cell BK451.out 1).trans rfl, (blk_cell BK450.out 0).trans rfl, hx455_0, ((HB.out.cell (World.block_lt_of_cell? w _ hw456_0)).trans hw456_0), ((HB.out.cell (World.block_lt_of_cell? w _ hw456_1)).trans hw456_1), ((HB.out.cell (World.block_lt_of_cell? w _ hw456_2)).trans hw456_2), ((HB.out.cell (World.block_lt_of_cell? w _ hw456_3)).trans hw456_3)⟩ (fun hHeld => ?_); refine with_tabW heronryref15_Ops.tab6 heronryref15_Ops.bits6 (fun HT_ HW_ => ?_)
        generalize wr.drew = w27 at HO_7 HO_8 BK450 BK451 HB hx455_0 hx456_0 hx456_1 hx456_2 hx456_3 hHeld ⊢
        refine pure_ (i := 0) (N := some 20) (v := ?_) (a' := ?_) #[true, false, false, false, false, false, false, false, false, false, false, false, false, false, false] rfl rfl (any_of HT_.out (by kernel_rfl)) (fun _ _ _ h => h) (Or.inl ⟨by rfl, ?_⟩) ?_ ?_
        rotate_left
        ·intro w'
         go_simp
         with_reducible rfl
        rotate_left
        ·simp only [Act.put, List.setIfInBounds_toArray, List.set_cons_zero, List.set_cons_succ, i64_w, i32_w]
         rfl
        refine pure_ (i := 1) (N := some 21) (v := ?_) (a' := ?_) #[true, true, false, false, false, false, false, false, false, false, false, false, false, false, false] rfl rfl (any_of HT_.out (by kernel_rfl)) (fun _ _ _ h => h) (Or.inl ⟨by rfl, ?_⟩) ?_ ?_
        rotate_left
        ·intro w'
         go_simp
         with_reducible rfl
        rotate_left
        ·simp only [Act.put, List.setIfInBounds_toArray, List.set_cons_zero, List.set_cons_succ, i64_w, i32_w]
         rfl
        refine pure_ (i := 2) (N := some 22) (v := ?_) (a' := ?_) #[true, true, true, false, false, false, false, false, false, false, false, false, false, false, false] rfl rfl (any_of HT_.out (by kernel_rfl)) (fun _ _ _ h => h) (Or.inl ⟨by rfl, ?_⟩) ?_ ?_
        rotate_left
        ·intro w'
         go_simp
         with_reducible rfl
        rotate_left
        ·simp only [Act.put, List.setIfInBounds_toArray, List.set_cons_zero, List.set_cons_succ, i64_w, i32_w]
         rfl
        refine take_ (i := 3) (N := some 23) (v := ?_) (a' := ?_) #[true, true, true, true, false, false, false, false, false, false, false, false, false, false, false] rfl rfl (take_ofW HT_.out HW_.out (by kernel_rfl)) (fun _ _ _ h => h) (Or.inl ⟨by rfl, ?_⟩) hHeld ?_ ?_
        rotate_left
        ·rintro w' ⟨s0, s1, s2, s3, s4, s5, s6, s7⟩
         go_simp
         with_reducible rfl
        rotate_left
        ·simp only [Act.put, List.setIfInBounds_toArray, List.set_cons_zero, List.set_cons_succ, i64_w, i32_w]
         rfl
        refine pure_ (i := 4) (N := some 24) (v := ?_) (a' := ?_) #[true, true, true, true, true, false, false, false, false, false, false, false, false, false, false] rfl rfl (any_of HT_.out (by kernel_rfl)) (fun _ _ _ h => h) (Or.inl ⟨by rfl, ?_⟩) ?_ ?_
        rotate_left
        ·intro w'
         go_simp
         with_reducible rfl
        rotate_left
        ·simp only [Act.put, List.setIfInBounds_toArray, List.set_cons_zero, List.set_cons_succ, i64_w, i32_w]
         rfl
        refine pure_ (i := 6) (N := some 26) (v := ?_) (a' := ?_) #[true, true, true, true, true, false, true, false, false, false, false, false, false, false, false] rfl rfl (any_of HT_.out (by kernel_rfl)) (fun _ _ _ h => h) (Or.inl ⟨by rfl, ?_⟩) ?_ ?_
        rotate_left
        ·intro w'
         go_simp
         with_reducible rfl
        rotate_left
        ·simp only [Act.put, List.setIfInBounds_toArray, List.set_cons_zero, List.set_cons_succ, i64_w, i32_w]
         rfl
        refine pure_ (i := 8) (N := some 28) (v := ?_) (a' := ?_) #[true, true, true, true, true, false, true, false, true, false, false, false, false, false, false] rfl rfl (any_of HT_.out (by kernel_rfl)) (fun _ _ _ h => h) (Or.inl ⟨by rfl, ?_⟩) ?_ ?_
        rotate_left
        ·intro w'
         go_simp
         with_reducible rfl
        rotate_left
        ·simp only [Act.put, List.setIfInBounds_toArray, List.set_cons_zero, List.set_cons_succ, i64_w, i32_w]
         rfl
        refine pure_ (i := 12) (N := some 32) (v := ?_) (a' := ?_) #[true, true, true, true, true, false, true, false, true, false, false, false, true, false, false] rfl rfl (any_of HT_.out (by kernel_rfl)) (fun _ _ _ h => h) (Or.inl ⟨by rfl, ?_⟩) ?_ ?_
        rotate_left
        ·intro w'
         go_simp
         with_reducible rfl
        rotate_left
        ·simp only [Act.put, List.setIfInBounds_toArray, List.set_cons_zero, List.set_cons_succ, i64_w, i32_w]
         rfl
        refine take_ (i := 5) (N := some 25) (v := ?_) (a' := ?_) #[true, true, true, true, true, true, true, false, true, false, false, false, true, false, false] rfl rfl (take_ofW HT_.out HW_.out (by kernel_rfl)) (fun _ _ _ h => h) (Or.inl ⟨by rfl, ?_⟩) hHeld ?_ ?_
        rotate_left
        ·rintro w' ⟨s0, s1, s2, s3, s4, s5, s6, s7⟩
         go_simp
         with_reducible rfl
        rotate_left
        ·simp only [Act.put, List.setIfInBounds_toArray, List.set_cons_zero, List.set_cons_succ, i64_w, i32_w]
         rfl
        refine take_ (i := 7) (N := some 27) (v := ?_) (a' := ?_) #[true, true, true, true, true, true, true, true, true, false, false, false, true, false, false] rfl rfl (take_ofW HT_.out HW_.out (by kernel_rfl)) (fun _ _ _ h => h) (Or.inl ⟨by rfl, ?_⟩) hHeld ?_ ?_
        rotate_left
        ·rintro w' ⟨s0, s1, s2, s3, s4, s5, s6, s7⟩
         go_simp
         with_reducible rfl
        rotate_left
        ·simp only [Act.put, List.setIfInBounds_toArray, List.set_cons_zero, List.set_cons_succ, i64_w, i32_w]
         rfl
        refine pure_ (i := 9) (N := some 29) (v := ?_) (a' := ?_) #[true, true, true, true, true, true, true, true, true, true, false, false, true, false, false] rfl rfl (any_of HT_.out (by kernel_rfl)) (fun _ _ _ h => h) (Or.inl ⟨by rfl, ?_⟩) ?_ ?_
        rotate_left
        ·intro w'
         go_simp
         with_reducible rfl
        rotate_left
        ·simp only [Act.put, List.setIfInBounds_toArray, List.set_cons_zero, List.set_cons_succ, i64_w, i32_w]
         rfl
        refine pure_ (i := 10) (N := some 30) (v := ?_) (a' := ?_) #[true, true, true, true, true, true, true, true, true, true, true, false, true, false, false] rfl rfl (any_of HT_.out (by kernel_rfl)) (fun _ _ _ h => h) (Or.inl ⟨by rfl, ?_⟩) ?_ ?_
        rotate_left
        ·intro w'
         go_simp
         with_reducible rfl
        rotate_left
        ·simp only [Act.put, List.setIfInBounds_toArray, List.set_cons_zero, List.set_cons_succ, i64_w, i32_w]
         rfl
        refine take_ (i := 11) (N := some 31) (v := ?_) (a' := ?_) #[true, true, true, true, true, true, true, true, true, true, true, true, true, false, false] rfl rfl (take_ofW HT_.out HW_.out (by kernel_rfl)) (fun _ _ _ h => h) (Or.inl ⟨by rfl, ?_⟩) hHeld ?_ ?_
        rotate_left
        ·rintro w' ⟨s0, s1, s2, s3, s4, s5, s6, s7⟩
         go_simp
         with_reducible rfl
        rotate_left
        ·simp only [Act.put, List.setIfInBounds_toArray, List.set_cons_zero, List.set_cons_succ, i64_w, i32_w]
         rfl
        refine one_ (i := 13) (N := some 33) #[true, true, true, true, true, true, true, true, true, true, true, true, true, true, false] rfl rfl (one_of HT_.out (by kernel_rfl)) (by decide) (fun K hK => ?_)
        refine goes_ Try.func54 (by kernel_rfl) rfl #[.agg #[.slice A1_0 l1_0.length c1_0, .int .i64 a1_1], .int .i64 ((rd_T83 l0_0 x9_1).f0), .int .i64 a2] (by rfl) rfl rfl ma_ ?_
        with_reducible refine (heronryref09_Within.calls k1 _ _ l1_0 a1_1 ((rd_T83 l0_0 x9_1).f0) a2 false _ ?side1 ?side2 A15.out).mono ?_
        (case side1 => repeat (first | exact (Kd.C_below HR1_0.out HB.out) | (with_reducible refine Kd.C_alloc ?_ _) | (with_reducible refine Kd.C_drewN ?_ _) | (with_reducible refine Kd.C_drew ?_)))
        (case side2 => exact HC1_0.out)
        rintro e w29 ⟨rfl, hb⟩
        have HS3_ := (hb.cell (World.block_lt_of_cell? _ _ (hHeld.2.2.2.1))).trans (hHeld.2.2.2.1)
        refine ⟨_, rfl, ?_⟩
        have n0_ := am_ (Kd.R_below (ro_ HO_7.out) hb)
        have n1_ := am_ (Kd.R_below (ro_ HO_8.out) hb)
        have n2_ := am_ (bb_ BK450.out hb)
        have n3_ := am_ (bb_ BK451.out hb)
        have n4_ := am_ (below_step (be_ HB.out) hb)
        clear HO_7
        clear HO_8
        clear BK450
        clear BK451
        clear HB
        have HO_7 := n0_
        have HO_8 := n1_
        have BK450 := n2_
        have BK451 := n3_
        have HB := n4_
        clear n0_ n1_ n2_ n3_ n4_
        (try clear hb)
        (try clear hb2)
        (try clear hk)
        (try clear hi)
        refine hK.out _ _ ⟨(blk_cell BK451.out 0).trans rfl, (blk_cell BK451.out 1).trans rfl, (blk_cell BK450.out 0).trans rfl, HS3_, ((HB.out.cell (World.block_lt_of_cell? w _ hw456_0)).trans hw456_0), ((HB.out.cell (World.block_lt_of_cell? w _ hw456_1)).trans hw456_1), ((HB.out.cell (World.block_lt_of_cell? w _ hw456_2)).trans hw456_2), ((HB.out.cell (World.block_lt_of_cell? w _ hw456_3)).trans hw456_3)⟩ (fun hHeld => ?_)
        clear hK K
        refine norm_ (a' := ?_) ?_ ?_
        rotate_left
        ·show Act.put _ (some 33) _ = _
         simp only [Act.put, List.setIfInBounds_toArray, List.set_cons_zero, List.set_cons_succ, i64_w, i32_w]
         rfl
        refine pure_ (i := 14) (N := some 34) (v := ?_) (a' := ?_) #[true, true, true, true, true, true, true, true, true, true, true, true, true, true, true] rfl rfl (any_of HT_.out (by kernel_rfl)) (fun _ _ _ h => h) (Or.inl ⟨by rfl, ?_⟩) ?_ ?_
        rotate_left
        ·intro w'
         go_simp
         with_reducible rfl
        rotate_left
        ·simp only [Act.put, List.setIfInBounds_toArray, List.set_cons_zero, List.set_cons_succ, i64_w, i32_w]
         rfl
        refine done_ (done_of HT_.out (by kernel_rfl)) ?_
        try go_wp2
        go_roundg k1
        case measure => have := HK1.out; omega
        case rel => exact ⟨(x8_1), (wrap64 (x9_1 + 1)), (by first | rfl | (simp; done) | (simp [*]; done)), H', ⟨by have := HK1.out; omega⟩, ⟨ro_ HO_7.out⟩, ⟨ro_ HO_8.out⟩, ⟨bk_ BK450.out⟩, ⟨bk_ BK451.out⟩, ⟨be_ HB.out⟩⟩
      ·replace c14 := Bool.eq_false_iff.mpr c14
       subst c14
       have H1 : (heronryref15_Ops.l0 k1 a2 t452 x8_1 (wrap64 (x9_1 + 1)) l0_0 l1_0 a1_1) = some r := by rw [if_neg (show ¬ (false = true) by decide)] at H; exact H
       clear H
       have H := H1
       clear H1
       have H' := am_ H
       clear H
       have hnb30 := NB450_451.out
       have hnc30 := NB451_450.out
       have hcz31_0 : wr.cell? ⟨gb450, 0, none⟩ = some (.slice A0_0 l0_0.length c0_0) := (blk_cell BK450.out 0).trans rfl
       have hfz31_0 := blk_frozen BK450.out 0
       try go_wp2
       have n0_ := am_ (Kd.R_drew HO_7.out)
       have n1_ := am_ (Kd.R_drew HO_8.out)
       have n2_ := am_ (blk_drew BK450.out)
       have n3_ := am_ (blk_drew BK451.out)
       have n4_ := am_ (below_drew1 HB.out)
       clear HO_7
       clear HO_8
       clear BK450
       clear BK451
       clear HB
       have HO_7 := n0_
       have HO_8 := n1_
       have BK450 := n2_
       have BK451 := n3_
       have HB := n4_
       clear n0_ n1_ n2_ n3_ n4_
       obtain ⟨Ao33, co33, eo33⟩ := Kd.R_slice HO_7.out
       (first | subst eo33 | (injection eo33 with f1_ f2_ f3_; have f4_ := f1_.symm; have f5_ := f3_.symm; clear f1_ f2_ f3_; subst f4_; subst f5_))
       have p455 : 0 ≤ (x9_1 : Int) := of_decide_eq_true (by first | (with_reducible assumption) | assumption)
       have q455 : x9_1 < (t452.length : Int) := of_decide_eq_true (by first | (with_reducible assumption) | assumption)
       obtain ⟨ad455, e455, hx455_0⟩ := Kd.at_bool (Kd.R_reads' HO_7.out).2.2 x9_1 p455 q455
       (try rw [← Nbq13.out] at hx455_0)
       cases e455
       replace p455 := eq_true p455
       replace q455 := eq_true q455
       refine start_ (n := 15) (S := fun w' => w'.cell? (ad455.add (x9_1).toNat) = some (.bool false)) (ds := []) #[false, false, false, false, false, false, false, false, false, false, false, false, false, false, false] (by kernel_rfl) rfl rfl (hx455_0) (fun hHeld => ?_); refine with_tabW heronryref15_Ops.tab6 heronryref15_Ops.bits6 (fun HT_ HW_ => ?_)
       generalize wr.drew = w32 at HO_7 HO_8 BK450 BK451 HB hx455_0 hHeld ⊢
       refine pure_ (i := 0) (N := some 20) (v := ?_) (a' := ?_) #[true, false, false, false, false, false, false, false, false, false, false, false, false, false, false] rfl rfl (any_of HT_.out (by kernel_rfl)) (fun _ _ _ h => h) (Or.inl ⟨by rfl, ?_⟩) ?_ ?_
       rotate_left
       ·intro w'
        go_simp
        with_reducible rfl
       rotate_left
       ·simp only [Act.put, List.setIfInBounds_toArray, List.set_cons_zero, List.set_cons_succ, i64_w, i32_w]
        rfl
       refine pure_ (i := 1) (N := some 21) (v := ?_) (a' := ?_) #[true, true, false, false, false, false, false, false, false, false, false, false, false, false, false] rfl rfl (any_of HT_.out (by kernel_rfl)) (fun _ _ _ h => h) (Or.inl ⟨by rfl, ?_⟩) ?_ ?_
       rotate_left
       ·intro w'
        go_simp
        with_reducible rfl
       rotate_left
       ·simp only [Act.put, List.setIfInBounds_toArray, List.set_cons_zero, List.set_cons_succ, i64_w, i32_w]
        rfl
       refine pure_ (i := 2) (N := some 22) (v := ?_) (a' := ?_) #[true, true, true, false, false, false, false, false, false, false, false, false, false, false, false] rfl rfl (any_of HT_.out (by kernel_rfl)) (fun _ _ _ h => h) (Or.inl ⟨by rfl, ?_⟩) ?_ ?_
       rotate_left
       ·intro w'
        go_simp
        with_reducible rfl
       rotate_left
       ·simp only [Act.put, List.setIfInBounds_toArray, List.set_cons_zero, List.set_cons_succ, i64_w, i32_w]
        rfl
       refine take_ (i := 3) (N := some 23) (v := ?_) (a' := ?_) #[true, true, true, true, false, false, false, false, false, false, false, false, false, false, false] rfl rfl (take_ofW HT_.out HW_.out (by kernel_rfl)) (fun _ _ _ h => h) (Or.inl ⟨by rfl, ?_⟩) hHeld ?_ ?_
       rotate_left
       ·intro w' s0
        go_simp
        with_reducible rfl
       rotate_left
       ·simp only [Act.put, List.setIfInBounds_toArray, List.set_cons_zero, List.set_cons_succ, i64_w, i32_w]
        rfl
       refine pure_ (i := 4) (N := some 24) (v := ?_) (a' := ?_) #[true, true, true, true, true, false, false, false, false, false, false, false, false, false, false] rfl rfl (any_of HT_.out (by kernel_rfl)) (fun _ _ _ h => h) (Or.inl ⟨by rfl, ?_⟩) ?_ ?_
       rotate_left
       ·intro w'
        go_simp
        with_reducible rfl
       rotate_left
       ·simp only [Act.put, List.setIfInBounds_toArray, List.set_cons_zero, List.set_cons_succ, i64_w, i32_w]
        rfl
       refine pure_ (i := 5) (N := some 25) (v := undef) (a' := ?_) #[true, true, true, true, true, true, false, false, false, false, false, false, false, false, false] rfl rfl (any_of HT_.out (by kernel_rfl)) (fun _ _ _ h => h) (Or.inr ⟨by rfl, rfl⟩) ?_ ?_
       rotate_left
       ·simp only [Act.put, List.setIfInBounds_toArray, List.set_cons_zero, List.set_cons_succ, i64_w, i32_w]
        rfl
       refine pure_ (i := 6) (N := some 26) (v := undef) (a' := ?_) #[true, true, true, true, true, true, true, false, false, false, false, false, false, false, false] rfl rfl (any_of HT_.out (by kernel_rfl)) (fun _ _ _ h => h) (Or.inr ⟨by rfl, rfl⟩) ?_ ?_
       rotate_left
       ·simp only [Act.put, List.setIfInBounds_toArray, List.set_cons_zero, List.set_cons_succ, i64_w, i32_w]
        rfl
       refine pure_ (i := 7) (N := some 27) (v := undef) (a' := ?_) #[true, true, true, true, true, true, true, true, false, false, false, false, false, false, false] rfl rfl (any_of HT_.out (by kernel_rfl)) (fun _ _ _ h => h) (Or.inr ⟨by rfl, rfl⟩) ?_ ?_
       rotate_left
       ·simp only [Act.put, List.setIfInBounds_toArray, List.set_cons_zero, List.set_cons_succ, i64_w, i32_w]
        rfl
       refine pure_ (i := 8) (N := some 28) (v := undef) (a' := ?_) #[true, true, true, true, true, true, true, true, true, false, false, false, false, false, false] rfl rfl (any_of HT_.out (by kernel_rfl)) (fun _ _ _ h => h) (Or.inr ⟨by rfl, rfl⟩) ?_ ?_
       rotate_left
       ·simp only [Act.put, List.setIfInBounds_toArray, List.set_cons_zero, List.set_cons_succ, i64_w, i32_w]
        rfl
       refine pure_ (i := 9) (N := some 29) (v := undef) (a' := ?_) #[true, true, true, true, true, true, true, true, true, true, false, false, false, false, false] rfl rfl (any_of HT_.out (by kernel_rfl)) (fun _ _ _ h => h) (Or.inr ⟨by rfl, rfl⟩) ?_ ?_
       rotate_left
       ·simp only [Act.put, List.setIfInBounds_toArray, List.set_cons_zero, List.set_cons_succ, i64_w, i32_w]
        rfl
       refine pure_ (i := 10) (N := some 30) (v := undef) (a' := ?_) #[true, true, true, true, true, true, true, true, true, true, true, false, false, false, false] rfl rfl (any_of HT_.out (by kernel_rfl)) (fun _ _ _ h => h) (Or.inr ⟨by rfl, rfl⟩) ?_ ?_
       rotate_left
       ·simp only [Act.put, List.setIfInBounds_toArray, List.set_cons_zero, List.set_cons_succ, i64_w, i32_w]
        rfl
       refine pure_ (i := 11) (N := some 31) (v := undef) (a' := ?_) #[true, true, true, true, true, true, true, true, true, true, true, true, false, false, false] rfl rfl (any_of HT_.out (by kernel_rfl)) (fun _ _ _ h => h) (Or.inr ⟨by rfl, rfl⟩) ?_ ?_
       rotate_left
       ·simp only [Act.put, List.setIfInBounds_toArray, List.set_cons_zero, List.set_cons_succ, i64_w, i32_w]
        rfl
       refine pure_ (i := 12) (N := some 32) (v := undef) (a' := ?_) #[true, true, true, true, true, true, true, true, true, true, true, true, true, false, false] rfl rfl (any_of HT_.out (by kernel_rfl)) (fun _ _ _ h => h) (Or.inr ⟨by rfl, rfl⟩) ?_ ?_
       rotate_left
       ·simp only [Act.put, List.setIfInBounds_toArray, List.set_cons_zero, List.set_cons_succ, i64_w, i32_w]
        rfl
       refine pure_ (i := 13) (N := some 33) (v := undef) (a' := ?_) #[true, true, true, true, true, true, true, true, true, true, true, true, true, true, false] rfl rfl (any_of HT_.out (by kernel_rfl)) (fun _ _ _ h => h) (Or.inr ⟨by rfl, rfl⟩) ?_ ?_
       rotate_left
       ·simp only [Act.put, List.setIfInBounds_toArray, List.set_cons_zero, List.set_cons_succ, i64_w, i32_w]
        rfl
       refine pure_ (i := 14) (N := some 34) (v := ?_) (a' := ?_) #[true, true, true, true, true, true, true, true, true, true, true, true, true, true, true] rfl rfl (any_of HT_.out (by kernel_rfl)) (fun _ _ _ h => h) (Or.inl ⟨by rfl, ?_⟩) ?_ ?_
       rotate_left
       ·intro w'
        go_simp
        with_reducible rfl
       rotate_left
       ·simp only [Act.put, List.setIfInBounds_toArray, List.set_cons_zero, List.set_cons_succ, i64_w, i32_w]
        rfl
       refine done_ (done_of HT_.out (by kernel_rfl)) ?_
       try go_wp2
       go_roundg k1
       case measure => have := HK1.out; omega
       case rel => exact ⟨(x8_1), (wrap64 (x9_1 + 1)), (by first | rfl | (simp; done) | (simp [*]; done)), H', ⟨by have := HK1.out; omega⟩, ⟨ro_ HO_7.out⟩, ⟨ro_ HO_8.out⟩, ⟨bk_ BK450.out⟩, ⟨bk_ BK451.out⟩, ⟨be_ HB.out⟩⟩
     ·rw [if_neg c12] at H
      exact absurd H (by simp)
    ·rw [if_neg c11] at H
     exact absurd H (by simp)
   ·rw [if_neg c10] at H
    have c10b0 : decide (x9_1 < (l0_0.length : Int)) = false := decide_eq_false c10
    clear c10
    obtain rfl := Option.some.inj H
    have hnb34 := NB450_451.out
    have hnc34 := NB451_450.out
    have hcz35_0 : wr.cell? ⟨gb450, 0, none⟩ = some (.slice A0_0 l0_0.length c0_0) := (blk_cell BK450.out 0).trans rfl
    have hfz35_0 := blk_frozen BK450.out 0
    go_wp2
    go_ret
    exact ⟨_, by first | rfl | (simp [errW_none, errW_some] <;> rfl) | (simp [*, errW_none, errW_some] <;> rfl), ro_ HO_8.out, be_ HB.out⟩

end Go.Proofs.Ytjpoepiidmoegaa.Q
