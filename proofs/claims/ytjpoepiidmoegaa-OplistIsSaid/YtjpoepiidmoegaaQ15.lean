-- Cut to what one claim reaches, out of what the kit's print laid for this seat (wip/tools/trim.py).
import Derived.Test.YtjpoepiidmoegaaQ0
import Derived.Test.YtjpoepiidmoegaaQS
namespace Go.Proofs.Ytjpoepiidmoegaa.Q
open Go.RowKit Go.Proofs.YtjpoepiidmoegaaW.PrintWords Go.Proofs.YtjpoepiidmoegaaW.PrintLast Go.Proofs.YtjpoepiidmoegaaW.PrintMore
attribute [local go_sem] max2_int min2_int max_two min_two max_three min_three max_four min_four   -- for this text's walks alone
set_option linter.unusedVariables false
set_option linter.unusedSimpArgs false

mutual
def heronryref15_undone.l0 : Nat → List (S83) → List Bool → Int → Option (List Bool × Bool)
 | 0, _, _, _ => none
 | k + 1, x0, x4, x5 => if x5 < (x0.length : Int) then (if 0 ≤ x5 then (if ((rd_T83 x0 x5).f3 = true) then (heronryref15_undone.l1 k x0 x4 x5 (wrap64 (x5 - 1))) else (heronryref15_undone.l0 k x0 x4 (wrap64 (x5 + 1)))) else (none)) else (some (x4, true))
def heronryref15_undone.l1 : Nat → List (S83) → List Bool → Int → Int → Option (List Bool × Bool)
 | 0, _, _, _, _ => none
 | k + 1, x0, x4, x5, x6 => if x6 ≥ 0 then (if 0 ≤ x6 then (if x6 < (x0.length : Int) then (if (rd_T83 x0 x6).f3 = true then (heronryref15_undone.l1 k x0 x4 x5 (wrap64 (x6 - 1))) else (if x6 < (x4.length : Int) then (if rdOf false x4 x6 = true then (heronryref15_undone.l1 k x0 x4 x5 (wrap64 (x6 - 1))) else (if 0 ≤ x5 then (if x5 < (x0.length : Int) then (if ((rd_T83 x0 x6).f0) = ((rd_T83 x0 x5).f0) then (if ((rd_T83 x0 x6).f1) = ((rd_T83 x0 x5).f1) then (if ((rd_T83 x0 x6).f2) = (wrap64 (-((rd_T83 x0 x5).f2))) then (if x6 < 0 then (some (([] : List Bool), false)) else (heronryref15_undone.l0 k x0 (x4.set (x6 : Int).toNat true) (wrap64 (x5 + 1)))) else (heronryref15_undone.l1 k x0 x4 x5 (wrap64 (x6 - 1)))) else (heronryref15_undone.l1 k x0 x4 x5 (wrap64 (x6 - 1)))) else (heronryref15_undone.l1 k x0 x4 x5 (wrap64 (x6 - 1)))) else (none)) else (none))) else (none))) else (none)) else (none)) else (if x6 < 0 then (some (([] : List Bool), false)) else (if 0 ≤ x6 then (if x6 < (x4.length : Int) then (heronryref15_undone.l0 k x0 (x4.set (x6 : Int).toNat true) (wrap64 (x5 + 1))) else (none)) else (none)))
end
def heronryref15_undone.f (k : Nat) (l0 : List (S83)) : Option (List Bool × Bool) := if 0 ≤ (l0.length : Int) then (if ((l0.length : Int) : Int).toNat ≤ 281474976710656 then (heronryref15_undone.l0 k l0 (List.replicate ((l0.length : Int) : Int).toNat false) 0) else (none)) else (none)
set_option maxHeartbeats 8000000 in
set_option maxRecDepth 100000 in
theorem heronryref15_undone.calls (k : Nat) (A0 : Option Addr) (c0 : Nat) (l0 : List (S83)) (r1 : List Bool) (r2 : Bool) (w : World) (hr0 : Kd.C k83 w A0 l0.length l0) (hc0 : l0.length ≤ c0) (h : heronryref15_undone.f k l0 = some (r1, r2)) :
  Calls Try.prog 50 #[.slice A0 l0.length c0] w fun e w' => ∃ v0_ : Value, e = .returned (.tuple #[v0_, .bool r2]) ∧ Kd.R Kd.bool 4 w' w.heap.size (fun _ => True) v0_ r1 ∧ Below w.heap.size w w' := by
 have HR0 := am_ hr0
 have HC0 := am_ hc0
 clear hr0 hc0
 have HB := am_ (Below.refl w.heap.size w)
 have H : (if 0 ≤ (l0.length : Int) then (if ((l0.length : Int) : Int).toNat ≤ 281474976710656 then (heronryref15_undone.l0 k l0 (List.replicate ((l0.length : Int) : Int).toNat false) 0) else (none)) else (none)) = some (r1, r2) := h
 clear h
 by_cases c2 : 0 ≤ (l0.length : Int)
 ·rw [if_pos c2] at H
  have c2b0 := eq_true c2
  have c2b1 : decide (0 ≤ (l0.length : Int)) = true := decide_eq_true c2
  clear c2
  by_cases c3 : ((l0.length : Int) : Int).toNat ≤ 281474976710656
  ·rw [if_pos c3] at H
   have c3b0 := eq_true c3
   have c3b1 : decide (((l0.length : Int) : Int).toNat ≤ 281474976710656) = true := decide_eq_true c3
   clear c3
   obtain ⟨y331, hy331⟩ : ∃ y_ : List Bool, y_ = (List.replicate ((l0.length : Int) : Int).toNat false) := ⟨_, rfl⟩
   replace H : (heronryref15_undone.l0 k l0 y331 0) = some (r1, r2) := by first | (rw [hy331]; with_reducible exact H) | (have H2_ := (Option.bind_some _ _).symm.trans H; rw [hy331]; with_reducible exact H2_) | (have H2_ := (Option.bind_some _ _).symm.trans H; with_reducible exact H2_) | with_reducible exact H | (rw [hy331]; exact H) | exact H
   have Ny331 := am_ hy331
   clear hy331
   have H' := am_ H
   clear H
   go_enter Try.func50, Try.ntmps50
   go_wp2_with (first | ((with_reducible refine gate_dst (N := 9) rfl ?_); refine Kd.R_make Kd.bool _ 4 rfl (N := 9) rfl 102 _ _ rfl (l0.length : Int) rfl rfl Try.underlying102 (.bool false) 1 info4 rfl (by decide) (by omega) false (ok := fun _ => True) (okp := fun _ => True) rfl (fun _ hk => hk) trivial (of_decide_eq_true (by first | (with_reducible assumption) | assumption)) (Nat.le_trans (Nat.mul_le_mul_right _ (of_decide_eq_true (by first | (with_reducible assumption) | assumption) : (l0.length : Int).toNat ≤ 281474976710656)) (by omega)) (Below.refl _ _) (Nat.le_refl _) ?_; intro v332 w4 ho5 hb hg_ hnew_; clear hg_ hnew_; (first | rw [← Ny331.out] at ho5 | (simp only [Int.reduceToNat] at ho5; rw [← Ny331.out] at ho5)); have n0_ := am_ (Kd.R_lower ho5 (below_size (be_ HB.out))); have n1_ := am_ (below_step (be_ HB.out) hb); clear HB; have HO333 := n0_; have HB := n1_; clear n0_ n1_; clear hb ho5))
   repeat (go_quiet (first | ((with_reducible refine gate_dst (N := 9) rfl ?_); refine Kd.R_make Kd.bool _ 4 rfl (N := 9) rfl 102 _ _ rfl (l0.length : Int) rfl rfl Try.underlying102 (.bool false) 1 info4 rfl (by decide) (by omega) false (ok := fun _ => True) (okp := fun _ => True) rfl (fun _ hk => hk) trivial (of_decide_eq_true (by first | (with_reducible assumption) | assumption)) (Nat.le_trans (Nat.mul_le_mul_right _ (of_decide_eq_true (by first | (with_reducible assumption) | assumption) : (l0.length : Int).toNat ≤ 281474976710656)) (by omega)) (Below.refl _ _) (Nat.le_refl _) ?_; intro v332 w4 ho5 hb hg_ hnew_; clear hg_ hnew_; (first | rw [← Ny331.out] at ho5 | (simp only [Int.reduceToNat] at ho5; rw [← Ny331.out] at ho5)); have n0_ := am_ (Kd.R_lower ho5 (below_size (be_ HB.out))); have n1_ := am_ (below_step (be_ HB.out) hb); clear HB; have HO333 := n0_; have HB := n1_; clear n0_ n1_; clear hb ho5)); try go_wp2_with (first | ((with_reducible refine gate_dst (N := 9) rfl ?_); refine Kd.R_make Kd.bool _ 4 rfl (N := 9) rfl 102 _ _ rfl (l0.length : Int) rfl rfl Try.underlying102 (.bool false) 1 info4 rfl (by decide) (by omega) false (ok := fun _ => True) (okp := fun _ => True) rfl (fun _ hk => hk) trivial (of_decide_eq_true (by first | (with_reducible assumption) | assumption)) (Nat.le_trans (Nat.mul_le_mul_right _ (of_decide_eq_true (by first | (with_reducible assumption) | assumption) : (l0.length : Int).toNat ≤ 281474976710656)) (by omega)) (Below.refl _ _) (Nat.le_refl _) ?_; intro v332 w4 ho5 hb hg_ hnew_; clear hg_ hnew_; (first | rw [← Ny331.out] at ho5 | (simp only [Int.reduceToNat] at ho5; rw [← Ny331.out] at ho5)); have n0_ := am_ (Kd.R_lower ho5 (below_size (be_ HB.out))); have n1_ := am_ (below_step (be_ HB.out) hb); clear HB; have HO333 := n0_; have HB := n1_; clear n0_ n1_; clear hb ho5)))
   go_loopg [5] k (fun kq v5 w' => ∃ (x4_1 : List Bool) (x5_1 : Int), v5 = .int .i64 x5_1 ∧ Aside0 (heronryref15_undone.l0 kq l0 x4_1 x5_1 = some (r1, r2)) ∧ Aside0 (kq ≤ k) ∧ Aside0 (Kd.R Kd.bool 4 w' w.heap.size (fun _ => True) v332 x4_1) ∧ Aside0 (Below w.heap.size w w'))
   case atStart => exact ⟨(y331), (0), (by first | rfl | (simp; done) | (simp [*]; done)), H', ⟨Nat.le_refl _⟩, ⟨ro_ HO333.out⟩, ⟨be_ HB.out⟩⟩
   case round =>
    clear H'
    try clear c2
    try clear c2b0
    try clear c2b1
    try clear p2
    try clear c3
    try clear c3b0
    try clear c3b1
    try clear c5
    obtain ⟨x4_1, x5_1, rfl, HA, HK1, HO_4, HB⟩ := hrel
    cases gk with
    | zero => exact absurd HA.out (by simp [heronryref15_undone.l0])
    | succ k1 =>
     have H := HA.out
     clear HA
     simp only [heronryref15_undone.l0] at H
     by_cases c6 : x5_1 < (l0.length : Int)
     ·rw [if_pos c6] at H
      have c6b0 : decide (x5_1 < (l0.length : Int)) = true := decide_eq_true c6
      clear c6
      by_cases c7 : 0 ≤ x5_1
      ·rw [if_pos c7] at H
       have c7b0 : decide (0 ≤ x5_1) = true := decide_eq_true c7
       clear c7
       obtain ⟨bq8, hbq8⟩ : ∃ b_ : Bool, b_ = ((rd_T83 l0 x5_1).f3) := ⟨_, rfl⟩
       replace H : (if (bq8 = true) then (heronryref15_undone.l1 k1 l0 x4_1 x5_1 (wrap64 (x5_1 - 1))) else (heronryref15_undone.l0 k1 l0 x4_1 (wrap64 (x5_1 + 1)))) = some (r1, r2) := by rw [← hbq8] at H; exact H
       have Nbq8 := am_ hbq8
       clear hbq8
       by_cases c9 : (bq8 = true)
       ·subst c9
        have H1 : (heronryref15_undone.l1 k1 l0 x4_1 x5_1 (wrap64 (x5_1 - 1))) = some (r1, r2) := by rw [if_pos rfl] at H; exact H
        clear H
        have H := H1
        clear H1
        have H' := am_ H
        clear H
        have p334 : 0 ≤ (x5_1 : Int) := of_decide_eq_true (by first | (with_reducible assumption) | assumption)
        have q334 : x5_1 < (l0.length : Int) := of_decide_eq_true (by first | (with_reducible assumption) | assumption)
        obtain ⟨ad334, e334, hx334_0, hx334_1, hx334_2, hx334_3⟩ := at_T83 HR0.out x5_1 p334 q334
        (try rw [← Nbq8.out] at hx334_3)
        cases e334
        replace hx334_0 := (HB.out.cell (World.block_lt_of_cell? w _ hx334_0)).trans hx334_0
        replace hx334_1 := (HB.out.cell (World.block_lt_of_cell? w _ hx334_1)).trans hx334_1
        replace hx334_2 := (HB.out.cell (World.block_lt_of_cell? w _ hx334_2)).trans hx334_2
        replace hx334_3 := (HB.out.cell (World.block_lt_of_cell? w _ hx334_3)).trans hx334_3
        replace p334 := eq_true p334
        replace q334 := eq_true q334
        go_wp2
        repeat (go_quiet (fail); try go_wp2)
        go_loopg [6] k1 (fun kq v6 w' => ∃ (x6_2 : Int), v6 = .int .i64 x6_2 ∧ Aside0 (heronryref15_undone.l1 kq l0 x4_1 x5_1 x6_2 = some (r1, r2)) ∧ Aside0 (kq ≤ k1) ∧ Aside0 (Kd.R Kd.bool 4 w' w.heap.size (fun _ => True) v332 x4_1) ∧ Aside0 (Below w.heap.size w w'))
        case atStart => exact ⟨(wrap64 (x5_1 - 1)), (by first | rfl | (simp; done) | (simp [*]; done)), H', ⟨Nat.le_refl _⟩, ⟨ro_ HO_4.out⟩, ⟨be_ HB.out⟩⟩
        case round =>
         clear H'
         try clear c2
         try clear c2b0
         try clear c2b1
         try clear p2
         try clear c3
         try clear c3b0
         try clear c3b1
         try clear p3
         try clear q3
         try clear hx3
         try clear c5
         try clear c6
         try clear c6b0
         try clear p6
         try clear c7
         try clear c7b0
         try clear q8
         try clear c9
         try clear hx334_0
         try clear hx334_1
         try clear hx334_2
         try clear hx334_3
         try clear p2
         try clear p334
         try clear q334
         obtain ⟨x6_2, rfl, HA, HK2, HO_4, HB⟩ := hrel
         cases gk with
         | zero => exact absurd HA.out (by simp [heronryref15_undone.l1])
         | succ k2 =>
          have H := HA.out
          clear HA
          simp only [heronryref15_undone.l1] at H
          by_cases c10 : x6_2 ≥ 0
          ·rw [if_pos c10] at H
           have c10b0 : decide (0 ≤ x6_2) = true := decide_eq_true c10
           clear c10
           by_cases c11 : 0 ≤ x6_2
           ·rw [if_pos c11] at H
            have c11b0 : decide (0 ≤ x6_2) = true := decide_eq_true c11
            clear c11
            by_cases c12 : x6_2 < (l0.length : Int)
            ·rw [if_pos c12] at H
             have c12b0 : decide (x6_2 < (l0.length : Int)) = true := decide_eq_true c12
             clear c12
             obtain ⟨bq13, hbq13⟩ : ∃ b_ : Bool, b_ = ((rd_T83 l0 x6_2).f3) := ⟨_, rfl⟩
             replace H : (if bq13 = true then (heronryref15_undone.l1 k2 l0 x4_1 x5_1 (wrap64 (x6_2 - 1))) else (if x6_2 < (x4_1.length : Int) then (if rdOf false x4_1 x6_2 = true then (heronryref15_undone.l1 k2 l0 x4_1 x5_1 (wrap64 (x6_2 - 1))) else (if 0 ≤ x5_1 then (if x5_1 < (l0.length : Int) then (if ((rd_T83 l0 x6_2).f0) = ((rd_T83 l0 x5_1).f0) then (if ((rd_T83 l0 x6_2).f1) = ((rd_T83 l0 x5_1).f1) then (if ((rd_T83 l0 x6_2).f2) = (wrap64 (-((rd_T83 l0 x5_1).f2))) then (if x6_2 < 0 then (some (([] : List Bool), false)) else (heronryref15_undone.l0 k2 l0 (x4_1.set (x6_2 : Int).toNat true) (wrap64 (x5_1 + 1)))) else (heronryref15_undone.l1 k2 l0 x4_1 x5_1 (wrap64 (x6_2 - 1)))) else (heronryref15_undone.l1 k2 l0 x4_1 x5_1 (wrap64 (x6_2 - 1)))) else (heronryref15_undone.l1 k2 l0 x4_1 x5_1 (wrap64 (x6_2 - 1)))) else (none)) else (none))) else (none))) = some (r1, r2) := by rw [← hbq13] at H; exact H
             have Nbq13 := am_ hbq13
             clear hbq13
             by_cases c14 : bq13 = true
             ·subst c14
              have H1 : (heronryref15_undone.l1 k2 l0 x4_1 x5_1 (wrap64 (x6_2 - 1))) = some (r1, r2) := by rw [if_pos rfl] at H; exact H
              clear H
              have H := H1
              clear H1
              have H' := am_ H
              clear H
              have p335 : 0 ≤ (x6_2 : Int) := of_decide_eq_true (by first | (with_reducible assumption) | assumption)
              have q335 : x6_2 < (l0.length : Int) := of_decide_eq_true (by first | (with_reducible assumption) | assumption)
              obtain ⟨ad335, e335, hx335_0, hx335_1, hx335_2, hx335_3⟩ := at_T83 HR0.out x6_2 p335 q335
              (try rw [← Nbq8.out] at hx335_3)
              (try rw [← Nbq13.out] at hx335_3)
              obtain rfl : ad334 = ad335 := (by injection e335)
              replace hx335_0 := (HB.out.cell (World.block_lt_of_cell? w _ hx335_0)).trans hx335_0
              replace hx335_1 := (HB.out.cell (World.block_lt_of_cell? w _ hx335_1)).trans hx335_1
              replace hx335_2 := (HB.out.cell (World.block_lt_of_cell? w _ hx335_2)).trans hx335_2
              replace hx335_3 := (HB.out.cell (World.block_lt_of_cell? w _ hx335_3)).trans hx335_3
              replace p335 := eq_true p335
              replace q335 := eq_true q335
              go_wp2
              repeat (go_quiet (fail); try go_wp2)
              go_roundg k2
              case measure => have := HK1.out; have := HK2.out; omega
              case rel => exact ⟨(wrap64 (x6_2 - 1)), (by first | rfl | (simp; done) | (simp [*]; done)), H', ⟨by have := HK1.out; have := HK2.out; omega⟩, ⟨ro_ HO_4.out⟩, ⟨be_ HB.out⟩⟩
             ·replace c14 := Bool.eq_false_iff.mpr c14
              subst c14
              have H1 : (if x6_2 < (x4_1.length : Int) then (if rdOf false x4_1 x6_2 = true then (heronryref15_undone.l1 k2 l0 x4_1 x5_1 (wrap64 (x6_2 - 1))) else (if 0 ≤ x5_1 then (if x5_1 < (l0.length : Int) then (if ((rd_T83 l0 x6_2).f0) = ((rd_T83 l0 x5_1).f0) then (if ((rd_T83 l0 x6_2).f1) = ((rd_T83 l0 x5_1).f1) then (if ((rd_T83 l0 x6_2).f2) = (wrap64 (-((rd_T83 l0 x5_1).f2))) then (if x6_2 < 0 then (some (([] : List Bool), false)) else (heronryref15_undone.l0 k2 l0 (x4_1.set (x6_2 : Int).toNat true) (wrap64 (x5_1 + 1)))) else (heronryref15_undone.l1 k2 l0 x4_1 x5_1 (wrap64 (x6_2 - 1)))) else (heronryref15_undone.l1 k2 l0 x4_1 x5_1 (wrap64 (x6_2 - 1)))) else (heronryref15_undone.l1 k2 l0 x4_1 x5_1 (wrap64 (x6_2 - 1)))) else (none)) else (none))) else (none)) = some (r1, r2) := by rw [if_neg (show ¬ (false = true) by decide)] at H; exact H
              clear H
              have H := H1
              clear H1
              by_cases c15 : x6_2 < (x4_1.length : Int)
              ·rw [if_pos c15] at H
               have c15b0 : decide (x6_2 < (x4_1.length : Int)) = true := decide_eq_true c15
               clear c15
               obtain ⟨bq16, hbq16⟩ : ∃ b_ : Bool, b_ = (rdOf false x4_1 x6_2) := ⟨_, rfl⟩
               replace H : (if bq16 = true then (heronryref15_undone.l1 k2 l0 x4_1 x5_1 (wrap64 (x6_2 - 1))) else (if 0 ≤ x5_1 then (if x5_1 < (l0.length : Int) then (if ((rd_T83 l0 x6_2).f0) = ((rd_T83 l0 x5_1).f0) then (if ((rd_T83 l0 x6_2).f1) = ((rd_T83 l0 x5_1).f1) then (if ((rd_T83 l0 x6_2).f2) = (wrap64 (-((rd_T83 l0 x5_1).f2))) then (if x6_2 < 0 then (some (([] : List Bool), false)) else (heronryref15_undone.l0 k2 l0 (x4_1.set (x6_2 : Int).toNat true) (wrap64 (x5_1 + 1)))) else (heronryref15_undone.l1 k2 l0 x4_1 x5_1 (wrap64 (x6_2 - 1)))) else (heronryref15_undone.l1 k2 l0 x4_1 x5_1 (wrap64 (x6_2 - 1)))) else (heronryref15_undone.l1 k2 l0 x4_1 x5_1 (wrap64 (x6_2 - 1)))) else (none)) else (none))) = some (r1, r2) := by rw [← hbq16] at H; exact H
               have Nbq16 := am_ hbq16
               clear hbq16
               by_cases c17 : bq16 = true
               ·subst c17
                have H1 : (heronryref15_undone.l1 k2 l0 x4_1 x5_1 (wrap64 (x6_2 - 1))) = some (r1, r2) := by rw [if_pos rfl] at H; exact H
                clear H
                have H := H1
                clear H1
                have H' := am_ H
                clear H
                have p335 : 0 ≤ (x6_2 : Int) := of_decide_eq_true (by first | (with_reducible assumption) | assumption)
                have q335 : x6_2 < (l0.length : Int) := of_decide_eq_true (by first | (with_reducible assumption) | assumption)
                obtain ⟨ad335, e335, hx335_0, hx335_1, hx335_2, hx335_3⟩ := at_T83 HR0.out x6_2 p335 q335
                (try rw [← Nbq8.out] at hx335_3)
                (try rw [← Nbq13.out] at hx335_3)
                (try rw [← Nbq16.out] at hx335_3)
                obtain rfl : ad334 = ad335 := (by injection e335)
                replace hx335_0 := (HB.out.cell (World.block_lt_of_cell? w _ hx335_0)).trans hx335_0
                replace hx335_1 := (HB.out.cell (World.block_lt_of_cell? w _ hx335_1)).trans hx335_1
                replace hx335_2 := (HB.out.cell (World.block_lt_of_cell? w _ hx335_2)).trans hx335_2
                replace hx335_3 := (HB.out.cell (World.block_lt_of_cell? w _ hx335_3)).trans hx335_3
                replace p335 := eq_true p335
                replace q335 := eq_true q335
                obtain ⟨Ao18, co18, eo18⟩ := Kd.R_slice HO_4.out
                subst eo18
                have p336 : 0 ≤ (x6_2 : Int) := of_decide_eq_true (by first | (with_reducible assumption) | assumption)
                have q336 : x6_2 < (x4_1.length : Int) := of_decide_eq_true (by first | (with_reducible assumption) | assumption)
                obtain ⟨ad336, e336, hx336_0⟩ := Kd.at_bool (Kd.R_reads' HO_4.out).2.2 x6_2 p336 q336
                (try rw [← Nbq8.out] at hx336_0)
                (try rw [← Nbq13.out] at hx336_0)
                (try rw [← Nbq16.out] at hx336_0)
                cases e336
                replace p336 := eq_true p336
                replace q336 := eq_true q336
                go_wp2
                repeat (go_quiet (fail); try go_wp2)
                go_roundg k2
                case measure => have := HK1.out; have := HK2.out; omega
                case rel => exact ⟨(wrap64 (x6_2 - 1)), (by first | rfl | (simp; done) | (simp [*]; done)), H', ⟨by have := HK1.out; have := HK2.out; omega⟩, ⟨ro_ HO_4.out⟩, ⟨be_ HB.out⟩⟩
               ·replace c17 := Bool.eq_false_iff.mpr c17
                subst c17
                have H1 : (if 0 ≤ x5_1 then (if x5_1 < (l0.length : Int) then (if ((rd_T83 l0 x6_2).f0) = ((rd_T83 l0 x5_1).f0) then (if ((rd_T83 l0 x6_2).f1) = ((rd_T83 l0 x5_1).f1) then (if ((rd_T83 l0 x6_2).f2) = (wrap64 (-((rd_T83 l0 x5_1).f2))) then (if x6_2 < 0 then (some (([] : List Bool), false)) else (heronryref15_undone.l0 k2 l0 (x4_1.set (x6_2 : Int).toNat true) (wrap64 (x5_1 + 1)))) else (heronryref15_undone.l1 k2 l0 x4_1 x5_1 (wrap64 (x6_2 - 1)))) else (heronryref15_undone.l1 k2 l0 x4_1 x5_1 (wrap64 (x6_2 - 1)))) else (heronryref15_undone.l1 k2 l0 x4_1 x5_1 (wrap64 (x6_2 - 1)))) else (none)) else (none)) = some (r1, r2) := by rw [if_neg (show ¬ (false = true) by decide)] at H; exact H
                clear H
                have H := H1
                clear H1
                by_cases c19 : 0 ≤ x5_1
                ·rw [if_pos c19] at H
                 have c19b0 : decide (0 ≤ x5_1) = true := decide_eq_true c19
                 clear c19
                 by_cases c20 : x5_1 < (l0.length : Int)
                 ·rw [if_pos c20] at H
                  have c20b0 : decide (x5_1 < (l0.length : Int)) = true := decide_eq_true c20
                  clear c20
                  by_cases c21 : ((rd_T83 l0 x6_2).f0) = ((rd_T83 l0 x5_1).f0)
                  ·rw [if_pos c21] at H
                   have c21b0 : (((rd_T83 l0 x6_2).f0) == ((rd_T83 l0 x5_1).f0)) = true := beq_iff_eq.mpr c21
                   have c21b1 : (((rd_T83 l0 x6_2).f0) != ((rd_T83 l0 x5_1).f0)) = false := bne_eq_false_iff_eq.mpr c21
                   clear c21
                   by_cases c22 : ((rd_T83 l0 x6_2).f1) = ((rd_T83 l0 x5_1).f1)
                   ·rw [if_pos c22] at H
                    have c22b0 : (((rd_T83 l0 x6_2).f1) == ((rd_T83 l0 x5_1).f1)) = true := beq_iff_eq.mpr c22
                    have c22b1 : (((rd_T83 l0 x6_2).f1) != ((rd_T83 l0 x5_1).f1)) = false := bne_eq_false_iff_eq.mpr c22
                    clear c22
                    by_cases c23 : ((rd_T83 l0 x6_2).f2) = (wrap64 (-((rd_T83 l0 x5_1).f2)))
                    ·rw [if_pos c23] at H
                     have c23b0 : (((rd_T83 l0 x6_2).f2) == (wrap64 (-((rd_T83 l0 x5_1).f2)))) = true := beq_iff_eq.mpr c23
                     have c23b1 : (((rd_T83 l0 x6_2).f2) != (wrap64 (-((rd_T83 l0 x5_1).f2)))) = false := bne_eq_false_iff_eq.mpr c23
                     clear c23
                     by_cases c24 : x6_2 < 0
                     ·rw [if_pos c24] at H
                      have c24b0 : decide (x6_2 < 0) = true := decide_eq_true c24
                      clear c24
                      simp only [Option.some.injEq, Prod.mk.injEq] at H
                      obtain ⟨rfl, rfl⟩ := H
                      have p335 : 0 ≤ (x6_2 : Int) := of_decide_eq_true (by first | (with_reducible assumption) | assumption)
                      have q335 : x6_2 < (l0.length : Int) := of_decide_eq_true (by first | (with_reducible assumption) | assumption)
                      obtain ⟨ad335, e335, hx335_0, hx335_1, hx335_2, hx335_3⟩ := at_T83 HR0.out x6_2 p335 q335
                      (try rw [← Nbq8.out] at hx335_3)
                      (try rw [← Nbq13.out] at hx335_3)
                      (try rw [← Nbq16.out] at hx335_3)
                      obtain rfl : ad334 = ad335 := (by injection e335)
                      replace hx335_0 := (HB.out.cell (World.block_lt_of_cell? w _ hx335_0)).trans hx335_0
                      replace hx335_1 := (HB.out.cell (World.block_lt_of_cell? w _ hx335_1)).trans hx335_1
                      replace hx335_2 := (HB.out.cell (World.block_lt_of_cell? w _ hx335_2)).trans hx335_2
                      replace hx335_3 := (HB.out.cell (World.block_lt_of_cell? w _ hx335_3)).trans hx335_3
                      replace p335 := eq_true p335
                      replace q335 := eq_true q335
                      obtain ⟨Ao25, co25, eo25⟩ := Kd.R_slice HO_4.out
                      subst eo25
                      have p336 : 0 ≤ (x6_2 : Int) := of_decide_eq_true (by first | (with_reducible assumption) | assumption)
                      have q336 : x6_2 < (x4_1.length : Int) := of_decide_eq_true (by first | (with_reducible assumption) | assumption)
                      obtain ⟨ad336, e336, hx336_0⟩ := Kd.at_bool (Kd.R_reads' HO_4.out).2.2 x6_2 p336 q336
                      (try rw [← Nbq8.out] at hx336_0)
                      (try rw [← Nbq13.out] at hx336_0)
                      (try rw [← Nbq16.out] at hx336_0)
                      cases e336
                      replace p336 := eq_true p336
                      replace q336 := eq_true q336
                      have p337 : 0 ≤ (x6_2 : Int) := of_decide_eq_true (by first | (with_reducible assumption) | assumption)
                      have q337 : x6_2 < (l0.length : Int) := of_decide_eq_true (by first | (with_reducible assumption) | assumption)
                      obtain ⟨ad337, e337, hx337_0, hx337_1, hx337_2, hx337_3⟩ := at_T83 HR0.out x6_2 p337 q337
                      (try rw [← Nbq8.out] at hx337_3)
                      (try rw [← Nbq13.out] at hx337_3)
                      (try rw [← Nbq16.out] at hx337_3)
                      obtain rfl : ad334 = ad337 := (by injection e337)
                      replace hx337_0 := (HB.out.cell (World.block_lt_of_cell? w _ hx337_0)).trans hx337_0
                      replace hx337_1 := (HB.out.cell (World.block_lt_of_cell? w _ hx337_1)).trans hx337_1
                      replace hx337_2 := (HB.out.cell (World.block_lt_of_cell? w _ hx337_2)).trans hx337_2
                      replace hx337_3 := (HB.out.cell (World.block_lt_of_cell? w _ hx337_3)).trans hx337_3
                      replace p337 := eq_true p337
                      replace q337 := eq_true q337
                      have p338 : 0 ≤ (x5_1 : Int) := of_decide_eq_true (by first | (with_reducible assumption) | assumption)
                      have q338 : x5_1 < (l0.length : Int) := of_decide_eq_true (by first | (with_reducible assumption) | assumption)
                      obtain ⟨ad338, e338, hx338_0, hx338_1, hx338_2, hx338_3⟩ := at_T83 HR0.out x5_1 p338 q338
                      (try rw [← Nbq8.out] at hx338_3)
                      (try rw [← Nbq13.out] at hx338_3)
                      (try rw [← Nbq16.out] at hx338_3)
                      obtain rfl : ad334 = ad338 := (by injection e338)
                      replace hx338_0 := (HB.out.cell (World.block_lt_of_cell? w _ hx338_0)).trans hx338_0
                      replace hx338_1 := (HB.out.cell (World.block_lt_of_cell? w _ hx338_1)).trans hx338_1
                      replace hx338_2 := (HB.out.cell (World.block_lt_of_cell? w _ hx338_2)).trans hx338_2
                      replace hx338_3 := (HB.out.cell (World.block_lt_of_cell? w _ hx338_3)).trans hx338_3
                      replace p338 := eq_true p338
                      replace q338 := eq_true q338
                      have p339 : 0 ≤ (x6_2 : Int) := of_decide_eq_true (by first | (with_reducible assumption) | assumption)
                      have q339 : x6_2 < (l0.length : Int) := of_decide_eq_true (by first | (with_reducible assumption) | assumption)
                      obtain ⟨ad339, e339, hx339_0, hx339_1, hx339_2, hx339_3⟩ := at_T83 HR0.out x6_2 p339 q339
                      (try rw [← Nbq8.out] at hx339_3)
                      (try rw [← Nbq13.out] at hx339_3)
                      (try rw [← Nbq16.out] at hx339_3)
                      obtain rfl : ad334 = ad339 := (by injection e339)
                      replace hx339_0 := (HB.out.cell (World.block_lt_of_cell? w _ hx339_0)).trans hx339_0
                      replace hx339_1 := (HB.out.cell (World.block_lt_of_cell? w _ hx339_1)).trans hx339_1
                      replace hx339_2 := (HB.out.cell (World.block_lt_of_cell? w _ hx339_2)).trans hx339_2
                      replace hx339_3 := (HB.out.cell (World.block_lt_of_cell? w _ hx339_3)).trans hx339_3
                      replace p339 := eq_true p339
                      replace q339 := eq_true q339
                      have p340 : 0 ≤ (x5_1 : Int) := of_decide_eq_true (by first | (with_reducible assumption) | assumption)
                      have q340 : x5_1 < (l0.length : Int) := of_decide_eq_true (by first | (with_reducible assumption) | assumption)
                      obtain ⟨ad340, e340, hx340_0, hx340_1, hx340_2, hx340_3⟩ := at_T83 HR0.out x5_1 p340 q340
                      (try rw [← Nbq8.out] at hx340_3)
                      (try rw [← Nbq13.out] at hx340_3)
                      (try rw [← Nbq16.out] at hx340_3)
                      obtain rfl : ad334 = ad340 := (by injection e340)
                      replace hx340_0 := (HB.out.cell (World.block_lt_of_cell? w _ hx340_0)).trans hx340_0
                      replace hx340_1 := (HB.out.cell (World.block_lt_of_cell? w _ hx340_1)).trans hx340_1
                      replace hx340_2 := (HB.out.cell (World.block_lt_of_cell? w _ hx340_2)).trans hx340_2
                      replace hx340_3 := (HB.out.cell (World.block_lt_of_cell? w _ hx340_3)).trans hx340_3
                      replace p340 := eq_true p340
                      replace q340 := eq_true q340
                      have p341 : 0 ≤ (x6_2 : Int) := of_decide_eq_true (by first | (with_reducible assumption) | assumption)
                      have q341 : x6_2 < (l0.length : Int) := of_decide_eq_true (by first | (with_reducible assumption) | assumption)
                      obtain ⟨ad341, e341, hx341_0, hx341_1, hx341_2, hx341_3⟩ := at_T83 HR0.out x6_2 p341 q341
                      (try rw [← Nbq8.out] at hx341_3)
                      (try rw [← Nbq13.out] at hx341_3)
                      (try rw [← Nbq16.out] at hx341_3)
                      obtain rfl : ad334 = ad341 := (by injection e341)
                      replace hx341_0 := (HB.out.cell (World.block_lt_of_cell? w _ hx341_0)).trans hx341_0
                      replace hx341_1 := (HB.out.cell (World.block_lt_of_cell? w _ hx341_1)).trans hx341_1
                      replace hx341_2 := (HB.out.cell (World.block_lt_of_cell? w _ hx341_2)).trans hx341_2
                      replace hx341_3 := (HB.out.cell (World.block_lt_of_cell? w _ hx341_3)).trans hx341_3
                      replace p341 := eq_true p341
                      replace q341 := eq_true q341
                      have p342 : 0 ≤ (x5_1 : Int) := of_decide_eq_true (by first | (with_reducible assumption) | assumption)
                      have q342 : x5_1 < (l0.length : Int) := of_decide_eq_true (by first | (with_reducible assumption) | assumption)
                      obtain ⟨ad342, e342, hx342_0, hx342_1, hx342_2, hx342_3⟩ := at_T83 HR0.out x5_1 p342 q342
                      (try rw [← Nbq8.out] at hx342_3)
                      (try rw [← Nbq13.out] at hx342_3)
                      (try rw [← Nbq16.out] at hx342_3)
                      obtain rfl : ad334 = ad342 := (by injection e342)
                      replace hx342_0 := (HB.out.cell (World.block_lt_of_cell? w _ hx342_0)).trans hx342_0
                      replace hx342_1 := (HB.out.cell (World.block_lt_of_cell? w _ hx342_1)).trans hx342_1
                      replace hx342_2 := (HB.out.cell (World.block_lt_of_cell? w _ hx342_2)).trans hx342_2
                      replace hx342_3 := (HB.out.cell (World.block_lt_of_cell? w _ hx342_3)).trans hx342_3
                      replace p342 := eq_true p342
                      replace q342 := eq_true q342
                      go_wp2
                      repeat (go_quiet (fail); try go_wp2)
                      go_ret2
                      exact ⟨_, by first | rfl | (simp [errW_none, errW_some] <;> rfl) | (simp [*, errW_none, errW_some] <;> rfl), by first | exact Kd.R_nil _ _ _ _ _ | exact Kd.N_nil _ _ _ _ _ | exact Kd.V_nil _ _ _ _ _ | exact Kd.Q_nil _ _ _ _ _ | exact Kd.S_nil _ _ _ _ _, be_ HB.out⟩
                     ·rw [if_neg c24] at H
                      have c24b0 : decide (x6_2 < 0) = false := decide_eq_false c24
                      clear c24
                      obtain ⟨y343, hy343⟩ : ∃ y_ : List Bool, y_ = (x4_1.set (x6_2 : Int).toNat true) := ⟨_, rfl⟩
                      replace H : (heronryref15_undone.l0 k2 l0 y343 (wrap64 (x5_1 + 1))) = some (r1, r2) := by first | (rw [hy343]; with_reducible exact H) | (have H2_ := (Option.bind_some _ _).symm.trans H; rw [hy343]; with_reducible exact H2_) | (have H2_ := (Option.bind_some _ _).symm.trans H; with_reducible exact H2_) | with_reducible exact H | (rw [hy343]; exact H) | exact H
                      have Ny343 := am_ hy343
                      clear hy343
                      have H' := am_ H
                      clear H
                      have p335 : 0 ≤ (x6_2 : Int) := of_decide_eq_true (by first | (with_reducible assumption) | assumption)
                      have q335 : x6_2 < (l0.length : Int) := of_decide_eq_true (by first | (with_reducible assumption) | assumption)
                      obtain ⟨ad335, e335, hx335_0, hx335_1, hx335_2, hx335_3⟩ := at_T83 HR0.out x6_2 p335 q335
                      (try rw [← Nbq8.out] at hx335_3)
                      (try rw [← Nbq13.out] at hx335_3)
                      (try rw [← Nbq16.out] at hx335_3)
                      obtain rfl : ad334 = ad335 := (by injection e335)
                      replace hx335_0 := (HB.out.cell (World.block_lt_of_cell? w _ hx335_0)).trans hx335_0
                      replace hx335_1 := (HB.out.cell (World.block_lt_of_cell? w _ hx335_1)).trans hx335_1
                      replace hx335_2 := (HB.out.cell (World.block_lt_of_cell? w _ hx335_2)).trans hx335_2
                      replace hx335_3 := (HB.out.cell (World.block_lt_of_cell? w _ hx335_3)).trans hx335_3
                      replace p335 := eq_true p335
                      replace q335 := eq_true q335
                      obtain ⟨Ao27, co27, eo27⟩ := Kd.R_slice HO_4.out
                      subst eo27
                      have p336 : 0 ≤ (x6_2 : Int) := of_decide_eq_true (by first | (with_reducible assumption) | assumption)
                      have q336 : x6_2 < (x4_1.length : Int) := of_decide_eq_true (by first | (with_reducible assumption) | assumption)
                      obtain ⟨ad336, e336, hx336_0⟩ := Kd.at_bool (Kd.R_reads' HO_4.out).2.2 x6_2 p336 q336
                      (try rw [← Nbq8.out] at hx336_0)
                      (try rw [← Nbq13.out] at hx336_0)
                      (try rw [← Nbq16.out] at hx336_0)
                      cases e336
                      replace p336 := eq_true p336
                      replace q336 := eq_true q336
                      have p337 : 0 ≤ (x6_2 : Int) := of_decide_eq_true (by first | (with_reducible assumption) | assumption)
                      have q337 : x6_2 < (l0.length : Int) := of_decide_eq_true (by first | (with_reducible assumption) | assumption)
                      obtain ⟨ad337, e337, hx337_0, hx337_1, hx337_2, hx337_3⟩ := at_T83 HR0.out x6_2 p337 q337
                      (try rw [← Nbq8.out] at hx337_3)
                      (try rw [← Nbq13.out] at hx337_3)
                      (try rw [← Nbq16.out] at hx337_3)
                      obtain rfl : ad334 = ad337 := (by injection e337)
                      replace hx337_0 := (HB.out.cell (World.block_lt_of_cell? w _ hx337_0)).trans hx337_0
                      replace hx337_1 := (HB.out.cell (World.block_lt_of_cell? w _ hx337_1)).trans hx337_1
                      replace hx337_2 := (HB.out.cell (World.block_lt_of_cell? w _ hx337_2)).trans hx337_2
                      replace hx337_3 := (HB.out.cell (World.block_lt_of_cell? w _ hx337_3)).trans hx337_3
                      replace p337 := eq_true p337
                      replace q337 := eq_true q337
                      have p338 : 0 ≤ (x5_1 : Int) := of_decide_eq_true (by first | (with_reducible assumption) | assumption)
                      have q338 : x5_1 < (l0.length : Int) := of_decide_eq_true (by first | (with_reducible assumption) | assumption)
                      obtain ⟨ad338, e338, hx338_0, hx338_1, hx338_2, hx338_3⟩ := at_T83 HR0.out x5_1 p338 q338
                      (try rw [← Nbq8.out] at hx338_3)
                      (try rw [← Nbq13.out] at hx338_3)
                      (try rw [← Nbq16.out] at hx338_3)
                      obtain rfl : ad334 = ad338 := (by injection e338)
                      replace hx338_0 := (HB.out.cell (World.block_lt_of_cell? w _ hx338_0)).trans hx338_0
                      replace hx338_1 := (HB.out.cell (World.block_lt_of_cell? w _ hx338_1)).trans hx338_1
                      replace hx338_2 := (HB.out.cell (World.block_lt_of_cell? w _ hx338_2)).trans hx338_2
                      replace hx338_3 := (HB.out.cell (World.block_lt_of_cell? w _ hx338_3)).trans hx338_3
                      replace p338 := eq_true p338
                      replace q338 := eq_true q338
                      have p339 : 0 ≤ (x6_2 : Int) := of_decide_eq_true (by first | (with_reducible assumption) | assumption)
                      have q339 : x6_2 < (l0.length : Int) := of_decide_eq_true (by first | (with_reducible assumption) | assumption)
                      obtain ⟨ad339, e339, hx339_0, hx339_1, hx339_2, hx339_3⟩ := at_T83 HR0.out x6_2 p339 q339
                      (try rw [← Nbq8.out] at hx339_3)
                      (try rw [← Nbq13.out] at hx339_3)
                      (try rw [← Nbq16.out] at hx339_3)
                      obtain rfl : ad334 = ad339 := (by injection e339)
                      replace hx339_0 := (HB.out.cell (World.block_lt_of_cell? w _ hx339_0)).trans hx339_0
                      replace hx339_1 := (HB.out.cell (World.block_lt_of_cell? w _ hx339_1)).trans hx339_1
                      replace hx339_2 := (HB.out.cell (World.block_lt_of_cell? w _ hx339_2)).trans hx339_2
                      replace hx339_3 := (HB.out.cell (World.block_lt_of_cell? w _ hx339_3)).trans hx339_3
                      replace p339 := eq_true p339
                      replace q339 := eq_true q339
                      have p340 : 0 ≤ (x5_1 : Int) := of_decide_eq_true (by first | (with_reducible assumption) | assumption)
                      have q340 : x5_1 < (l0.length : Int) := of_decide_eq_true (by first | (with_reducible assumption) | assumption)
                      obtain ⟨ad340, e340, hx340_0, hx340_1, hx340_2, hx340_3⟩ := at_T83 HR0.out x5_1 p340 q340
                      (try rw [← Nbq8.out] at hx340_3)
                      (try rw [← Nbq13.out] at hx340_3)
                      (try rw [← Nbq16.out] at hx340_3)
                      obtain rfl : ad334 = ad340 := (by injection e340)
                      replace hx340_0 := (HB.out.cell (World.block_lt_of_cell? w _ hx340_0)).trans hx340_0
                      replace hx340_1 := (HB.out.cell (World.block_lt_of_cell? w _ hx340_1)).trans hx340_1
                      replace hx340_2 := (HB.out.cell (World.block_lt_of_cell? w _ hx340_2)).trans hx340_2
                      replace hx340_3 := (HB.out.cell (World.block_lt_of_cell? w _ hx340_3)).trans hx340_3
                      replace p340 := eq_true p340
                      replace q340 := eq_true q340
                      have p341 : 0 ≤ (x6_2 : Int) := of_decide_eq_true (by first | (with_reducible assumption) | assumption)
                      have q341 : x6_2 < (l0.length : Int) := of_decide_eq_true (by first | (with_reducible assumption) | assumption)
                      obtain ⟨ad341, e341, hx341_0, hx341_1, hx341_2, hx341_3⟩ := at_T83 HR0.out x6_2 p341 q341
                      (try rw [← Nbq8.out] at hx341_3)
                      (try rw [← Nbq13.out] at hx341_3)
                      (try rw [← Nbq16.out] at hx341_3)
                      obtain rfl : ad334 = ad341 := (by injection e341)
                      replace hx341_0 := (HB.out.cell (World.block_lt_of_cell? w _ hx341_0)).trans hx341_0
                      replace hx341_1 := (HB.out.cell (World.block_lt_of_cell? w _ hx341_1)).trans hx341_1
                      replace hx341_2 := (HB.out.cell (World.block_lt_of_cell? w _ hx341_2)).trans hx341_2
                      replace hx341_3 := (HB.out.cell (World.block_lt_of_cell? w _ hx341_3)).trans hx341_3
                      replace p341 := eq_true p341
                      replace q341 := eq_true q341
                      have p342 : 0 ≤ (x5_1 : Int) := of_decide_eq_true (by first | (with_reducible assumption) | assumption)
                      have q342 : x5_1 < (l0.length : Int) := of_decide_eq_true (by first | (with_reducible assumption) | assumption)
                      obtain ⟨ad342, e342, hx342_0, hx342_1, hx342_2, hx342_3⟩ := at_T83 HR0.out x5_1 p342 q342
                      (try rw [← Nbq8.out] at hx342_3)
                      (try rw [← Nbq13.out] at hx342_3)
                      (try rw [← Nbq16.out] at hx342_3)
                      obtain rfl : ad334 = ad342 := (by injection e342)
                      replace hx342_0 := (HB.out.cell (World.block_lt_of_cell? w _ hx342_0)).trans hx342_0
                      replace hx342_1 := (HB.out.cell (World.block_lt_of_cell? w _ hx342_1)).trans hx342_1
                      replace hx342_2 := (HB.out.cell (World.block_lt_of_cell? w _ hx342_2)).trans hx342_2
                      replace hx342_3 := (HB.out.cell (World.block_lt_of_cell? w _ hx342_3)).trans hx342_3
                      replace p342 := eq_true p342
                      replace q342 := eq_true q342
                      have p26 : 0 ≤ (x6_2 : Int) := of_decide_eq_true (by first | (with_reducible assumption) | assumption)
                      have q26 : (x6_2 : Int) < ((x4_1.length : Int) : Int) := of_decide_eq_true (by first | (with_reducible assumption) | assumption)
                      obtain ⟨go26, co26, eo26, gb26, gl26, cl26, HG26⟩ := Kd.R_form HO_4.out (by omega)
                      (first | cases eo26 | (injection eo26 with ea_ en_ ec_; (first | subst ea_ | (injection ea_ with ea_; subst ea_)); subst ec_; clear en_))
                      have GB26 := am_ gb26
                      have GG26 := am_ HG26
                      clear gb26 gl26 HG26
                      (first | simp only [add_plain] at hx336_0 | skip)
                      obtain ⟨hx26_0, hf26_0⟩ := Kd.R_celln false HO_4.out (x6_2 : Int) p26 q26
                      replace p26 := eq_true p26
                      replace q26 := eq_true q26
                      have HP28 := Kd.R_putg HO_4.out (x6_2 : Int) true
                      go_wp2_with (first | ((with_reducible refine gate_store (t := 4) (p := 85) rfl ?_); (try (rw [drewN_self wr]; generalize hq_ : World.drewN wr _ = wr; have n0_ := am_ (Kd.R_at hq_ HO_4.out); have n1_ := am_ (below_at hq_ HB.out); clear hq_ HO_4 HB; have HO_4 := n0_; have HB := n1_; clear n0_ n1_; (try (have HP28 := Kd.R_putg HO_4.out (x6_2 : Int) true)))); refine store_event (t := 4) (p := 85) (v := ?vo_w29) (w1 := (wr.setCell ⟨go26, (x6_2 : Int).toNat, none⟩ (.bool true))) ?hg ?ho ?hn ?hr ?_; (case ho => rfl); (case hg => rfl); (case hn => rfl); (case hr => first | (go_simp; done) | (go_simp; rfl)); intro w29 hw; have hg : wr.grownBy w29 (some go26) := (by rw [hw]; exact HP28.2); have hp_ : Kd.R Kd.bool 4 w29 w.heap.size (fun _ => True) (.slice (some ⟨go26, 0, none⟩) x4_1.length co27) y343 := (by rw [hw, Ny343.out]; exact HP28.1); clear HP28; have n0_ := am_ (hp_); have n1_ := am_ ((by rw [hw]; exact below_set (HB.out) GB26.out : Below w.heap.size w w29)); clear HO_4; clear HB; have HO_4 := n0_; have HB := n1_; clear n0_ n1_; clear hg hw hp_))
                      repeat (go_quiet (first | ((with_reducible refine gate_store (t := 4) (p := 85) rfl ?_); (try (rw [drewN_self wr]; generalize hq_ : World.drewN wr _ = wr; have n0_ := am_ (Kd.R_at hq_ HO_4.out); have n1_ := am_ (below_at hq_ HB.out); clear hq_ HO_4 HB; have HO_4 := n0_; have HB := n1_; clear n0_ n1_; (try (have HP28 := Kd.R_putg HO_4.out (x6_2 : Int) true)))); refine store_event (t := 4) (p := 85) (v := ?vo_w29) (w1 := (wr.setCell ⟨go26, (x6_2 : Int).toNat, none⟩ (.bool true))) ?hg ?ho ?hn ?hr ?_; (case ho => rfl); (case hg => rfl); (case hn => rfl); (case hr => first | (go_simp; done) | (go_simp; rfl)); intro w29 hw; have hg : wr.grownBy w29 (some go26) := (by rw [hw]; exact HP28.2); have hp_ : Kd.R Kd.bool 4 w29 w.heap.size (fun _ => True) (.slice (some ⟨go26, 0, none⟩) x4_1.length co27) y343 := (by rw [hw, Ny343.out]; exact HP28.1); clear HP28; have n0_ := am_ (hp_); have n1_ := am_ ((by rw [hw]; exact below_set (HB.out) GB26.out : Below w.heap.size w w29)); clear HO_4; clear HB; have HO_4 := n0_; have HB := n1_; clear n0_ n1_; clear hg hw hp_)); try go_wp2_with (first | ((with_reducible refine gate_store (t := 4) (p := 85) rfl ?_); (try (rw [drewN_self wr]; generalize hq_ : World.drewN wr _ = wr; have n0_ := am_ (Kd.R_at hq_ HO_4.out); have n1_ := am_ (below_at hq_ HB.out); clear hq_ HO_4 HB; have HO_4 := n0_; have HB := n1_; clear n0_ n1_; (try (have HP28 := Kd.R_putg HO_4.out (x6_2 : Int) true)))); refine store_event (t := 4) (p := 85) (v := ?vo_w29) (w1 := (wr.setCell ⟨go26, (x6_2 : Int).toNat, none⟩ (.bool true))) ?hg ?ho ?hn ?hr ?_; (case ho => rfl); (case hg => rfl); (case hn => rfl); (case hr => first | (go_simp; done) | (go_simp; rfl)); intro w29 hw; have hg : wr.grownBy w29 (some go26) := (by rw [hw]; exact HP28.2); have hp_ : Kd.R Kd.bool 4 w29 w.heap.size (fun _ => True) (.slice (some ⟨go26, 0, none⟩) x4_1.length co27) y343 := (by rw [hw, Ny343.out]; exact HP28.1); clear HP28; have n0_ := am_ (hp_); have n1_ := am_ ((by rw [hw]; exact below_set (HB.out) GB26.out : Below w.heap.size w w29)); clear HO_4; clear HB; have HO_4 := n0_; have HB := n1_; clear n0_ n1_; clear hg hw hp_)))
                      go_roundg k2
                      case measure => have := HK1.out; have := HK2.out; omega
                      case rel => exact ⟨(y343), (wrap64 (x5_1 + 1)), (by first | rfl | (simp; done) | (simp [*]; done)), H', ⟨by have := HK1.out; have := HK2.out; omega⟩, ⟨by first | (rw [Ny343.out]; exact (Kd.R_putg (Kd.R_drewN HO_4.out _) (x6_2 : Int) true).1) | ((with_reducible repeat (first | apply Kd.R_alloc | apply Kd.R_drewN | apply Kd.R_drew)); exact HO_4.out)⟩, ⟨by first | exact below_set (pw_below_drewN HB.out _) GB26.out | (repeat (first | (with_reducible first | exact HB.out | apply below_alloc | apply pw_below_drewN | apply below_drew1) | exact HB.out))⟩⟩
                    ·rw [if_neg c23] at H
                     have c23b0 : (((rd_T83 l0 x6_2).f2) == (wrap64 (-((rd_T83 l0 x5_1).f2)))) = false := beq_eq_false_iff_ne.mpr c23
                     have c23b1 : (((rd_T83 l0 x6_2).f2) != (wrap64 (-((rd_T83 l0 x5_1).f2)))) = true := bne_iff_ne.mpr c23
                     have H' := am_ H
                     clear H
                     have p335 : 0 ≤ (x6_2 : Int) := of_decide_eq_true (by first | (with_reducible assumption) | assumption)
                     have q335 : x6_2 < (l0.length : Int) := of_decide_eq_true (by first | (with_reducible assumption) | assumption)
                     obtain ⟨ad335, e335, hx335_0, hx335_1, hx335_2, hx335_3⟩ := at_T83 HR0.out x6_2 p335 q335
                     (try rw [← Nbq8.out] at hx335_3)
                     (try rw [← Nbq13.out] at hx335_3)
                     (try rw [← Nbq16.out] at hx335_3)
                     obtain rfl : ad334 = ad335 := (by injection e335)
                     replace hx335_0 := (HB.out.cell (World.block_lt_of_cell? w _ hx335_0)).trans hx335_0
                     replace hx335_1 := (HB.out.cell (World.block_lt_of_cell? w _ hx335_1)).trans hx335_1
                     replace hx335_2 := (HB.out.cell (World.block_lt_of_cell? w _ hx335_2)).trans hx335_2
                     replace hx335_3 := (HB.out.cell (World.block_lt_of_cell? w _ hx335_3)).trans hx335_3
                     replace p335 := eq_true p335
                     replace q335 := eq_true q335
                     obtain ⟨Ao30, co30, eo30⟩ := Kd.R_slice HO_4.out
                     subst eo30
                     have p336 : 0 ≤ (x6_2 : Int) := of_decide_eq_true (by first | (with_reducible assumption) | assumption)
                     have q336 : x6_2 < (x4_1.length : Int) := of_decide_eq_true (by first | (with_reducible assumption) | assumption)
                     obtain ⟨ad336, e336, hx336_0⟩ := Kd.at_bool (Kd.R_reads' HO_4.out).2.2 x6_2 p336 q336
                     (try rw [← Nbq8.out] at hx336_0)
                     (try rw [← Nbq13.out] at hx336_0)
                     (try rw [← Nbq16.out] at hx336_0)
                     cases e336
                     replace p336 := eq_true p336
                     replace q336 := eq_true q336
                     have p337 : 0 ≤ (x6_2 : Int) := of_decide_eq_true (by first | (with_reducible assumption) | assumption)
                     have q337 : x6_2 < (l0.length : Int) := of_decide_eq_true (by first | (with_reducible assumption) | assumption)
                     obtain ⟨ad337, e337, hx337_0, hx337_1, hx337_2, hx337_3⟩ := at_T83 HR0.out x6_2 p337 q337
                     (try rw [← Nbq8.out] at hx337_3)
                     (try rw [← Nbq13.out] at hx337_3)
                     (try rw [← Nbq16.out] at hx337_3)
                     obtain rfl : ad334 = ad337 := (by injection e337)
                     replace hx337_0 := (HB.out.cell (World.block_lt_of_cell? w _ hx337_0)).trans hx337_0
                     replace hx337_1 := (HB.out.cell (World.block_lt_of_cell? w _ hx337_1)).trans hx337_1
                     replace hx337_2 := (HB.out.cell (World.block_lt_of_cell? w _ hx337_2)).trans hx337_2
                     replace hx337_3 := (HB.out.cell (World.block_lt_of_cell? w _ hx337_3)).trans hx337_3
                     replace p337 := eq_true p337
                     replace q337 := eq_true q337
                     have p338 : 0 ≤ (x5_1 : Int) := of_decide_eq_true (by first | (with_reducible assumption) | assumption)
                     have q338 : x5_1 < (l0.length : Int) := of_decide_eq_true (by first | (with_reducible assumption) | assumption)
                     obtain ⟨ad338, e338, hx338_0, hx338_1, hx338_2, hx338_3⟩ := at_T83 HR0.out x5_1 p338 q338
                     (try rw [← Nbq8.out] at hx338_3)
                     (try rw [← Nbq13.out] at hx338_3)
                     (try rw [← Nbq16.out] at hx338_3)
                     obtain rfl : ad334 = ad338 := (by injection e338)
                     replace hx338_0 := (HB.out.cell (World.block_lt_of_cell? w _ hx338_0)).trans hx338_0
                     replace hx338_1 := (HB.out.cell (World.block_lt_of_cell? w _ hx338_1)).trans hx338_1
                     replace hx338_2 := (HB.out.cell (World.block_lt_of_cell? w _ hx338_2)).trans hx338_2
                     replace hx338_3 := (HB.out.cell (World.block_lt_of_cell? w _ hx338_3)).trans hx338_3
                     replace p338 := eq_true p338
                     replace q338 := eq_true q338
                     have p339 : 0 ≤ (x6_2 : Int) := of_decide_eq_true (by first | (with_reducible assumption) | assumption)
                     have q339 : x6_2 < (l0.length : Int) := of_decide_eq_true (by first | (with_reducible assumption) | assumption)
                     obtain ⟨ad339, e339, hx339_0, hx339_1, hx339_2, hx339_3⟩ := at_T83 HR0.out x6_2 p339 q339
                     (try rw [← Nbq8.out] at hx339_3)
                     (try rw [← Nbq13.out] at hx339_3)
                     (try rw [← Nbq16.out] at hx339_3)
                     obtain rfl : ad334 = ad339 := (by injection e339)
                     replace hx339_0 := (HB.out.cell (World.block_lt_of_cell? w _ hx339_0)).trans hx339_0
                     replace hx339_1 := (HB.out.cell (World.block_lt_of_cell? w _ hx339_1)).trans hx339_1
                     replace hx339_2 := (HB.out.cell (World.block_lt_of_cell? w _ hx339_2)).trans hx339_2
                     replace hx339_3 := (HB.out.cell (World.block_lt_of_cell? w _ hx339_3)).trans hx339_3
                     replace p339 := eq_true p339
                     replace q339 := eq_true q339
                     have p340 : 0 ≤ (x5_1 : Int) := of_decide_eq_true (by first | (with_reducible assumption) | assumption)
                     have q340 : x5_1 < (l0.length : Int) := of_decide_eq_true (by first | (with_reducible assumption) | assumption)
                     obtain ⟨ad340, e340, hx340_0, hx340_1, hx340_2, hx340_3⟩ := at_T83 HR0.out x5_1 p340 q340
                     (try rw [← Nbq8.out] at hx340_3)
                     (try rw [← Nbq13.out] at hx340_3)
                     (try rw [← Nbq16.out] at hx340_3)
                     obtain rfl : ad334 = ad340 := (by injection e340)
                     replace hx340_0 := (HB.out.cell (World.block_lt_of_cell? w _ hx340_0)).trans hx340_0
                     replace hx340_1 := (HB.out.cell (World.block_lt_of_cell? w _ hx340_1)).trans hx340_1
                     replace hx340_2 := (HB.out.cell (World.block_lt_of_cell? w _ hx340_2)).trans hx340_2
                     replace hx340_3 := (HB.out.cell (World.block_lt_of_cell? w _ hx340_3)).trans hx340_3
                     replace p340 := eq_true p340
                     replace q340 := eq_true q340
                     have p341 : 0 ≤ (x6_2 : Int) := of_decide_eq_true (by first | (with_reducible assumption) | assumption)
                     have q341 : x6_2 < (l0.length : Int) := of_decide_eq_true (by first | (with_reducible assumption) | assumption)
                     obtain ⟨ad341, e341, hx341_0, hx341_1, hx341_2, hx341_3⟩ := at_T83 HR0.out x6_2 p341 q341
                     (try rw [← Nbq8.out] at hx341_3)
                     (try rw [← Nbq13.out] at hx341_3)
                     (try rw [← Nbq16.out] at hx341_3)
                     obtain rfl : ad334 = ad341 := (by injection e341)
                     replace hx341_0 := (HB.out.cell (World.block_lt_of_cell? w _ hx341_0)).trans hx341_0
                     replace hx341_1 := (HB.out.cell (World.block_lt_of_cell? w _ hx341_1)).trans hx341_1
                     replace hx341_2 := (HB.out.cell (World.block_lt_of_cell? w _ hx341_2)).trans hx341_2
                     replace hx341_3 := (HB.out.cell (World.block_lt_of_cell? w _ hx341_3)).trans hx341_3
                     replace p341 := eq_true p341
                     replace q341 := eq_true q341
                     have p342 : 0 ≤ (x5_1 : Int) := of_decide_eq_true (by first | (with_reducible assumption) | assumption)
                     have q342 : x5_1 < (l0.length : Int) := of_decide_eq_true (by first | (with_reducible assumption) | assumption)
                     obtain ⟨ad342, e342, hx342_0, hx342_1, hx342_2, hx342_3⟩ := at_T83 HR0.out x5_1 p342 q342
                     (try rw [← Nbq8.out] at hx342_3)
                     (try rw [← Nbq13.out] at hx342_3)
                     (try rw [← Nbq16.out] at hx342_3)
                     obtain rfl : ad334 = ad342 := (by injection e342)
                     replace hx342_0 := (HB.out.cell (World.block_lt_of_cell? w _ hx342_0)).trans hx342_0
                     replace hx342_1 := (HB.out.cell (World.block_lt_of_cell? w _ hx342_1)).trans hx342_1
                     replace hx342_2 := (HB.out.cell (World.block_lt_of_cell? w _ hx342_2)).trans hx342_2
                     replace hx342_3 := (HB.out.cell (World.block_lt_of_cell? w _ hx342_3)).trans hx342_3
                     replace p342 := eq_true p342
                     replace q342 := eq_true q342
                     go_wp2
                     repeat (go_quiet (fail); try go_wp2)
                     go_roundg k2
                     case measure => have := HK1.out; have := HK2.out; omega
                     case rel => exact ⟨(wrap64 (x6_2 - 1)), (by first | rfl | (simp; done) | (simp [*]; done)), H', ⟨by have := HK1.out; have := HK2.out; omega⟩, ⟨ro_ HO_4.out⟩, ⟨be_ HB.out⟩⟩
                   ·rw [if_neg c22] at H
                    have c22b0 : (((rd_T83 l0 x6_2).f1) == ((rd_T83 l0 x5_1).f1)) = false := beq_eq_false_iff_ne.mpr c22
                    have c22b1 : (((rd_T83 l0 x6_2).f1) != ((rd_T83 l0 x5_1).f1)) = true := bne_iff_ne.mpr c22
                    have H' := am_ H
                    clear H
                    have p335 : 0 ≤ (x6_2 : Int) := of_decide_eq_true (by first | (with_reducible assumption) | assumption)
                    have q335 : x6_2 < (l0.length : Int) := of_decide_eq_true (by first | (with_reducible assumption) | assumption)
                    obtain ⟨ad335, e335, hx335_0, hx335_1, hx335_2, hx335_3⟩ := at_T83 HR0.out x6_2 p335 q335
                    (try rw [← Nbq8.out] at hx335_3)
                    (try rw [← Nbq13.out] at hx335_3)
                    (try rw [← Nbq16.out] at hx335_3)
                    obtain rfl : ad334 = ad335 := (by injection e335)
                    replace hx335_0 := (HB.out.cell (World.block_lt_of_cell? w _ hx335_0)).trans hx335_0
                    replace hx335_1 := (HB.out.cell (World.block_lt_of_cell? w _ hx335_1)).trans hx335_1
                    replace hx335_2 := (HB.out.cell (World.block_lt_of_cell? w _ hx335_2)).trans hx335_2
                    replace hx335_3 := (HB.out.cell (World.block_lt_of_cell? w _ hx335_3)).trans hx335_3
                    replace p335 := eq_true p335
                    replace q335 := eq_true q335
                    obtain ⟨Ao31, co31, eo31⟩ := Kd.R_slice HO_4.out
                    subst eo31
                    have p336 : 0 ≤ (x6_2 : Int) := of_decide_eq_true (by first | (with_reducible assumption) | assumption)
                    have q336 : x6_2 < (x4_1.length : Int) := of_decide_eq_true (by first | (with_reducible assumption) | assumption)
                    obtain ⟨ad336, e336, hx336_0⟩ := Kd.at_bool (Kd.R_reads' HO_4.out).2.2 x6_2 p336 q336
                    (try rw [← Nbq8.out] at hx336_0)
                    (try rw [← Nbq13.out] at hx336_0)
                    (try rw [← Nbq16.out] at hx336_0)
                    cases e336
                    replace p336 := eq_true p336
                    replace q336 := eq_true q336
                    have p337 : 0 ≤ (x6_2 : Int) := of_decide_eq_true (by first | (with_reducible assumption) | assumption)
                    have q337 : x6_2 < (l0.length : Int) := of_decide_eq_true (by first | (with_reducible assumption) | assumption)
                    obtain ⟨ad337, e337, hx337_0, hx337_1, hx337_2, hx337_3⟩ := at_T83 HR0.out x6_2 p337 q337
                    (try rw [← Nbq8.out] at hx337_3)
                    (try rw [← Nbq13.out] at hx337_3)
                    (try rw [← Nbq16.out] at hx337_3)
                    obtain rfl : ad334 = ad337 := (by injection e337)
                    replace hx337_0 := (HB.out.cell (World.block_lt_of_cell? w _ hx337_0)).trans hx337_0
                    replace hx337_1 := (HB.out.cell (World.block_lt_of_cell? w _ hx337_1)).trans hx337_1
                    replace hx337_2 := (HB.out.cell (World.block_lt_of_cell? w _ hx337_2)).trans hx337_2
                    replace hx337_3 := (HB.out.cell (World.block_lt_of_cell? w _ hx337_3)).trans hx337_3
                    replace p337 := eq_true p337
                    replace q337 := eq_true q337
                    have p338 : 0 ≤ (x5_1 : Int) := of_decide_eq_true (by first | (with_reducible assumption) | assumption)
                    have q338 : x5_1 < (l0.length : Int) := of_decide_eq_true (by first | (with_reducible assumption) | assumption)
                    obtain ⟨ad338, e338, hx338_0, hx338_1, hx338_2, hx338_3⟩ := at_T83 HR0.out x5_1 p338 q338
                    (try rw [← Nbq8.out] at hx338_3)
                    (try rw [← Nbq13.out] at hx338_3)
                    (try rw [← Nbq16.out] at hx338_3)
                    obtain rfl : ad334 = ad338 := (by injection e338)
                    replace hx338_0 := (HB.out.cell (World.block_lt_of_cell? w _ hx338_0)).trans hx338_0
                    replace hx338_1 := (HB.out.cell (World.block_lt_of_cell? w _ hx338_1)).trans hx338_1
                    replace hx338_2 := (HB.out.cell (World.block_lt_of_cell? w _ hx338_2)).trans hx338_2
                    replace hx338_3 := (HB.out.cell (World.block_lt_of_cell? w _ hx338_3)).trans hx338_3
                    replace p338 := eq_true p338
                    replace q338 := eq_true q338
                    have p339 : 0 ≤ (x6_2 : Int) := of_decide_eq_true (by first | (with_reducible assumption) | assumption)
                    have q339 : x6_2 < (l0.length : Int) := of_decide_eq_true (by first | (with_reducible assumption) | assumption)
                    obtain ⟨ad339, e339, hx339_0, hx339_1, hx339_2, hx339_3⟩ := at_T83 HR0.out x6_2 p339 q339
                    (try rw [← Nbq8.out] at hx339_3)
                    (try rw [← Nbq13.out] at hx339_3)
                    (try rw [← Nbq16.out] at hx339_3)
                    obtain rfl : ad334 = ad339 := (by injection e339)
                    replace hx339_0 := (HB.out.cell (World.block_lt_of_cell? w _ hx339_0)).trans hx339_0
                    replace hx339_1 := (HB.out.cell (World.block_lt_of_cell? w _ hx339_1)).trans hx339_1
                    replace hx339_2 := (HB.out.cell (World.block_lt_of_cell? w _ hx339_2)).trans hx339_2
                    replace hx339_3 := (HB.out.cell (World.block_lt_of_cell? w _ hx339_3)).trans hx339_3
                    replace p339 := eq_true p339
                    replace q339 := eq_true q339
                    have p340 : 0 ≤ (x5_1 : Int) := of_decide_eq_true (by first | (with_reducible assumption) | assumption)
                    have q340 : x5_1 < (l0.length : Int) := of_decide_eq_true (by first | (with_reducible assumption) | assumption)
                    obtain ⟨ad340, e340, hx340_0, hx340_1, hx340_2, hx340_3⟩ := at_T83 HR0.out x5_1 p340 q340
                    (try rw [← Nbq8.out] at hx340_3)
                    (try rw [← Nbq13.out] at hx340_3)
                    (try rw [← Nbq16.out] at hx340_3)
                    obtain rfl : ad334 = ad340 := (by injection e340)
                    replace hx340_0 := (HB.out.cell (World.block_lt_of_cell? w _ hx340_0)).trans hx340_0
                    replace hx340_1 := (HB.out.cell (World.block_lt_of_cell? w _ hx340_1)).trans hx340_1
                    replace hx340_2 := (HB.out.cell (World.block_lt_of_cell? w _ hx340_2)).trans hx340_2
                    replace hx340_3 := (HB.out.cell (World.block_lt_of_cell? w _ hx340_3)).trans hx340_3
                    replace p340 := eq_true p340
                    replace q340 := eq_true q340
                    go_wp2
                    repeat (go_quiet (fail); try go_wp2)
                    go_roundg k2
                    case measure => have := HK1.out; have := HK2.out; omega
                    case rel => exact ⟨(wrap64 (x6_2 - 1)), (by first | rfl | (simp; done) | (simp [*]; done)), H', ⟨by have := HK1.out; have := HK2.out; omega⟩, ⟨ro_ HO_4.out⟩, ⟨be_ HB.out⟩⟩
                  ·rw [if_neg c21] at H
                   have c21b0 : (((rd_T83 l0 x6_2).f0) == ((rd_T83 l0 x5_1).f0)) = false := beq_eq_false_iff_ne.mpr c21
                   have c21b1 : (((rd_T83 l0 x6_2).f0) != ((rd_T83 l0 x5_1).f0)) = true := bne_iff_ne.mpr c21
                   have H' := am_ H
                   clear H
                   have p335 : 0 ≤ (x6_2 : Int) := of_decide_eq_true (by first | (with_reducible assumption) | assumption)
                   have q335 : x6_2 < (l0.length : Int) := of_decide_eq_true (by first | (with_reducible assumption) | assumption)
                   obtain ⟨ad335, e335, hx335_0, hx335_1, hx335_2, hx335_3⟩ := at_T83 HR0.out x6_2 p335 q335
                   (try rw [← Nbq8.out] at hx335_3)
                   (try rw [← Nbq13.out] at hx335_3)
                   (try rw [← Nbq16.out] at hx335_3)
                   obtain rfl : ad334 = ad335 := (by injection e335)
                   replace hx335_0 := (HB.out.cell (World.block_lt_of_cell? w _ hx335_0)).trans hx335_0
                   replace hx335_1 := (HB.out.cell (World.block_lt_of_cell? w _ hx335_1)).trans hx335_1
                   replace hx335_2 := (HB.out.cell (World.block_lt_of_cell? w _ hx335_2)).trans hx335_2
                   replace hx335_3 := (HB.out.cell (World.block_lt_of_cell? w _ hx335_3)).trans hx335_3
                   replace p335 := eq_true p335
                   replace q335 := eq_true q335
                   obtain ⟨Ao32, co32, eo32⟩ := Kd.R_slice HO_4.out
                   subst eo32
                   have p336 : 0 ≤ (x6_2 : Int) := of_decide_eq_true (by first | (with_reducible assumption) | assumption)
                   have q336 : x6_2 < (x4_1.length : Int) := of_decide_eq_true (by first | (with_reducible assumption) | assumption)
                   obtain ⟨ad336, e336, hx336_0⟩ := Kd.at_bool (Kd.R_reads' HO_4.out).2.2 x6_2 p336 q336
                   (try rw [← Nbq8.out] at hx336_0)
                   (try rw [← Nbq13.out] at hx336_0)
                   (try rw [← Nbq16.out] at hx336_0)
                   cases e336
                   replace p336 := eq_true p336
                   replace q336 := eq_true q336
                   have p337 : 0 ≤ (x6_2 : Int) := of_decide_eq_true (by first | (with_reducible assumption) | assumption)
                   have q337 : x6_2 < (l0.length : Int) := of_decide_eq_true (by first | (with_reducible assumption) | assumption)
                   obtain ⟨ad337, e337, hx337_0, hx337_1, hx337_2, hx337_3⟩ := at_T83 HR0.out x6_2 p337 q337
                   (try rw [← Nbq8.out] at hx337_3)
                   (try rw [← Nbq13.out] at hx337_3)
                   (try rw [← Nbq16.out] at hx337_3)
                   obtain rfl : ad334 = ad337 := (by injection e337)
                   replace hx337_0 := (HB.out.cell (World.block_lt_of_cell? w _ hx337_0)).trans hx337_0
                   replace hx337_1 := (HB.out.cell (World.block_lt_of_cell? w _ hx337_1)).trans hx337_1
                   replace hx337_2 := (HB.out.cell (World.block_lt_of_cell? w _ hx337_2)).trans hx337_2
                   replace hx337_3 := (HB.out.cell (World.block_lt_of_cell? w _ hx337_3)).trans hx337_3
                   replace p337 := eq_true p337
                   replace q337 := eq_true q337
                   have p338 : 0 ≤ (x5_1 : Int) := of_decide_eq_true (by first | (with_reducible assumption) | assumption)
                   have q338 : x5_1 < (l0.length : Int) := of_decide_eq_true (by first | (with_reducible assumption) | assumption)
                   obtain ⟨ad338, e338, hx338_0, hx338_1, hx338_2, hx338_3⟩ := at_T83 HR0.out x5_1 p338 q338
                   (try rw [← Nbq8.out] at hx338_3)
                   (try rw [← Nbq13.out] at hx338_3)
                   (try rw [← Nbq16.out] at hx338_3)
                   obtain rfl : ad334 = ad338 := (by injection e338)
                   replace hx338_0 := (HB.out.cell (World.block_lt_of_cell? w _ hx338_0)).trans hx338_0
                   replace hx338_1 := (HB.out.cell (World.block_lt_of_cell? w _ hx338_1)).trans hx338_1
                   replace hx338_2 := (HB.out.cell (World.block_lt_of_cell? w _ hx338_2)).trans hx338_2
                   replace hx338_3 := (HB.out.cell (World.block_lt_of_cell? w _ hx338_3)).trans hx338_3
                   replace p338 := eq_true p338
                   replace q338 := eq_true q338
                   go_wp2
                   repeat (go_quiet (fail); try go_wp2)
                   go_roundg k2
                   case measure => have := HK1.out; have := HK2.out; omega
                   case rel => exact ⟨(wrap64 (x6_2 - 1)), (by first | rfl | (simp; done) | (simp [*]; done)), H', ⟨by have := HK1.out; have := HK2.out; omega⟩, ⟨ro_ HO_4.out⟩, ⟨be_ HB.out⟩⟩
                 ·rw [if_neg c20] at H
                  exact absurd H (by simp)
                ·rw [if_neg c19] at H
                 exact absurd H (by simp)
              ·rw [if_neg c15] at H
               exact absurd H (by simp)
            ·rw [if_neg c12] at H
             exact absurd H (by simp)
           ·rw [if_neg c11] at H
            exact absurd H (by simp)
          ·rw [if_neg c10] at H
           have c10b0 : decide (0 ≤ x6_2) = false := decide_eq_false c10
           have d10 : ¬ (x6_2 ≥ 0) := c10
           clear c10
           by_cases c33 : x6_2 < 0
           ·rw [if_pos c33] at H
            have c33b0 : decide (x6_2 < 0) = true := decide_eq_true c33
            clear c33
            simp only [Option.some.injEq, Prod.mk.injEq] at H
            obtain ⟨rfl, rfl⟩ := H
            go_wp2
            repeat (go_quiet (fail); try go_wp2)
            go_ret2
            exact ⟨_, by first | rfl | (simp [errW_none, errW_some] <;> rfl) | (simp [*, errW_none, errW_some] <;> rfl), by first | exact Kd.R_nil _ _ _ _ _ | exact Kd.N_nil _ _ _ _ _ | exact Kd.V_nil _ _ _ _ _ | exact Kd.Q_nil _ _ _ _ _ | exact Kd.S_nil _ _ _ _ _, be_ HB.out⟩
           ·exact absurd c33 (by omega)
       ·replace c9 := Bool.eq_false_iff.mpr c9
        subst c9
        have H1 : (heronryref15_undone.l0 k1 l0 x4_1 (wrap64 (x5_1 + 1))) = some (r1, r2) := by rw [if_neg (show ¬ (false = true) by decide)] at H; exact H
        clear H
        have H := H1
        clear H1
        have H' := am_ H
        clear H
        have p334 : 0 ≤ (x5_1 : Int) := of_decide_eq_true (by first | (with_reducible assumption) | assumption)
        have q334 : x5_1 < (l0.length : Int) := of_decide_eq_true (by first | (with_reducible assumption) | assumption)
        obtain ⟨ad334, e334, hx334_0, hx334_1, hx334_2, hx334_3⟩ := at_T83 HR0.out x5_1 p334 q334
        (try rw [← Nbq8.out] at hx334_3)
        cases e334
        replace hx334_0 := (HB.out.cell (World.block_lt_of_cell? w _ hx334_0)).trans hx334_0
        replace hx334_1 := (HB.out.cell (World.block_lt_of_cell? w _ hx334_1)).trans hx334_1
        replace hx334_2 := (HB.out.cell (World.block_lt_of_cell? w _ hx334_2)).trans hx334_2
        replace hx334_3 := (HB.out.cell (World.block_lt_of_cell? w _ hx334_3)).trans hx334_3
        replace p334 := eq_true p334
        replace q334 := eq_true q334
        go_wp2
        repeat (go_quiet (fail); try go_wp2)
        go_roundg k1
        case measure => have := HK1.out; omega
        case rel => exact ⟨(x4_1), (wrap64 (x5_1 + 1)), (by first | rfl | (simp; done) | (simp [*]; done)), H', ⟨by have := HK1.out; omega⟩, ⟨ro_ HO_4.out⟩, ⟨be_ HB.out⟩⟩
      ·rw [if_neg c7] at H
       exact absurd H (by simp)
     ·rw [if_neg c6] at H
      have c6b0 : decide (x5_1 < (l0.length : Int)) = false := decide_eq_false c6
      clear c6
      simp only [Option.some.injEq, Prod.mk.injEq] at H
      obtain ⟨rfl, rfl⟩ := H
      go_wp2
      repeat (go_quiet (fail); try go_wp2)
      go_ret2
      exact ⟨_, by first | rfl | (simp [errW_none, errW_some] <;> rfl) | (simp [*, errW_none, errW_some] <;> rfl), ro_ HO_4.out, be_ HB.out⟩
  ·rw [if_neg c3] at H
   exact absurd H (by simp)
 ·rw [if_neg c2] at H
  exact absurd H (by simp)

end Go.Proofs.Ytjpoepiidmoegaa.Q
