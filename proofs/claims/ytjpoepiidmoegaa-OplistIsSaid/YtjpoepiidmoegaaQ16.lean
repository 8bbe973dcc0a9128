-- Cut to what one claim reaches, out of what the kit's print laid for this seat (wip/tools/trim.py).
import Derived.Test.YtjpoepiidmoegaaQ0
import Derived.Test.YtjpoepiidmoegaaQ15
import Derived.Test.YtjpoepiidmoegaaQS
namespace Go.Proofs.Ytjpoepiidmoegaa.Q
open Go.RowKit Go.Proofs.YtjpoepiidmoegaaW.PrintWords Go.Proofs.YtjpoepiidmoegaaW.PrintLast Go.Proofs.YtjpoepiidmoegaaW.PrintMore
attribute [local go_sem] max2_int min2_int max_two min_two max_three min_three max_four min_four   -- for this text's walks alone
set_option linter.unusedVariables false
set_option linter.unusedSimpArgs false

def heronryref15_open.l0 : Nat → List (S83) → List Bool → Bool → List Bool → Int → Option (List Bool)
 | 0, _, _, _, _, _ => none
 | k + 1, x0, x3, x4, x5, x6 => if x6 < (x0.length : Int) then (if x4 = true then (if 0 ≤ x6 then (if ((rd_T83 x0 x6).f3 = true) then (if x6 < (x5.length : Int) then (heronryref15_open.l0 k x0 x3 x4 (x5.set (x6 : Int).toNat false) (wrap64 (x6 + 1))) else (none)) else (if x6 < (x3.length : Int) then (if x6 < (x5.length : Int) then (heronryref15_open.l0 k x0 x3 x4 (x5.set (x6 : Int).toNat (!(rdOf false x3 x6))) (wrap64 (x6 + 1))) else (none)) else (none))) else (none)) else (some x5)) else (some x5)
def heronryref15_open.f (k : Nat) (l0 : List (S83)) : Option (List Bool) := (heronryref15_undone.f k l0).bind fun bt345 => (if 0 ≤ (l0.length : Int) then (if ((l0.length : Int) : Int).toNat ≤ 281474976710656 then (heronryref15_open.l0 k l0 bt345.1 bt345.2 (List.replicate ((l0.length : Int) : Int).toNat false) 0) else (none)) else (none))
set_option maxHeartbeats 8000000 in
set_option maxRecDepth 100000 in
theorem heronryref15_open.calls (k : Nat) (A0 : Option Addr) (c0 : Nat) (l0 : List (S83)) (r : List Bool) (w : World) (hr0 : Kd.C k83 w A0 l0.length l0) (hc0 : l0.length ≤ c0) (h : heronryref15_open.f k l0 = some r) :
  Calls Try.prog 51 #[.slice A0 l0.length c0] w fun e w' => ∃ v0_ : Value, e = .returned (v0_) ∧ Kd.R Kd.bool 4 w' w.heap.size (fun _ => True) v0_ r ∧ Below w.heap.size w w' := by
 have HR0 := am_ hr0
 have HC0 := am_ hc0
 clear hr0 hc0
 have HB := am_ (Below.refl w.heap.size w)
 have H : ((heronryref15_undone.f k l0).bind fun bt345 => (if 0 ≤ (l0.length : Int) then (if ((l0.length : Int) : Int).toNat ≤ 281474976710656 then (heronryref15_open.l0 k l0 bt345.1 bt345.2 (List.replicate ((l0.length : Int) : Int).toNat false) 0) else (none)) else (none))) = some r := h
 clear h
 replace H := Option.bind_eq_some_iff.mp H
 obtain ⟨⟨t345, t346⟩, A20, H⟩ := H
 replace H : (if 0 ≤ (l0.length : Int) then (if ((l0.length : Int) : Int).toNat ≤ 281474976710656 then (heronryref15_open.l0 k l0 t345 t346 (List.replicate ((l0.length : Int) : Int).toNat false) 0) else (none)) else (none)) = some r := H
 have A2 := am_ A20
 clear A20
 by_cases c3 : 0 ≤ (l0.length : Int)
 ·rw [if_pos c3] at H
  have c3b0 := eq_true c3
  have c3b1 : decide (0 ≤ (l0.length : Int)) = true := decide_eq_true c3
  clear c3
  by_cases c4 : ((l0.length : Int) : Int).toNat ≤ 281474976710656
  ·rw [if_pos c4] at H
   have c4b0 := eq_true c4
   have c4b1 : decide (((l0.length : Int) : Int).toNat ≤ 281474976710656) = true := decide_eq_true c4
   clear c4
   obtain ⟨y349, hy349⟩ : ∃ y_ : List Bool, y_ = (List.replicate ((l0.length : Int) : Int).toNat false) := ⟨_, rfl⟩
   replace H : (heronryref15_open.l0 k l0 t345 t346 y349 0) = some r := by first | (rw [hy349]; with_reducible exact H) | (have H2_ := (Option.bind_some _ _).symm.trans H; rw [hy349]; with_reducible exact H2_) | (have H2_ := (Option.bind_some _ _).symm.trans H; with_reducible exact H2_) | with_reducible exact H | (rw [hy349]; exact H) | exact H
   have Ny349 := am_ hy349
   clear hy349
   have H' := am_ H
   clear H
   go_enter Try.func51, Try.ntmps51
   go_wp2_with (first | ((with_reducible refine gate_callee (f := 50) rfl ?_); refine goesL_ (some 9) rfl rfl Try.func50 (by kernel_rfl) rfl #[.slice A0 l0.length c0] rfl ma_ ?_; (with_reducible refine (heronryref15_undone.calls k _ _ l0 t345 t346 _ ?side1 ?side2 A2.out).mono ?_); (case side1 => repeat (first | exact HR0.out | (with_reducible refine Kd.C_alloc ?_ _) | (with_reducible refine Kd.C_drewN ?_ _) | (with_reducible refine Kd.C_drew ?_))); (case side2 => exact HC0.out); rintro e w5 ⟨v347, rfl, ho0, hb⟩; refine ⟨_, rfl, ?_⟩; have n0_ := am_ (Kd.R_lower ho0 (below_size (be_ HB.out))); have n1_ := am_ (below_step (be_ HB.out) hb); clear HB; have HO348 := n0_; have HB := n1_; clear n0_ n1_; (try clear hb); (try clear hb2); (try clear hk); (try clear hi); (try clear ho0)) | ((with_reducible refine gate_dst (N := 14) rfl ?_); refine Kd.R_make Kd.bool _ 4 rfl (N := 14) rfl 102 _ _ rfl (l0.length : Int) rfl rfl Try.underlying102 (.bool false) 1 info4 rfl (by decide) (by omega) false (ok := fun _ => True) (okp := fun _ => True) rfl (fun _ hk => hk) trivial (of_decide_eq_true (by first | (with_reducible assumption) | assumption)) (Nat.le_trans (Nat.mul_le_mul_right _ (of_decide_eq_true (by first | (with_reducible assumption) | assumption) : (l0.length : Int).toNat ≤ 281474976710656)) (by omega)) (Below.refl _ _) (Nat.le_refl _) ?_; intro v350 w6 ho7 hb hg_ hnew_; clear hg_ hnew_; (first | rw [← Ny349.out] at ho7 | (simp only [Int.reduceToNat] at ho7; rw [← Ny349.out] at ho7)); have n0_ := am_ (Kd.R_elder' (ro_ HO348.out) (Kd.R_base ho7) hb); have n1_ := am_ (Kd.R_lower (Kd.R_new' ho7 (Kd.R_lt (ro_ HO348.out))) (below_size (be_ HB.out))); have n2_ := am_ (below_step (be_ HB.out) hb); clear HO348; clear HB; have HO348 := n0_; have HO351 := n1_; have HB := n2_; clear n0_ n1_ n2_; clear hb ho7))
   go_loopg [6] k (fun kq v6 w' => ∃ (x5_1 : List Bool) (x6_1 : Int), v6 = .int .i64 x6_1 ∧ Aside0 (heronryref15_open.l0 kq l0 t345 t346 x5_1 x6_1 = some r) ∧ Aside0 (kq ≤ k) ∧ Aside0 (Kd.R Kd.bool 4 w' w.heap.size (fun k_ => some k_ ≠ (v350 : Value).ownBlock) v347 t345) ∧ Aside0 (Kd.R Kd.bool 4 w' w.heap.size (fun k_ => some k_ ≠ (v347 : Value).ownBlock) v350 x5_1) ∧ Aside0 (Below w.heap.size w w'))
   case atStart => exact ⟨(y349), (0), (by first | rfl | (simp; done) | (simp [*]; done)), H', ⟨Nat.le_refl _⟩, ⟨by (with_reducible repeat (first | apply Kd.R_alloc | apply Kd.R_drewN | apply Kd.R_drew)); exact Kd.R_mono HO348.out (fun _ hk => hk.2)⟩, ⟨by (with_reducible repeat (first | apply Kd.R_alloc | apply Kd.R_drewN | apply Kd.R_drew)); exact Kd.R_mono HO351.out (fun _ hk => hk.2)⟩, ⟨be_ HB.out⟩⟩
   case round =>
    clear H'
    try clear p2
    try clear c3
    try clear c3b0
    try clear c3b1
    try clear c4
    try clear c4b0
    try clear c4b1
    try clear c5
    obtain ⟨x5_1, x6_1, rfl, HA, HK1, HO_3, HO_5, HB⟩ := hrel
    cases gk with
    | zero => exact absurd HA.out (by simp [heronryref15_open.l0])
    | succ k1 =>
     have H := HA.out
     clear HA
     simp only [heronryref15_open.l0] at H
     by_cases c8 : x6_1 < (l0.length : Int)
     ·rw [if_pos c8] at H
      have c8b0 : decide (x6_1 < (l0.length : Int)) = true := decide_eq_true c8
      clear c8
      by_cases c9 : t346 = true
      ·subst c9
       have H1 : (if 0 ≤ x6_1 then (if ((rd_T83 l0 x6_1).f3 = true) then (if x6_1 < (x5_1.length : Int) then (heronryref15_open.l0 k1 l0 t345 true (x5_1.set (x6_1 : Int).toNat false) (wrap64 (x6_1 + 1))) else (none)) else (if x6_1 < (t345.length : Int) then (if x6_1 < (x5_1.length : Int) then (heronryref15_open.l0 k1 l0 t345 true (x5_1.set (x6_1 : Int).toNat (!(rdOf false t345 x6_1))) (wrap64 (x6_1 + 1))) else (none)) else (none))) else (none)) = some r := by rw [if_pos rfl] at H; exact H
       clear H
       have H := H1
       clear H1
       by_cases c10 : 0 ≤ x6_1
       ·rw [if_pos c10] at H
        have c10b0 : decide (0 ≤ x6_1) = true := decide_eq_true c10
        clear c10
        obtain ⟨bq11, hbq11⟩ : ∃ b_ : Bool, b_ = ((rd_T83 l0 x6_1).f3) := ⟨_, rfl⟩
        replace H : (if (bq11 = true) then (if x6_1 < (x5_1.length : Int) then (heronryref15_open.l0 k1 l0 t345 true (x5_1.set (x6_1 : Int).toNat false) (wrap64 (x6_1 + 1))) else (none)) else (if x6_1 < (t345.length : Int) then (if x6_1 < (x5_1.length : Int) then (heronryref15_open.l0 k1 l0 t345 true (x5_1.set (x6_1 : Int).toNat (!(rdOf false t345 x6_1))) (wrap64 (x6_1 + 1))) else (none)) else (none))) = some r := by rw [← hbq11] at H; exact H
        have Nbq11 := am_ hbq11
        clear hbq11
        by_cases c12 : (bq11 = true)
        ·subst c12
         have H1 : (if x6_1 < (x5_1.length : Int) then (heronryref15_open.l0 k1 l0 t345 true (x5_1.set (x6_1 : Int).toNat false) (wrap64 (x6_1 + 1))) else (none)) = some r := by rw [if_pos rfl] at H; exact H
         clear H
         have H := H1
         clear H1
         by_cases c13 : x6_1 < (x5_1.length : Int)
         ·rw [if_pos c13] at H
          have c13b0 : decide (x6_1 < (x5_1.length : Int)) = true := decide_eq_true c13
          clear c13
          obtain ⟨y353, hy353⟩ : ∃ y_ : List Bool, y_ = (x5_1.set (x6_1 : Int).toNat false) := ⟨_, rfl⟩
          replace H : (heronryref15_open.l0 k1 l0 t345 true y353 (wrap64 (x6_1 + 1))) = some r := by first | (rw [hy353]; with_reducible exact H) | (have H2_ := (Option.bind_some _ _).symm.trans H; rw [hy353]; with_reducible exact H2_) | (have H2_ := (Option.bind_some _ _).symm.trans H; with_reducible exact H2_) | with_reducible exact H | (rw [hy353]; exact H) | exact H
          have Ny353 := am_ hy353
          clear hy353
          have H' := am_ H
          clear H
          have p352 : 0 ≤ (x6_1 : Int) := of_decide_eq_true (by first | (with_reducible assumption) | assumption)
          have q352 : x6_1 < (l0.length : Int) := of_decide_eq_true (by first | (with_reducible assumption) | assumption)
          obtain ⟨ad352, e352, hx352_0, hx352_1, hx352_2, hx352_3⟩ := at_T83 HR0.out x6_1 p352 q352
          (try rw [← Nbq11.out] at hx352_3)
          cases e352
          replace hx352_0 := (HB.out.cell (World.block_lt_of_cell? w _ hx352_0)).trans hx352_0
          replace hx352_1 := (HB.out.cell (World.block_lt_of_cell? w _ hx352_1)).trans hx352_1
          replace hx352_2 := (HB.out.cell (World.block_lt_of_cell? w _ hx352_2)).trans hx352_2
          replace hx352_3 := (HB.out.cell (World.block_lt_of_cell? w _ hx352_3)).trans hx352_3
          replace p352 := eq_true p352
          replace q352 := eq_true q352
          have p14 : 0 ≤ (x6_1 : Int) := of_decide_eq_true (by first | (with_reducible assumption) | assumption)
          have q14 : (x6_1 : Int) < ((x5_1.length : Int) : Int) := of_decide_eq_true (by first | (with_reducible assumption) | assumption)
          obtain ⟨go14, co14, eo14, gb14, gl14, cl14, HG14⟩ := Kd.R_form HO_5.out (by omega)
          (first | cases eo14 | (injection eo14 with ea_ en_ ec_; (first | subst ea_ | (injection ea_ with ea_; subst ea_)); subst ec_; clear en_))
          have GB14 := am_ gb14
          have GG14 := am_ HG14
          clear gb14 gl14 HG14
          obtain ⟨hx14_0, hf14_0⟩ := Kd.R_celln false HO_5.out (x6_1 : Int) p14 q14
          replace p14 := eq_true p14
          replace q14 := eq_true q14
          have HP15 := Kd.R_putg HO_5.out (x6_1 : Int) false
          go_wp2_with (first | ((with_reducible refine gate_store (t := 4) (p := 39) rfl ?_); refine store_event (t := 4) (p := 39) (v := ?vo_w16) (w1 := (wr.setCell ⟨go14, (x6_1 : Int).toNat, none⟩ (.bool false))) ?hg ?ho ?hn ?hr ?_; (case ho => rfl); (case hg => rfl); (case hn => rfl); (case hr => first | (go_simp; done) | (go_simp; rfl)); intro w16 hw; have hg : wr.grownBy w16 (some go14) := (by rw [hw]; exact HP15.2); have hp_ : Kd.R Kd.bool 4 w16 w.heap.size (fun k_ => some k_ ≠ (v347 : Value).ownBlock) (.slice (some ⟨go14, 0, none⟩) x5_1.length co14) y353 := (by rw [hw, Ny353.out]; exact HP15.1); clear HP15; have n0_ := am_ (Kd.R_after (v := (.slice (some ⟨go14, 0, none⟩) x5_1.length co14)) (v1 := (.slice (some ⟨go14, 0, none⟩) x5_1.length co14)) (ok := (fun _ => True)) (by (with_reducible repeat (first | apply Kd.R_alloc | apply Kd.R_drewN | apply Kd.R_drew)); exact Kd.R_mono HO_3.out (fun _ hk => ⟨trivial, hk⟩)) hg (.inl rfl)); have n1_ := am_ (hp_); have n2_ := am_ ((by rw [hw]; exact below_set (HB.out) GB14.out : Below w.heap.size w w16)); clear HO_3; clear HO_5; clear HB; have HO_3 := n0_; have HO_5 := n1_; have HB := n2_; clear n0_ n1_ n2_; clear hg hw hp_))
          go_roundg k1
          case measure => have := HK1.out; omega
          case rel => exact ⟨(y353), (wrap64 (x6_1 + 1)), (by first | rfl | (simp; done) | (simp [*]; done)), H', ⟨by have := HK1.out; omega⟩, ⟨by (with_reducible repeat (first | apply Kd.R_alloc | apply Kd.R_drewN | apply Kd.R_drew)); exact Kd.R_mono HO_3.out (fun _ hk => hk.2)⟩, ⟨ro_ HO_5.out⟩, ⟨be_ HB.out⟩⟩
         ·rw [if_neg c13] at H
          exact absurd H (by simp)
        ·replace c12 := Bool.eq_false_iff.mpr c12
         subst c12
         have H1 : (if x6_1 < (t345.length : Int) then (if x6_1 < (x5_1.length : Int) then (heronryref15_open.l0 k1 l0 t345 true (x5_1.set (x6_1 : Int).toNat (!(rdOf false t345 x6_1))) (wrap64 (x6_1 + 1))) else (none)) else (none)) = some r := by rw [if_neg (show ¬ (false = true) by decide)] at H; exact H
         clear H
         have H := H1
         clear H1
         by_cases c17 : x6_1 < (t345.length : Int)
         ·rw [if_pos c17] at H
          have c17b0 : decide (x6_1 < (t345.length : Int)) = true := decide_eq_true c17
          clear c17
          by_cases c18 : x6_1 < (x5_1.length : Int)
          ·rw [if_pos c18] at H
           have c18b0 : decide (x6_1 < (x5_1.length : Int)) = true := decide_eq_true c18
           clear c18
           obtain ⟨y355, hy355⟩ : ∃ y_ : List Bool, y_ = (x5_1.set (x6_1 : Int).toNat (!(rdOf false t345 x6_1))) := ⟨_, rfl⟩
           replace H : (heronryref15_open.l0 k1 l0 t345 true y355 (wrap64 (x6_1 + 1))) = some r := by first | (rw [hy355]; with_reducible exact H) | (have H2_ := (Option.bind_some _ _).symm.trans H; rw [hy355]; with_reducible exact H2_) | (have H2_ := (Option.bind_some _ _).symm.trans H; with_reducible exact H2_) | with_reducible exact H | (rw [hy355]; exact H) | exact H
           have Ny355 := am_ hy355
           clear hy355
           have H' := am_ H
           clear H
           have p352 : 0 ≤ (x6_1 : Int) := of_decide_eq_true (by first | (with_reducible assumption) | assumption)
           have q352 : x6_1 < (l0.length : Int) := of_decide_eq_true (by first | (with_reducible assumption) | assumption)
           obtain ⟨ad352, e352, hx352_0, hx352_1, hx352_2, hx352_3⟩ := at_T83 HR0.out x6_1 p352 q352
           (try rw [← Nbq11.out] at hx352_3)
           cases e352
           replace hx352_0 := (HB.out.cell (World.block_lt_of_cell? w _ hx352_0)).trans hx352_0
           replace hx352_1 := (HB.out.cell (World.block_lt_of_cell? w _ hx352_1)).trans hx352_1
           replace hx352_2 := (HB.out.cell (World.block_lt_of_cell? w _ hx352_2)).trans hx352_2
           replace hx352_3 := (HB.out.cell (World.block_lt_of_cell? w _ hx352_3)).trans hx352_3
           replace p352 := eq_true p352
           replace q352 := eq_true q352
           obtain ⟨Ao20, co20, eo20⟩ := Kd.R_slice HO_3.out
           subst eo20
           have p354 : 0 ≤ (x6_1 : Int) := of_decide_eq_true (by first | (with_reducible assumption) | assumption)
           have q354 : x6_1 < (t345.length : Int) := of_decide_eq_true (by first | (with_reducible assumption) | assumption)
           obtain ⟨ad354, e354, hx354_0⟩ := Kd.at_bool (Kd.R_reads' HO_3.out).2.2 x6_1 p354 q354
           (try rw [← Nbq11.out] at hx354_0)
           cases e354
           replace p354 := eq_true p354
           replace q354 := eq_true q354
           have p19 : 0 ≤ (x6_1 : Int) := of_decide_eq_true (by first | (with_reducible assumption) | assumption)
           have q19 : (x6_1 : Int) < ((x5_1.length : Int) : Int) := of_decide_eq_true (by first | (with_reducible assumption) | assumption)
           obtain ⟨go19, co19, eo19, gb19, gl19, cl19, HG19⟩ := Kd.R_form HO_5.out (by omega)
           (first | cases eo19 | (injection eo19 with ea_ en_ ec_; (first | subst ea_ | (injection ea_ with ea_; subst ea_)); subst ec_; clear en_))
           have GB19 := am_ gb19
           have GG19 := am_ HG19
           clear gb19 gl19 HG19
           obtain ⟨hx19_0, hf19_0⟩ := Kd.R_celln false HO_5.out (x6_1 : Int) p19 q19
           replace p19 := eq_true p19
           replace q19 := eq_true q19
           have HP21 := Kd.R_putg HO_5.out (x6_1 : Int) (!(rdOf false t345 x6_1))
           go_wp2_with (first | ((with_reducible refine gate_store (t := 4) (p := 39) rfl ?_); refine store_event (t := 4) (p := 39) (v := ?vo_w22) (w1 := (wr.setCell ⟨go19, (x6_1 : Int).toNat, none⟩ (.bool (!(rdOf false t345 x6_1))))) ?hg ?ho ?hn ?hr ?_; (case ho => rfl); (case hg => rfl); (case hn => rfl); (case hr => first | (go_simp; done) | (go_simp; rfl)); intro w22 hw; have hg : wr.grownBy w22 (some go19) := (by rw [hw]; exact HP21.2); have hp_ : Kd.R Kd.bool 4 w22 w.heap.size (fun k_ => some k_ ≠ (.slice (some ad354) t345.length co20 : Value).ownBlock) (.slice (some ⟨go19, 0, none⟩) x5_1.length co19) y355 := (by rw [hw, Ny355.out]; exact HP21.1); clear HP21; have n0_ := am_ (Kd.R_after (v := (.slice (some ⟨go19, 0, none⟩) x5_1.length co19)) (v1 := (.slice (some ⟨go19, 0, none⟩) x5_1.length co19)) (ok := (fun _ => True)) (by (with_reducible repeat (first | apply Kd.R_alloc | apply Kd.R_drewN | apply Kd.R_drew)); exact Kd.R_mono HO_3.out (fun _ hk => ⟨trivial, hk⟩)) hg (.inl rfl)); have n1_ := am_ (hp_); have n2_ := am_ ((by rw [hw]; exact below_set (HB.out) GB19.out : Below w.heap.size w w22)); clear HO_3; clear HO_5; clear HB; have HO_3 := n0_; have HO_5 := n1_; have HB := n2_; clear n0_ n1_ n2_; clear hg hw hp_))
           go_roundg k1
           case measure => have := HK1.out; omega
           case rel => exact ⟨(y355), (wrap64 (x6_1 + 1)), (by first | rfl | (simp; done) | (simp [*]; done)), H', ⟨by have := HK1.out; omega⟩, ⟨by (with_reducible repeat (first | apply Kd.R_alloc | apply Kd.R_drewN | apply Kd.R_drew)); exact Kd.R_mono HO_3.out (fun _ hk => hk.2)⟩, ⟨ro_ HO_5.out⟩, ⟨be_ HB.out⟩⟩
          ·rw [if_neg c18] at H
           exact absurd H (by simp)
         ·rw [if_neg c17] at H
          exact absurd H (by simp)
       ·rw [if_neg c10] at H
        exact absurd H (by simp)
      ·replace c9 := Bool.eq_false_iff.mpr c9
       subst c9
       have H1 : (some x5_1) = some r := by rw [if_neg (show ¬ (false = true) by decide)] at H; exact H
       clear H
       have H := H1
       clear H1
       obtain rfl := Option.some.inj H
       go_wp2
       go_ret
       exact ⟨_, by first | rfl | (simp [errW_none, errW_some] <;> rfl) | (simp [*, errW_none, errW_some] <;> rfl), by (with_reducible repeat (first | apply Kd.R_alloc | apply Kd.R_drewN | apply Kd.R_drew)); exact Kd.R_mono HO_5.out (fun _ hk => trivial), be_ HB.out⟩
     ·rw [if_neg c8] at H
      have c8b0 : decide (x6_1 < (l0.length : Int)) = false := decide_eq_false c8
      clear c8
      obtain rfl := Option.some.inj H
      go_wp2
      go_ret
      exact ⟨_, by first | rfl | (simp [errW_none, errW_some] <;> rfl) | (simp [*, errW_none, errW_some] <;> rfl), by (with_reducible repeat (first | apply Kd.R_alloc | apply Kd.R_drewN | apply Kd.R_drew)); exact Kd.R_mono HO_5.out (fun _ hk => trivial), be_ HB.out⟩
  ·rw [if_neg c4] at H
   exact absurd H (by simp)
 ·rw [if_neg c3] at H
  exact absurd H (by simp)

end Go.Proofs.Ytjpoepiidmoegaa.Q
