-- Cut to what one claim reaches, out of what the kit's print laid for this seat (wip/tools/trim.py).
import Derived.Test.YtjpoepiidmoegaaQ0
import Derived.Test.YtjpoepiidmoegaaQ4
import Derived.Test.YtjpoepiidmoegaaQ5
import Derived.Test.YtjpoepiidmoegaaSP
import Derived.Test.YtjpoepiidmoegaaOE
import Derived.Test.YtjpoepiidmoegaaOU
import Derived.Test.YtjpoepiidmoegaaQS
namespace Go.Proofs.Ytjpoepiidmoegaa.Q
open Go.RowKit Go.Proofs.YtjpoepiidmoegaaW.PrintWords Go.Proofs.YtjpoepiidmoegaaW.PrintLast Go.Proofs.YtjpoepiidmoegaaW.PrintMore
attribute [local go_sem] max2_int min2_int max_two min_two max_three min_three max_four min_four   -- for this text's walks alone
set_option linter.unusedVariables false
set_option linter.unusedSimpArgs false

def oplist_Net.l0 : Nat → Int → List Int → List (S33) → Int → Int → Option (Int × Int)
 | 0, _, _, _, _, _ => none
 | k + 1, x1, x6, x10, x11, x12 => if x12 < x11 then (if 0 ≤ x12 then (if x12 < (x10.length : Int) then (if ((rd_T33 x10 x12).f1) = x1 then (if x6.length < 17592186044416 then (oplist_Net.l0 k x1 (x6 ++ [(rd_T33 x10 x12).f2]) x10 x11 (wrap64 (x12 + 1))) else (none)) else (oplist_Net.l0 k x1 x6 x10 x11 (wrap64 (x12 + 1)))) else (none)) else (none)) else ((span_Sum.f x6).bind fun bt260 => (some (bt260.1, bt260.2)))
def oplist_Net.f (k : Nat) (l0_0 : List (S33)) (a1 : Int) : Option (Int × Int) := oplist_Net.l0 k a1 ([] : List Int) l0_0 (l0_0.length : Int) 0
set_option maxHeartbeats 8000000 in
set_option maxRecDepth 100000 in
theorem oplist_Net.calls (k : Nat) (A0_0 : Option Addr) (c0_0 : Nat) (l0_0 : List (S33)) (a1 : Int) (r1 : Int) (r2 : Int) (w : World) (hr0_0 : Kd.C k33 w A0_0 l0_0.length l0_0) (hc0_0 : l0_0.length ≤ c0_0) (h : oplist_Net.f k l0_0 a1 = some (r1, r2)) :
  Calls Try.prog 16 #[.agg #[.slice A0_0 l0_0.length c0_0], .int .i64 a1] w fun e w' => e = .returned (.tuple #[.int .i64 r1, .int .i64 r2]) ∧ Below w.heap.size w w' := by
 have hu26 := Try.underlying26
 have hu33 := Try.underlying33
 have HR0_0 := am_ hr0_0
 have HC0_0 := am_ hc0_0
 clear hr0_0 hc0_0
 have HB := am_ (Below.refl w.heap.size w)
 have H : (oplist_Net.l0 k a1 ([] : List Int) l0_0 (l0_0.length : Int) 0) = some (r1, r2) := h
 clear h
 have H' := am_ H
 clear H
 go_enter Try.func16, Try.ntmps16
 go_wp2_with (first | ((with_reducible refine gate_dst (N := 2) rfl ?_); refine box_event ?hg (N := 2) ?hd (cs := #[.slice A0_0 l0_0.length c0_0]) (t := 26) ?hr ?_; (case hd => rfl); (case hg => rfl); (case hr => first | (go_simp; done) | (go_simp; rfl)); intro gb254 hg w3 hbox hb; have n0_ := am_ (below_step (be_ HB.out) hb); have n1_ := am_ (hbox); have n2_ := am_ ((by rw [hg]; exact (below_size (be_ HB.out)) : w.heap.size ≤ gb254)); have n3_ := am_ ((by rw [hg]; exact (below_size (be_ HB.out)) : w.heap.size ≤ gb254)); clear HB; have HB := n0_; have BK254 := n1_; have GW254 := n2_; have GE254 := n3_; clear n0_ n1_ n2_ n3_; clear hb hbox hg; have hcz4_0 : w3.cell? ⟨gb254, 0, none⟩ = some (.slice A0_0 l0_0.length c0_0) := (blk_cell BK254.out 0).trans rfl; have hfz4_0 := blk_frozen BK254.out 0))
 go_loopg [6, 12] k (fun kq v6 v12 w' => ∃ (x6_1 : List Int) (x12_1 : Int), v12 = .int .i64 x12_1 ∧ Aside0 (oplist_Net.l0 kq a1 x6_1 l0_0 (l0_0.length : Int) x12_1 = some (r1, r2)) ∧ Aside0 (kq ≤ k) ∧ Aside0 (Kd.R (Kd.int .i64) 3 w' w.heap.size (fun _ => True) v6 x6_1) ∧ Aside0 (w'.heap[gb254]? = some (.cells #[(.slice A0_0 l0_0.length c0_0)] 26 (0, 0))) ∧ Aside0 (Below w.heap.size w w'))
 case atStart => exact ⟨(([] : List Int)), (0), (by first | rfl | (simp; done) | (simp [*]; done)), H', ⟨Nat.le_refl _⟩, ⟨by first | exact Kd.R_nil _ _ _ _ _ | exact Kd.N_nil _ _ _ _ _ | exact Kd.V_nil _ _ _ _ _ | exact Kd.Q_nil _ _ _ _ _ | exact Kd.S_nil _ _ _ _ _⟩, ⟨bk_ BK254.out⟩, ⟨be_ HB.out⟩⟩
 case round =>
  clear H'
  try clear c1
  try clear p2
  try clear hcz4_0
  try clear hfz4_0
  obtain ⟨x6_1, x12_1, rfl, HA, HK1, HO_6, BK254, HB⟩ := hrel
  cases gk with
  | zero => exact absurd HA.out (by simp [oplist_Net.l0])
  | succ k1 =>
   have H := HA.out
   clear HA
   simp only [oplist_Net.l0] at H
   by_cases c5 : x12_1 < (l0_0.length : Int)
   ·rw [if_pos c5] at H
    have c5b0 : decide (x12_1 < (l0_0.length : Int)) = true := decide_eq_true c5
    clear c5
    by_cases c6 : 0 ≤ x12_1
    ·rw [if_pos c6] at H
     have c6b0 : decide (0 ≤ x12_1) = true := decide_eq_true c6
     clear c6
     by_cases c7 : x12_1 < (l0_0.length : Int)
     ·rw [if_pos c7] at H
      have c7b0 : decide (x12_1 < (l0_0.length : Int)) = true := decide_eq_true c7
      clear c7
      by_cases c8 : ((rd_T33 l0_0 x12_1).f1) = a1
      ·rw [if_pos c8] at H
       have c8b0 : (((rd_T33 l0_0 x12_1).f1) == a1) = true := beq_iff_eq.mpr c8
       have c8b1 : (((rd_T33 l0_0 x12_1).f1) != a1) = false := bne_eq_false_iff_eq.mpr c8
       clear c8
       by_cases c9 : x6_1.length < 17592186044416
       ·rw [if_pos c9] at H
        have LMc9 := am_ c9
        clear c9
        obtain ⟨y257, hy257⟩ : ∃ y_ : List Int, y_ = (x6_1 ++ [(rd_T33 l0_0 x12_1).f2]) := ⟨_, rfl⟩
        replace H : (oplist_Net.l0 k1 a1 y257 l0_0 (l0_0.length : Int) (wrap64 (x12_1 + 1))) = some (r1, r2) := by first | (rw [hy257]; with_reducible exact H) | (have H2_ := (Option.bind_some _ _).symm.trans H; rw [hy257]; with_reducible exact H2_) | (have H2_ := (Option.bind_some _ _).symm.trans H; with_reducible exact H2_) | with_reducible exact H | (rw [hy257]; exact H) | exact H
        have Ny257 := am_ hy257
        clear hy257
        have H' := am_ H
        clear H
        have p255 : 0 ≤ (x12_1 : Int) := of_decide_eq_true (by first | (with_reducible assumption) | assumption)
        have q255 : x12_1 < (l0_0.length : Int) := of_decide_eq_true (by first | (with_reducible assumption) | assumption)
        obtain ⟨ad255, e255, hx255_0, hx255_1, hx255_2, hx255_3⟩ := at_T33 HR0_0.out x12_1 p255 q255
        cases e255
        replace hx255_0 := (HB.out.cell (World.block_lt_of_cell? w _ hx255_0)).trans hx255_0
        replace hx255_1 := (HB.out.cell (World.block_lt_of_cell? w _ hx255_1)).trans hx255_1
        replace hx255_2 := (HB.out.cell (World.block_lt_of_cell? w _ hx255_2)).trans hx255_2
        replace hx255_3 := (HB.out.cell (World.block_lt_of_cell? w _ hx255_3)).trans hx255_3
        replace p255 := eq_true p255
        replace q255 := eq_true q255
        go_wp2_with (first | ((with_reducible refine gate_dst (N := 8) rfl ?_); refine box_event ?hg (N := 8) ?hd (cs := #[.int .i64 0, .int .i64 0, .int .i64 0, .bool false]) (t := 33) ?hr ?_; (case hd => rfl); (case hg => rfl); (case hr => first | (go_simp; done) | (go_simp; rfl)); intro gb256 hg w10 hbox hb; have n0_ := am_ (Kd.R_below (ro_ HO_6.out) hb); have n1_ := am_ (bb_ BK254.out hb); have n2_ := am_ (below_step (be_ HB.out) hb); have n3_ := am_ (hbox); have n4_ := am_ ((by rw [hg]; exact (below_size (be_ HB.out)) : w.heap.size ≤ gb256)); have n5_ := am_ ((by rw [hg]; exact (below_size (be_ HB.out)) : w.heap.size ≤ gb256)); have n6_ := am_ ((by rw [hg]; exact Nat.ne_of_lt (bl_ BK254.out) : gb254 ≠ gb256)); have n7_ := am_ ((by rw [hg]; exact Nat.ne_of_gt (bl_ BK254.out) : gb256 ≠ gb254)); clear HO_6; clear BK254; clear HB; have HO_6 := n0_; have BK254 := n1_; have HB := n2_; have BK256 := n3_; have GW256 := n4_; have GE256 := n5_; have NB254_256 := n6_; have NB256_254 := n7_; clear n0_ n1_ n2_ n3_ n4_ n5_ n6_ n7_; clear hb hbox hg; have hnb11 := NB256_254.out; have hnc11 := NB254_256.out; have hcz12_0 : w10.cell? ⟨gb256, 0, none⟩ = some (.int .i64 0) := (blk_cell BK256.out 0).trans rfl; have hcz12_1 : w10.cell? ⟨gb256, 1, none⟩ = some (.int .i64 0) := (blk_cell BK256.out 1).trans rfl; have hcz12_2 : w10.cell? ⟨gb256, 2, none⟩ = some (.int .i64 0) := (blk_cell BK256.out 2).trans rfl; have hcz12_3 : w10.cell? ⟨gb256, 3, none⟩ = some (.bool false) := (blk_cell BK256.out 3).trans rfl; have hfz12_0 := blk_frozen BK256.out 0; have hfz12_1 := blk_frozen BK256.out 1; have hfz12_2 := blk_frozen BK256.out 2; have hfz12_3 := blk_frozen BK256.out 3) | ((with_reducible refine gate_builtin (b := .append) (xs := #[.tmp 20, .tmp 23]) rfl ?_); at_builtin; refine Kd.R_append (Kd.int .i64) (w0 := w) w.heap.size rfl (.tmp 20) (.tmp 23) 35 3 (.int .i64 0) 8 rfl Try.underlying35 info3 rfl (by decide) (by omega) u6 x6_1 ((rd_T33 l0_0 x12_1).f2) [.int .i64 ((rd_T33 l0_0 x12_1).f2)] (fun _ => True) (fun _ => False) rfl (by first | (go_simp; done) | (go_simp; rfl)) ?aP (fun _ hk => hk.elim) ?aF ?aO ?aB ?aS ?aL ?_; (case aP => exact rfl); (case aB => exact (be_ HB.out)); (case aF => exact (fun _ _ => trivial)); (case aO => exact (by (with_reducible repeat (first | apply Kd.R_alloc | apply Kd.R_drewN | apply Kd.R_drew)); exact Kd.R_mono (Kd.R_far (p := ⟨gb256, 3, none⟩) (Kd.R_far (p := ⟨gb256, 2, none⟩) (Kd.R_far (p := ⟨gb256, 1, none⟩) (Kd.R_far (p := ⟨gb256, 0, none⟩) (Kd.R_types HO_6.out BK256.out (by decide)) (fun _ hk => hk.2) (.int .i64 ((rd_T33 l0_0 x12_1).f0))) (fun _ hk => hk.2) (.int .i64 ((rd_T33 l0_0 x12_1).f1))) (fun _ hk => hk.2) (.int .i64 ((rd_T33 l0_0 x12_1).f2))) (fun _ hk => hk.2) (.bool ((rd_T33 l0_0 x12_1).f3))) (fun _ hk => trivial))); (case aS => exact (below_size (be_ HB.out))); (case aL => have := LMc9.out; omega); intro v258 w13 ho hb hg hat; rw [← Ny257.out] at ho; have n0_ := am_ (blk_grown (g := gb254) (o := .cells #[.slice (some ad255) l0_0.length c0_0] 26 (0, 0)) (by (with_reducible repeat (first | refine blk_drewN ?_ _ | refine blk_drew ?_ | refine blk_alloc ?_ _)); refine blk_far ?_ NB254_256.out _; (with_reducible repeat (first | refine blk_drewN ?_ _ | refine blk_drew ?_ | refine blk_alloc ?_ _)); refine blk_far ?_ NB254_256.out _; (with_reducible repeat (first | refine blk_drewN ?_ _ | refine blk_drew ?_ | refine blk_alloc ?_ _)); refine blk_far ?_ NB254_256.out _; (with_reducible repeat (first | refine blk_drewN ?_ _ | refine blk_drew ?_ | refine blk_alloc ?_ _)); refine blk_far ?_ NB254_256.out _; (with_reducible repeat (first | refine blk_drewN ?_ _ | refine blk_drew ?_ | refine blk_alloc ?_ _)); exact BK254.out) hg (Kd.R_ne HO_6.out BK254.out (by decide))); have n1_ := am_ (blk_grown (g := gb256) (o := .cells #[.int .i64 ((rd_T33 l0_0 x12_1).f0), .int .i64 ((rd_T33 l0_0 x12_1).f1), .int .i64 ((rd_T33 l0_0 x12_1).f2), .bool ((rd_T33 l0_0 x12_1).f3)] 33 (0, 0)) (by (with_reducible repeat (first | refine blk_drewN ?_ _ | refine blk_drew ?_ | refine blk_alloc ?_ _)); refine blk_put (cs := #[.int .i64 ((rd_T33 l0_0 x12_1).f0), .int .i64 ((rd_T33 l0_0 x12_1).f1), .int .i64 ((rd_T33 l0_0 x12_1).f2), .bool false]) ?_ 3 _ rfl; (with_reducible repeat (first | refine blk_drewN ?_ _ | refine blk_drew ?_ | refine blk_alloc ?_ _)); refine blk_put (cs := #[.int .i64 ((rd_T33 l0_0 x12_1).f0), .int .i64 ((rd_T33 l0_0 x12_1).f1), .int .i64 0, .bool false]) ?_ 2 _ rfl; (with_reducible repeat (first | refine blk_drewN ?_ _ | refine blk_drew ?_ | refine blk_alloc ?_ _)); refine blk_put (cs := #[.int .i64 ((rd_T33 l0_0 x12_1).f0), .int .i64 0, .int .i64 0, .bool false]) ?_ 1 _ rfl; (with_reducible repeat (first | refine blk_drewN ?_ _ | refine blk_drew ?_ | refine blk_alloc ?_ _)); refine blk_put (cs := #[.int .i64 0, .int .i64 0, .int .i64 0, .bool false]) ?_ 0 _ rfl; (with_reducible repeat (first | refine blk_drewN ?_ _ | refine blk_drew ?_ | refine blk_alloc ?_ _)); exact BK256.out) hg (Kd.R_ne HO_6.out BK256.out (by decide))); have n2_ := am_ (hb); have n3_ := am_ (ho); clear BK254; clear BK256; clear HB; clear HO_6; have BK254 := n0_; have BK256 := n1_; have HB := n2_; have HO259 := n3_; clear n0_ n1_ n2_ n3_; clear ho hb hg hat))
        go_roundg k1
        case measure => have := HK1.out; omega
        case rel => exact ⟨(y257), (wrap64 (x12_1 + 1)), (by first | rfl | (simp; done) | (simp [*]; done)), H', ⟨by have := HK1.out; omega⟩, ⟨ro_ HO259.out⟩, ⟨bk_ BK254.out⟩, ⟨be_ HB.out⟩⟩
       ·rw [if_neg c9] at H
        exact absurd H (by simp)
      ·rw [if_neg c8] at H
       have c8b0 : (((rd_T33 l0_0 x12_1).f1) == a1) = false := beq_eq_false_iff_ne.mpr c8
       have c8b1 : (((rd_T33 l0_0 x12_1).f1) != a1) = true := bne_iff_ne.mpr c8
       have H' := am_ H
       clear H
       have p255 : 0 ≤ (x12_1 : Int) := of_decide_eq_true (by first | (with_reducible assumption) | assumption)
       have q255 : x12_1 < (l0_0.length : Int) := of_decide_eq_true (by first | (with_reducible assumption) | assumption)
       obtain ⟨ad255, e255, hx255_0, hx255_1, hx255_2, hx255_3⟩ := at_T33 HR0_0.out x12_1 p255 q255
       cases e255
       replace hx255_0 := (HB.out.cell (World.block_lt_of_cell? w _ hx255_0)).trans hx255_0
       replace hx255_1 := (HB.out.cell (World.block_lt_of_cell? w _ hx255_1)).trans hx255_1
       replace hx255_2 := (HB.out.cell (World.block_lt_of_cell? w _ hx255_2)).trans hx255_2
       replace hx255_3 := (HB.out.cell (World.block_lt_of_cell? w _ hx255_3)).trans hx255_3
       replace p255 := eq_true p255
       replace q255 := eq_true q255
       go_wp2_with (first | ((with_reducible refine gate_dst (N := 8) rfl ?_); refine box_event ?hg (N := 8) ?hd (cs := #[.int .i64 0, .int .i64 0, .int .i64 0, .bool false]) (t := 33) ?hr ?_; (case hd => rfl); (case hg => rfl); (case hr => first | (go_simp; done) | (go_simp; rfl)); intro gb256 hg w14 hbox hb; have n0_ := am_ (Kd.R_below (ro_ HO_6.out) hb); have n1_ := am_ (bb_ BK254.out hb); have n2_ := am_ (below_step (be_ HB.out) hb); have n3_ := am_ (hbox); have n4_ := am_ ((by rw [hg]; exact (below_size (be_ HB.out)) : w.heap.size ≤ gb256)); have n5_ := am_ ((by rw [hg]; exact (below_size (be_ HB.out)) : w.heap.size ≤ gb256)); have n6_ := am_ ((by rw [hg]; exact Nat.ne_of_lt (bl_ BK254.out) : gb254 ≠ gb256)); have n7_ := am_ ((by rw [hg]; exact Nat.ne_of_gt (bl_ BK254.out) : gb256 ≠ gb254)); clear HO_6; clear BK254; clear HB; have HO_6 := n0_; have BK254 := n1_; have HB := n2_; have BK256 := n3_; have GW256 := n4_; have GE256 := n5_; have NB254_256 := n6_; have NB256_254 := n7_; clear n0_ n1_ n2_ n3_ n4_ n5_ n6_ n7_; clear hb hbox hg; have hnb15 := NB256_254.out; have hnc15 := NB254_256.out; have hcz16_0 : w14.cell? ⟨gb256, 0, none⟩ = some (.int .i64 0) := (blk_cell BK256.out 0).trans rfl; have hcz16_1 : w14.cell? ⟨gb256, 1, none⟩ = some (.int .i64 0) := (blk_cell BK256.out 1).trans rfl; have hcz16_2 : w14.cell? ⟨gb256, 2, none⟩ = some (.int .i64 0) := (blk_cell BK256.out 2).trans rfl; have hcz16_3 : w14.cell? ⟨gb256, 3, none⟩ = some (.bool false) := (blk_cell BK256.out 3).trans rfl; have hfz16_0 := blk_frozen BK256.out 0; have hfz16_1 := blk_frozen BK256.out 1; have hfz16_2 := blk_frozen BK256.out 2; have hfz16_3 := blk_frozen BK256.out 3))
       go_roundg k1
       case measure => have := HK1.out; omega
       case rel => exact ⟨(x6_1), (wrap64 (x12_1 + 1)), (by first | rfl | (simp; done) | (simp [*]; done)), H', ⟨by have := HK1.out; omega⟩, ⟨by (with_reducible repeat (first | apply Kd.R_alloc | apply Kd.R_drewN | apply Kd.R_drew)); exact Kd.R_mono (Kd.R_far (p := ⟨gb256, 3, none⟩) (Kd.R_far (p := ⟨gb256, 2, none⟩) (Kd.R_far (p := ⟨gb256, 1, none⟩) (Kd.R_far (p := ⟨gb256, 0, none⟩) (Kd.R_types HO_6.out BK256.out (by decide)) (fun _ hk => hk.2) (.int .i64 ((rd_T33 l0_0 x12_1).f0))) (fun _ hk => hk.2) (.int .i64 ((rd_T33 l0_0 x12_1).f1))) (fun _ hk => hk.2) (.int .i64 ((rd_T33 l0_0 x12_1).f2))) (fun _ hk => hk.2) (.bool ((rd_T33 l0_0 x12_1).f3))) (fun _ hk => trivial)⟩, ⟨by (with_reducible repeat (first | refine blk_drewN ?_ _ | refine blk_drew ?_ | refine blk_alloc ?_ _)); refine blk_far ?_ NB254_256.out _; (with_reducible repeat (first | refine blk_drewN ?_ _ | refine blk_drew ?_ | refine blk_alloc ?_ _)); refine blk_far ?_ NB254_256.out _; (with_reducible repeat (first | refine blk_drewN ?_ _ | refine blk_drew ?_ | refine blk_alloc ?_ _)); refine blk_far ?_ NB254_256.out _; (with_reducible repeat (first | refine blk_drewN ?_ _ | refine blk_drew ?_ | refine blk_alloc ?_ _)); refine blk_far ?_ NB254_256.out _; (with_reducible repeat (first | refine blk_drewN ?_ _ | refine blk_drew ?_ | refine blk_alloc ?_ _)); exact BK254.out⟩, ⟨be_ HB.out⟩⟩
     ·rw [if_neg c7] at H
      exact absurd H (by simp)
    ·rw [if_neg c6] at H
     exact absurd H (by simp)
   ·rw [if_neg c5] at H
    have c5b0 : decide (x12_1 < (l0_0.length : Int)) = false := decide_eq_false c5
    clear c5
    replace H := Option.bind_eq_some_iff.mp H
    obtain ⟨⟨t260, t261⟩, A170, H⟩ := H
    replace H : (some (t260, t261)) = some (r1, r2) := H
    have A17 := am_ A170
    clear A170
    simp only [Option.some.injEq, Prod.mk.injEq] at H
    obtain ⟨rfl, rfl⟩ := H
    obtain ⟨Ao18, co18, eo18⟩ := Kd.R_slice HO_6.out
    subst eo18
    go_wp2_with (first | ((with_reducible refine gate_callee (f := 17) rfl ?_); refine goesL_ (some 27) rfl rfl Try.func17 (by kernel_rfl) rfl #[.slice Ao18 x6_1.length co18] rfl ma_ ?_; (with_reducible refine (span_Sum.calls _ _ x6_1 t260 t261 _ ?side1 ?side2 A17.out).mono ?_); (case side1 => repeat (first | exact (Kd.R_reads' HO_6.out).2.2 | (with_reducible refine Kd.C_alloc ?_ _) | (with_reducible refine Kd.C_drewN ?_ _) | (with_reducible refine Kd.C_drew ?_))); (case side2 => exact (Kd.R_reads' HO_6.out).2.1); rintro e w19 ⟨rfl, hb⟩; refine ⟨_, rfl, ?_⟩; have n0_ := am_ (Kd.R_below (ro_ HO_6.out) hb); have n1_ := am_ (bb_ BK254.out hb); have n2_ := am_ (below_step (be_ HB.out) hb); clear HO_6; clear BK254; clear HB; have HO_6 := n0_; have BK254 := n1_; have HB := n2_; clear n0_ n1_ n2_; (try clear hb); (try clear hb2); (try clear hk); (try clear hi)))
    go_ret2
    exact ⟨by first | rfl | (simp [errW_none, errW_some] <;> rfl) | (simp [*, errW_none, errW_some] <;> rfl), be_ HB.out⟩

end Go.Proofs.Ytjpoepiidmoegaa.Q
