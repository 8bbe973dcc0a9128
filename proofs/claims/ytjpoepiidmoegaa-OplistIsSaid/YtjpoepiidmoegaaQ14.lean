-- Cut to what one claim reaches, out of what the kit's print laid for this seat (wip/tools/trim.py).
import Derived.Test.YtjpoepiidmoegaaQ0
import Derived.Test.YtjpoepiidmoegaaQS
namespace Go.Proofs.Ytjpoepiidmoegaa.Q
open Go.RowKit Go.Proofs.YtjpoepiidmoegaaW.PrintWords Go.Proofs.YtjpoepiidmoegaaW.PrintLast Go.Proofs.YtjpoepiidmoegaaW.PrintMore
attribute [local go_sem] max2_int min2_int max_two min_two max_three min_three max_four min_four   -- for this text's walks alone
set_option linter.unusedVariables false
set_option linter.unusedSimpArgs false

def heronrylaw15_ours.l0 : Nat → Int → List (S83) → List (S33) → Option ((List (S33)))
 | 0, _, _, _ => none
 | k + 1, x4, x323000, x325000 => if x4 < (x323000.length : Int) then (if 0 ≤ x4 then (if x325000.length < 4398046511104 then (heronrylaw15_ours.l0 k (wrap64 (x4 + 1)) x323000 (x325000 ++ [(⟨(rd_T83 x323000 x4).f0, (rd_T83 x323000 x4).f1, (rd_T83 x323000 x4).f2, (rd_T83 x323000 x4).f3⟩ : S33)])) else (none)) else (none)) else (some x325000)
def heronrylaw15_ours.f (k : Nat) (l0_0 : List (S83)) : Option ((List (S33))) := heronrylaw15_ours.l0 k 0 l0_0 ([] : List (S33))
set_option maxHeartbeats 8000000 in
set_option maxRecDepth 100000 in
theorem heronrylaw15_ours.calls (k : Nat) (A0_0 : Option Addr) (c0_0 : Nat) (l0_0 : List (S83)) (r : List (S33)) (w : World) (hr0_0 : Kd.C k83 w A0_0 l0_0.length l0_0) (hc0_0 : l0_0.length ≤ c0_0) (h : heronrylaw15_ours.f k l0_0 = some r) :
  Calls Try.prog 21 #[.agg #[.slice A0_0 l0_0.length c0_0]] w fun e w' => ∃ v0_ : Value, e = .returned (.agg #[v0_]) ∧ Kd.R k33 33 w' w.heap.size (fun _ => True) v0_ r ∧ Below w.heap.size w w' := by
 have hu58 := Try.underlying58
 have hu26 := Try.underlying26
 have hu83 := Try.underlying83
 have hu33 := Try.underlying33
 have HR0_0 := am_ hr0_0
 have HC0_0 := am_ hc0_0
 clear hr0_0 hc0_0
 have HB := am_ (Below.refl w.heap.size w)
 have H : (heronrylaw15_ours.l0 k 0 l0_0 ([] : List (S33))) = some r := h
 clear h
 have H' := am_ H
 clear H
 go_enter Try.func21, Try.ntmps21
 go_wp2_with (first | ((with_reducible refine gate_dst (N := 1) rfl ?_); refine box_event ?hg (N := 1) ?hd (cs := #[.slice A0_0 l0_0.length c0_0]) (t := 58) ?hr ?_; (case hd => rfl); (case hg => rfl); (case hr => first | (go_simp; done) | (go_simp; rfl)); intro gb322 hg w2 hbox hb; have n0_ := am_ (below_step (be_ HB.out) hb); have n1_ := am_ (hbox); have n2_ := am_ ((by rw [hg]; exact (below_size (be_ HB.out)) : w.heap.size ≤ gb322)); have n3_ := am_ ((by rw [hg]; exact (below_size (be_ HB.out)) : w.heap.size ≤ gb322)); clear HB; have HB := n0_; have BK322 := n1_; have GW322 := n2_; have GE322 := n3_; clear n0_ n1_ n2_ n3_; clear hb hbox hg) | ((with_reducible refine gate_dst (N := 2) rfl ?_); refine box_event ?hg (N := 2) ?hd (cs := #[.slice none 0 0]) (t := 26) ?hr ?_; (case hd => rfl); (case hg => rfl); (case hr => first | (go_simp; done) | (go_simp; rfl)); intro gb323 hg w3 hbox hb; have n0_ := am_ (bb_ BK322.out hb); have n1_ := am_ (below_step (be_ HB.out) hb); have n2_ := am_ (hbox); have n3_ := am_ ((by rw [hg]; exact (below_size (be_ HB.out)) : w.heap.size ≤ gb323)); have n4_ := am_ ((by rw [hg]; exact (below_size (be_ HB.out)) : w.heap.size ≤ gb323)); have n5_ := am_ ((by rw [hg]; exact Nat.ne_of_lt (bl_ BK322.out) : gb322 ≠ gb323)); have n6_ := am_ ((by rw [hg]; exact Nat.ne_of_gt (bl_ BK322.out) : gb323 ≠ gb322)); clear BK322; clear HB; have BK322 := n0_; have HB := n1_; have BK323 := n2_; have GW323 := n3_; have GE323 := n4_; have NB322_323 := n5_; have NB323_322 := n6_; clear n0_ n1_ n2_ n3_ n4_ n5_ n6_; clear hb hbox hg) | ((with_reducible refine gate_dst (N := 3) rfl ?_); refine box_event ?hg (N := 3) ?hd (cs := #[.slice none 0 0]) (t := 26) ?hr ?_; (case hd => rfl); (case hg => rfl); (case hr => first | (go_simp; done) | (go_simp; rfl)); intro gb324 hg w4 hbox hb; have n0_ := am_ (bb_ BK322.out hb); have n1_ := am_ (bb_ BK323.out hb); have n2_ := am_ (below_step (be_ HB.out) hb); have n3_ := am_ (hbox); have n4_ := am_ ((by rw [hg]; exact (below_size (be_ HB.out)) : w.heap.size ≤ gb324)); have n5_ := am_ ((by rw [hg]; exact (below_size (be_ HB.out)) : w.heap.size ≤ gb324)); have n6_ := am_ ((by rw [hg]; exact Nat.ne_of_lt (bl_ BK322.out) : gb322 ≠ gb324)); have n7_ := am_ ((by rw [hg]; exact Nat.ne_of_gt (bl_ BK322.out) : gb324 ≠ gb322)); have n8_ := am_ ((by rw [hg]; exact Nat.ne_of_lt (bl_ BK323.out) : gb323 ≠ gb324)); have n9_ := am_ ((by rw [hg]; exact Nat.ne_of_gt (bl_ BK323.out) : gb324 ≠ gb323)); clear BK322; clear BK323; clear HB; have BK322 := n0_; have BK323 := n1_; have HB := n2_; have BK324 := n3_; have GW324 := n4_; have GE324 := n5_; have NB322_324 := n6_; have NB324_322 := n7_; have NB323_324 := n8_; have NB324_323 := n9_; clear n0_ n1_ n2_ n3_ n4_ n5_ n6_ n7_ n8_ n9_; clear hb hbox hg; have hnb5 := NB324_322.out; have hnc5 := NB322_324.out; have hnb6 := NB324_323.out; have hnc6 := NB323_324.out; have hcz7_0 : w4.cell? ⟨gb324, 0, none⟩ = some (.slice none 0 0) := (blk_cell BK324.out 0).trans rfl; have hfz7_0 := blk_frozen BK324.out 0))
 go_loopg [4] k (fun kq v4 w' => ∃ (x4_1 : Int) (x325000_1 : List (S33)) (u325000 : Value), v4 = .int .i64 x4_1 ∧ Aside0 (heronrylaw15_ours.l0 kq x4_1 l0_0 x325000_1 = some r) ∧ Aside0 (kq ≤ k) ∧ Aside0 (Kd.R k33 33 w' w.heap.size (fun _ => True) u325000 x325000_1) ∧ Aside0 (w'.heap[gb322]? = some (.cells #[(.slice A0_0 l0_0.length c0_0)] 58 (0, 0))) ∧ Aside0 (w'.heap[gb323]? = some (.cells #[(.slice none 0 0)] 26 (0, 0))) ∧ Aside0 (w'.heap[gb324]? = some (.cells #[u325000] 26 (0, 0))) ∧ Aside0 (Below w.heap.size w w'))
 case atStart => exact ⟨(0), (([] : List (S33))), (.slice none 0 0), (by first | rfl | (simp; done) | (simp [*]; done)), H', ⟨Nat.le_refl _⟩, ⟨by first | exact Kd.R_nil _ _ _ _ _ | exact Kd.N_nil _ _ _ _ _ | exact Kd.V_nil _ _ _ _ _ | exact Kd.Q_nil _ _ _ _ _ | exact Kd.S_nil _ _ _ _ _⟩, ⟨by (with_reducible repeat (first | refine blk_drewN ?_ _ | refine blk_drew ?_ | refine blk_alloc ?_ _)); refine blk_far ?_ NB322_324.out _; (with_reducible repeat (first | refine blk_drewN ?_ _ | refine blk_drew ?_ | refine blk_alloc ?_ _)); exact BK322.out⟩, ⟨by (with_reducible repeat (first | refine blk_drewN ?_ _ | refine blk_drew ?_ | refine blk_alloc ?_ _)); refine blk_far ?_ NB323_324.out _; (with_reducible repeat (first | refine blk_drewN ?_ _ | refine blk_drew ?_ | refine blk_alloc ?_ _)); exact BK323.out⟩, ⟨by (with_reducible repeat (first | refine blk_drewN ?_ _ | refine blk_drew ?_ | refine blk_alloc ?_ _)); refine blk_put (cs := #[.slice none 0 0]) ?_ 0 _ rfl; (with_reducible repeat (first | refine blk_drewN ?_ _ | refine blk_drew ?_ | refine blk_alloc ?_ _)); exact BK324.out⟩, ⟨be_ HB.out⟩⟩
 case round =>
  clear H'
  try clear c2
  try clear p2
  try clear c5
  try clear c6
  try clear hcz7_0
  try clear hfz7_0
  obtain ⟨x4_1, x325000_1, u325000, rfl, HA, HK1, HO_325000, BK322, BK323, BK324, HB⟩ := hrel
  cases gk with
  | zero => exact absurd HA.out (by simp [heronrylaw15_ours.l0])
  | succ k1 =>
   have H := HA.out
   clear HA
   simp only [heronrylaw15_ours.l0] at H
   by_cases c8 : x4_1 < (l0_0.length : Int)
   ·rw [if_pos c8] at H
    have c8b0 : decide (x4_1 < (l0_0.length : Int)) = true := decide_eq_true c8
    clear c8
    by_cases c9 : 0 ≤ x4_1
    ·rw [if_pos c9] at H
     have c9b0 : decide (0 ≤ x4_1) = true := decide_eq_true c9
     clear c9
     by_cases c10 : x325000_1.length < 4398046511104
     ·rw [if_pos c10] at H
      have LMc10 := am_ c10
      clear c10
      obtain ⟨y327, hy327⟩ : ∃ y_ : List (S33), y_ = (x325000_1 ++ [(⟨(rd_T83 l0_0 x4_1).f0, (rd_T83 l0_0 x4_1).f1, (rd_T83 l0_0 x4_1).f2, (rd_T83 l0_0 x4_1).f3⟩ : S33)]) := ⟨_, rfl⟩
      replace H : (heronrylaw15_ours.l0 k1 (wrap64 (x4_1 + 1)) l0_0 y327) = some r := by first | (rw [hy327]; with_reducible exact H) | (have H2_ := (Option.bind_some _ _).symm.trans H; rw [hy327]; with_reducible exact H2_) | (have H2_ := (Option.bind_some _ _).symm.trans H; with_reducible exact H2_) | with_reducible exact H | (rw [hy327]; exact H) | exact H
      have Ny327 := am_ hy327
      clear hy327
      have H' := am_ H
      clear H
      have hnb11 := NB322_323.out
      have hnc11 := NB323_322.out
      have hnb12 := NB322_324.out
      have hnc12 := NB324_322.out
      have hcz13_0 : wr.cell? ⟨gb322, 0, none⟩ = some (.slice A0_0 l0_0.length c0_0) := (blk_cell BK322.out 0).trans rfl
      have hfz13_0 := blk_frozen BK322.out 0
      have p325 : 0 ≤ (x4_1 : Int) := of_decide_eq_true (by first | (with_reducible assumption) | assumption)
      have q325 : x4_1 < (l0_0.length : Int) := of_decide_eq_true (by first | (with_reducible assumption) | assumption)
      obtain ⟨ad325, e325, hx325_0, hx325_1, hx325_2, hx325_3⟩ := at_T83 HR0_0.out x4_1 p325 q325
      cases e325
      replace hx325_0 := (HB.out.cell (World.block_lt_of_cell? w _ hx325_0)).trans hx325_0
      replace hx325_1 := (HB.out.cell (World.block_lt_of_cell? w _ hx325_1)).trans hx325_1
      replace hx325_2 := (HB.out.cell (World.block_lt_of_cell? w _ hx325_2)).trans hx325_2
      replace hx325_3 := (HB.out.cell (World.block_lt_of_cell? w _ hx325_3)).trans hx325_3
      replace p325 := eq_true p325
      replace q325 := eq_true q325
      go_wp2_with (first | ((with_reducible refine gate_dst (N := 5) rfl ?_); refine box_event ?hg (N := 5) ?hd (cs := #[.int .i64 0, .int .i64 0, .int .i64 0, .bool false]) (t := 83) ?hr ?_; (case hd => rfl); (case hg => rfl); (case hr => first | (go_simp; done) | (go_simp; rfl)); intro gb326 hg w14 hbox hb; have n0_ := am_ (Kd.R_below (ro_ HO_325000.out) hb); have n1_ := am_ (bb_ BK322.out hb); have n2_ := am_ (bb_ BK323.out hb); have n3_ := am_ (bb_ BK324.out hb); have n4_ := am_ (below_step (be_ HB.out) hb); have n5_ := am_ (hbox); have n6_ := am_ ((by rw [hg]; exact (below_size (be_ HB.out)) : w.heap.size ≤ gb326)); have n7_ := am_ ((by rw [hg]; exact (below_size (be_ HB.out)) : w.heap.size ≤ gb326)); have n8_ := am_ ((by rw [hg]; exact Nat.ne_of_lt (bl_ BK322.out) : gb322 ≠ gb326)); have n9_ := am_ ((by rw [hg]; exact Nat.ne_of_gt (bl_ BK322.out) : gb326 ≠ gb322)); have n10_ := am_ ((by rw [hg]; exact Nat.ne_of_lt (bl_ BK323.out) : gb323 ≠ gb326)); have n11_ := am_ ((by rw [hg]; exact Nat.ne_of_gt (bl_ BK323.out) : gb326 ≠ gb323)); have n12_ := am_ ((by rw [hg]; exact Nat.ne_of_lt (bl_ BK324.out) : gb324 ≠ gb326)); have n13_ := am_ ((by rw [hg]; exact Nat.ne_of_gt (bl_ BK324.out) : gb326 ≠ gb324)); clear HO_325000; clear BK322; clear BK323; clear BK324; clear HB; have HO_325000 := n0_; have BK322 := n1_; have BK323 := n2_; have BK324 := n3_; have HB := n4_; have BK326 := n5_; have GW326 := n6_; have GE326 := n7_; have NB322_326 := n8_; have NB326_322 := n9_; have NB323_326 := n10_; have NB326_323 := n11_; have NB324_326 := n12_; have NB326_324 := n13_; clear n0_ n1_ n2_ n3_ n4_ n5_ n6_ n7_ n8_ n9_ n10_ n11_ n12_ n13_; clear hb hbox hg; have hnb15 := NB326_322.out; have hnc15 := NB322_326.out; have hnb16 := NB326_323.out; have hnc16 := NB323_326.out; have hnb17 := NB326_324.out; have hnc17 := NB324_326.out; have hcz18_0 : w14.cell? ⟨gb326, 0, none⟩ = some (.int .i64 0) := (blk_cell BK326.out 0).trans rfl; have hcz18_1 : w14.cell? ⟨gb326, 1, none⟩ = some (.int .i64 0) := (blk_cell BK326.out 1).trans rfl; have hcz18_2 : w14.cell? ⟨gb326, 2, none⟩ = some (.int .i64 0) := (blk_cell BK326.out 2).trans rfl; have hcz18_3 : w14.cell? ⟨gb326, 3, none⟩ = some (.bool false) := (blk_cell BK326.out 3).trans rfl; have hfz18_0 := blk_frozen BK326.out 0; have hfz18_1 := blk_frozen BK326.out 1; have hfz18_2 := blk_frozen BK326.out 2; have hfz18_3 := blk_frozen BK326.out 3; have hnb19 := NB324_323.out; have hnc19 := NB323_324.out; have hcz20_0 : w14.cell? ⟨gb324, 0, none⟩ = some (u325000) := (blk_cell BK324.out 0).trans rfl; have hfz20_0 := blk_frozen BK324.out 0) | ((with_reducible refine gate_builtin (b := .append) (xs := #[.tmp 20, .tmp 30]) rfl ?_); at_builtin; refine Kd.R_append k33 (w0 := w) w.heap.size rfl (.tmp 20) (.tmp 30) 24 33 (.agg #[(.int .i64 0), (.int .i64 0), (.int .i64 0), (.bool false)]) 32 rfl Try.underlying24 info33 rfl (by decide) (by omega) u325000 x325000_1 (⟨(rd_T83 l0_0 x4_1).f0, (rd_T83 l0_0 x4_1).f1, (rd_T83 l0_0 x4_1).f2, (rd_T83 l0_0 x4_1).f3⟩ : S33) [.int .i64 ((rd_T83 l0_0 x4_1).f0), .int .i64 ((rd_T83 l0_0 x4_1).f1), .int .i64 ((rd_T83 l0_0 x4_1).f2), .bool ((rd_T83 l0_0 x4_1).f3)] (fun _ => True) (fun _ => False) rfl (by first | (go_simp; done) | (go_simp; rfl)) ?aP (fun _ hk => hk.elim) ?aF ?aO ?aB ?aS ?aL ?_; (case aP => exact k33_mkM _ _ _ (⟨(rd_T83 l0_0 x4_1).f0, (rd_T83 l0_0 x4_1).f1, (rd_T83 l0_0 x4_1).f2, (rd_T83 l0_0 x4_1).f3⟩ : S33)); (case aB => exact (be_ HB.out)); (case aF => exact (fun _ _ => trivial)); (case aO => exact (by (with_reducible repeat (first | apply Kd.R_alloc | apply Kd.R_drewN | apply Kd.R_drew)); exact Kd.R_mono (Kd.R_far (p := ⟨gb326, 3, none⟩) (Kd.R_far (p := ⟨gb326, 2, none⟩) (Kd.R_far (p := ⟨gb326, 1, none⟩) (Kd.R_far (p := ⟨gb326, 0, none⟩) (Kd.R_types HO_325000.out BK326.out (by decide)) (fun _ hk => hk.2) (.int .i64 ((rd_T83 l0_0 x4_1).f0))) (fun _ hk => hk.2) (.int .i64 ((rd_T83 l0_0 x4_1).f1))) (fun _ hk => hk.2) (.int .i64 ((rd_T83 l0_0 x4_1).f2))) (fun _ hk => hk.2) (.bool ((rd_T83 l0_0 x4_1).f3))) (fun _ hk => trivial))); (case aS => exact (below_size (be_ HB.out))); (case aL => have := LMc10.out; omega); intro v328 w21 ho hb hg hat; rw [← Ny327.out] at ho; have n0_ := am_ (blk_grown (g := gb322) (o := .cells #[.slice (some ad325) l0_0.length c0_0] 58 (0, 0)) (by (with_reducible repeat (first | refine blk_drewN ?_ _ | refine blk_drew ?_ | refine blk_alloc ?_ _)); refine blk_far ?_ NB322_326.out _; (with_reducible repeat (first | refine blk_drewN ?_ _ | refine blk_drew ?_ | refine blk_alloc ?_ _)); refine blk_far ?_ NB322_326.out _; (with_reducible repeat (first | refine blk_drewN ?_ _ | refine blk_drew ?_ | refine blk_alloc ?_ _)); refine blk_far ?_ NB322_326.out _; (with_reducible repeat (first | refine blk_drewN ?_ _ | refine blk_drew ?_ | refine blk_alloc ?_ _)); refine blk_far ?_ NB322_326.out _; (with_reducible repeat (first | refine blk_drewN ?_ _ | refine blk_drew ?_ | refine blk_alloc ?_ _)); exact BK322.out) hg (Kd.R_ne HO_325000.out BK322.out (by decide))); have n1_ := am_ (blk_grown (g := gb323) (o := .cells #[.slice none 0 0] 26 (0, 0)) (by (with_reducible repeat (first | refine blk_drewN ?_ _ | refine blk_drew ?_ | refine blk_alloc ?_ _)); refine blk_far ?_ NB323_326.out _; (with_reducible repeat (first | refine blk_drewN ?_ _ | refine blk_drew ?_ | refine blk_alloc ?_ _)); refine blk_far ?_ NB323_326.out _; (with_reducible repeat (first | refine blk_drewN ?_ _ | refine blk_drew ?_ | refine blk_alloc ?_ _)); refine blk_far ?_ NB323_326.out _; (with_reducible repeat (first | refine blk_drewN ?_ _ | refine blk_drew ?_ | refine blk_alloc ?_ _)); refine blk_far ?_ NB323_326.out _; (with_reducible repeat (first | refine blk_drewN ?_ _ | refine blk_drew ?_ | refine blk_alloc ?_ _)); exact BK323.out) hg (Kd.R_ne HO_325000.out BK323.out (by decide))); have n2_ := am_ (blk_grown (g := gb324) (o := .cells #[u325000] 26 (0, 0)) (by (with_reducible repeat (first | refine blk_drewN ?_ _ | refine blk_drew ?_ | refine blk_alloc ?_ _)); refine blk_far ?_ NB324_326.out _; (with_reducible repeat (first | refine blk_drewN ?_ _ | refine blk_drew ?_ | refine blk_alloc ?_ _)); refine blk_far ?_ NB324_326.out _; (with_reducible repeat (first | refine blk_drewN ?_ _ | refine blk_drew ?_ | refine blk_alloc ?_ _)); refine blk_far ?_ NB324_326.out _; (with_reducible repeat (first | refine blk_drewN ?_ _ | refine blk_drew ?_ | refine blk_alloc ?_ _)); refine blk_far ?_ NB324_326.out _; (with_reducible repeat (first | refine blk_drewN ?_ _ | refine blk_drew ?_ | refine blk_alloc ?_ _)); exact BK324.out) hg (Kd.R_ne HO_325000.out BK324.out (by decide))); have n3_ := am_ (blk_grown (g := gb326) (o := .cells #[.int .i64 ((rd_T83 l0_0 x4_1).f0), .int .i64 ((rd_T83 l0_0 x4_1).f1), .int .i64 ((rd_T83 l0_0 x4_1).f2), .bool ((rd_T83 l0_0 x4_1).f3)] 83 (0, 0)) (by (with_reducible repeat (first | refine blk_drewN ?_ _ | refine blk_drew ?_ | refine blk_alloc ?_ _)); refine blk_put (cs := #[.int .i64 ((rd_T83 l0_0 x4_1).f0), .int .i64 ((rd_T83 l0_0 x4_1).f1), .int .i64 ((rd_T83 l0_0 x4_1).f2), .bool false]) ?_ 3 _ rfl; (with_reducible repeat (first | refine blk_drewN ?_ _ | refine blk_drew ?_ | refine blk_alloc ?_ _)); refine blk_put (cs := #[.int .i64 ((rd_T83 l0_0 x4_1).f0), .int .i64 ((rd_T83 l0_0 x4_1).f1), .int .i64 0, .bool false]) ?_ 2 _ rfl; (with_reducible repeat (first | refine blk_drewN ?_ _ | refine blk_drew ?_ | refine blk_alloc ?_ _)); refine blk_put (cs := #[.int .i64 ((rd_T83 l0_0 x4_1).f0), .int .i64 0, .int .i64 0, .bool false]) ?_ 1 _ rfl; (with_reducible repeat (first | refine blk_drewN ?_ _ | refine blk_drew ?_ | refine blk_alloc ?_ _)); refine blk_put (cs := #[.int .i64 0, .int .i64 0, .int .i64 0, .bool false]) ?_ 0 _ rfl; (with_reducible repeat (first | refine blk_drewN ?_ _ | refine blk_drew ?_ | refine blk_alloc ?_ _)); exact BK326.out) hg (Kd.R_ne HO_325000.out BK326.out (by decide))); have n4_ := am_ (hb); have n5_ := am_ (ho); clear BK322; clear BK323; clear BK324; clear BK326; clear HB; clear HO_325000; have BK322 := n0_; have BK323 := n1_; have BK324 := n2_; have BK326 := n3_; have HB := n4_; have HO329 := n5_; clear n0_ n1_ n2_ n3_ n4_ n5_; clear ho hb hg hat; obtain ⟨Ao22, co22, eo22⟩ := Kd.R_slice HO329.out; subst eo22; have hcz23_0 : w21.cell? ⟨gb324, 0, none⟩ = some (u325000) := (blk_cell BK324.out 0).trans rfl; have hfz23_0 := blk_frozen BK324.out 0))
      go_roundg k1
      case measure => have := HK1.out; omega
      case rel => exact ⟨(wrap64 (x4_1 + 1)), (y327), (.slice Ao22 y327.length co22), (by first | rfl | (simp; done) | (simp [*]; done)), H', ⟨by have := HK1.out; omega⟩, ⟨by (with_reducible repeat (first | apply Kd.R_alloc | apply Kd.R_drewN | apply Kd.R_drew)); exact Kd.R_mono (Kd.R_far (p := ⟨gb324, 0, none⟩) (Kd.R_types HO329.out BK324.out (by decide)) (fun _ hk => hk.2) (.slice Ao22 y327.length co22)) (fun _ hk => trivial)⟩, ⟨by (with_reducible repeat (first | refine blk_drewN ?_ _ | refine blk_drew ?_ | refine blk_alloc ?_ _)); refine blk_far ?_ NB322_324.out _; (with_reducible repeat (first | refine blk_drewN ?_ _ | refine blk_drew ?_ | refine blk_alloc ?_ _)); exact BK322.out⟩, ⟨by (with_reducible repeat (first | refine blk_drewN ?_ _ | refine blk_drew ?_ | refine blk_alloc ?_ _)); refine blk_far ?_ NB323_324.out _; (with_reducible repeat (first | refine blk_drewN ?_ _ | refine blk_drew ?_ | refine blk_alloc ?_ _)); exact BK323.out⟩, ⟨by (with_reducible repeat (first | refine blk_drewN ?_ _ | refine blk_drew ?_ | refine blk_alloc ?_ _)); refine blk_put (cs := #[u325000]) ?_ 0 _ rfl; (with_reducible repeat (first | refine blk_drewN ?_ _ | refine blk_drew ?_ | refine blk_alloc ?_ _)); exact BK324.out⟩, ⟨be_ HB.out⟩⟩
     ·rw [if_neg c10] at H
      exact absurd H (by simp)
    ·rw [if_neg c9] at H
     exact absurd H (by simp)
   ·rw [if_neg c8] at H
    have c8b0 : decide (x4_1 < (l0_0.length : Int)) = false := decide_eq_false c8
    clear c8
    obtain rfl := Option.some.inj H
    have hnb24 := NB322_323.out
    have hnc24 := NB323_322.out
    have hnb25 := NB322_324.out
    have hnc25 := NB324_322.out
    have hcz26_0 : wr.cell? ⟨gb322, 0, none⟩ = some (.slice A0_0 l0_0.length c0_0) := (blk_cell BK322.out 0).trans rfl
    have hfz26_0 := blk_frozen BK322.out 0
    have hnb27 := NB324_323.out
    have hnc27 := NB323_324.out
    have hcz28_0 : wr.cell? ⟨gb324, 0, none⟩ = some (u325000) := (blk_cell BK324.out 0).trans rfl
    have hfz28_0 := blk_frozen BK324.out 0
    obtain ⟨Ao29, co29, eo29⟩ := Kd.R_slice HO_325000.out
    subst eo29
    have hcz30_0 : wr.cell? ⟨gb323, 0, none⟩ = some (.slice none 0 0) := (blk_cell BK323.out 0).trans rfl
    have hfz30_0 := blk_frozen BK323.out 0
    go_wp2
    refine bodyPost_ret (results_cell_row rfl _ _ gb323 26 #[.slice Ao29 x325000_1.length co29] (0, 0) _ rfl (by (with_reducible repeat (first | refine blk_drewN ?_ _ | refine blk_drew ?_ | refine blk_alloc ?_ _)); refine blk_put (cs := #[.slice none 0 0]) ?_ 0 _ rfl; (with_reducible repeat (first | refine blk_drewN ?_ _ | refine blk_drew ?_ | refine blk_alloc ?_ _)); exact BK323.out) Try.underlying26 rfl (by kernel_rfl)) rfl ?_
    exact ⟨_, by first | rfl | (simp [errW_none, errW_some] <;> rfl) | (simp [*, errW_none, errW_some] <;> rfl), by (with_reducible repeat (first | apply Kd.R_alloc | apply Kd.R_drewN | apply Kd.R_drew)); exact Kd.R_mono (Kd.R_far (p := ⟨gb323, 0, none⟩) (Kd.R_types HO_325000.out BK323.out (by decide)) (fun _ hk => hk.2) (.slice Ao29 x325000_1.length co29)) (fun _ hk => trivial), be_ HB.out⟩

def heronryref15_one.f (a0_0 : Int) (a0_1 : Int) (a0_2 : Int) (a0_3 : Bool) : Option (Bool) := if a0_0 ≥ 0 then (if a0_0 ≤ 63 then (if a0_1 ≥ 0 then (if a0_1 ≤ 63 then (some (a0_2 != (-9223372036854775808))) else (some false)) else (some false)) else (some false)) else (some false)
set_option maxHeartbeats 8000000 in
set_option maxRecDepth 100000 in
theorem heronryref15_one.calls (a0_0 : Int) (a0_1 : Int) (a0_2 : Int) (a0_3 : Bool) (r : Bool) (w : World) (h : heronryref15_one.f a0_0 a0_1 a0_2 a0_3 = some r) :
  Calls Try.prog 49 #[.agg #[.int .i64 a0_0, .int .i64 a0_1, .int .i64 a0_2, .bool a0_3]] w fun e w' => e = .returned (.bool r) ∧ Below w.heap.size w w' := by
 have hu83 := Try.underlying83
 have HB := am_ (Below.refl w.heap.size w)
 have H : (if a0_0 ≥ 0 then (if a0_0 ≤ 63 then (if a0_1 ≥ 0 then (if a0_1 ≤ 63 then (some (a0_2 != (-9223372036854775808))) else (some false)) else (some false)) else (some false)) else (some false)) = some r := h
 clear h
 by_cases c2 : a0_0 ≥ 0
 ·rw [if_pos c2] at H
  have c2b0 : decide (0 ≤ a0_0) = true := decide_eq_true c2
  clear c2
  by_cases c3 : a0_0 ≤ 63
  ·rw [if_pos c3] at H
   have c3b0 : decide (a0_0 ≤ 63) = true := decide_eq_true c3
   clear c3
   by_cases c4 : a0_1 ≥ 0
   ·rw [if_pos c4] at H
    have c4b0 : decide (0 ≤ a0_1) = true := decide_eq_true c4
    clear c4
    by_cases c5 : a0_1 ≤ 63
    ·rw [if_pos c5] at H
     have c5b0 : decide (a0_1 ≤ 63) = true := decide_eq_true c5
     clear c5
     obtain rfl := Option.some.inj H
     go_enter Try.func49, Try.ntmps49
     go_wp2_with (first | ((with_reducible refine gate_dst (N := 1) rfl ?_); refine box_event ?hg (N := 1) ?hd (cs := #[.int .i64 a0_0, .int .i64 a0_1, .int .i64 a0_2, .bool a0_3]) (t := 83) ?hr ?_; (case hd => rfl); (case hg => rfl); (case hr => first | (go_simp; done) | (go_simp; rfl)); intro gb330 hg w6 hbox hb; have n0_ := am_ (below_step (be_ HB.out) hb); have n1_ := am_ (hbox); have n2_ := am_ ((by rw [hg]; exact (below_size (be_ HB.out)) : w.heap.size ≤ gb330)); have n3_ := am_ ((by rw [hg]; exact (below_size (be_ HB.out)) : w.heap.size ≤ gb330)); clear HB; have HB := n0_; have BK330 := n1_; have GW330 := n2_; have GE330 := n3_; clear n0_ n1_ n2_ n3_; clear hb hbox hg; have hcz7_0 : w6.cell? ⟨gb330, 0, none⟩ = some (.int .i64 a0_0) := (blk_cell BK330.out 0).trans rfl; have hcz7_1 : w6.cell? ⟨gb330, 1, none⟩ = some (.int .i64 a0_1) := (blk_cell BK330.out 1).trans rfl; have hcz7_2 : w6.cell? ⟨gb330, 2, none⟩ = some (.int .i64 a0_2) := (blk_cell BK330.out 2).trans rfl; have hcz7_3 : w6.cell? ⟨gb330, 3, none⟩ = some (.bool a0_3) := (blk_cell BK330.out 3).trans rfl; have hfz7_0 := blk_frozen BK330.out 0; have hfz7_1 := blk_frozen BK330.out 1; have hfz7_2 := blk_frozen BK330.out 2; have hfz7_3 := blk_frozen BK330.out 3))
     go_ret
     exact ⟨by first | rfl | (simp [errW_none, errW_some] <;> rfl) | (simp [*, errW_none, errW_some] <;> rfl), be_ HB.out⟩
    ·rw [if_neg c5] at H
     have c5b0 : decide (a0_1 ≤ 63) = false := decide_eq_false c5
     clear c5
     obtain rfl := Option.some.inj H
     go_enter Try.func49, Try.ntmps49
     go_wp2_with (first | ((with_reducible refine gate_dst (N := 1) rfl ?_); refine box_event ?hg (N := 1) ?hd (cs := #[.int .i64 a0_0, .int .i64 a0_1, .int .i64 a0_2, .bool a0_3]) (t := 83) ?hr ?_; (case hd => rfl); (case hg => rfl); (case hr => first | (go_simp; done) | (go_simp; rfl)); intro gb330 hg w8 hbox hb; have n0_ := am_ (below_step (be_ HB.out) hb); have n1_ := am_ (hbox); have n2_ := am_ ((by rw [hg]; exact (below_size (be_ HB.out)) : w.heap.size ≤ gb330)); have n3_ := am_ ((by rw [hg]; exact (below_size (be_ HB.out)) : w.heap.size ≤ gb330)); clear HB; have HB := n0_; have BK330 := n1_; have GW330 := n2_; have GE330 := n3_; clear n0_ n1_ n2_ n3_; clear hb hbox hg; have hcz9_0 : w8.cell? ⟨gb330, 0, none⟩ = some (.int .i64 a0_0) := (blk_cell BK330.out 0).trans rfl; have hcz9_1 : w8.cell? ⟨gb330, 1, none⟩ = some (.int .i64 a0_1) := (blk_cell BK330.out 1).trans rfl; have hcz9_2 : w8.cell? ⟨gb330, 2, none⟩ = some (.int .i64 a0_2) := (blk_cell BK330.out 2).trans rfl; have hcz9_3 : w8.cell? ⟨gb330, 3, none⟩ = some (.bool a0_3) := (blk_cell BK330.out 3).trans rfl; have hfz9_0 := blk_frozen BK330.out 0; have hfz9_1 := blk_frozen BK330.out 1; have hfz9_2 := blk_frozen BK330.out 2; have hfz9_3 := blk_frozen BK330.out 3))
     go_ret
     exact ⟨by first | rfl | (simp [errW_none, errW_some] <;> rfl) | (simp [*, errW_none, errW_some] <;> rfl), be_ HB.out⟩
   ·rw [if_neg c4] at H
    have c4b0 : decide (0 ≤ a0_1) = false := decide_eq_false c4
    clear c4
    obtain rfl := Option.some.inj H
    go_enter Try.func49, Try.ntmps49
    go_wp2_with (first | ((with_reducible refine gate_dst (N := 1) rfl ?_); refine box_event ?hg (N := 1) ?hd (cs := #[.int .i64 a0_0, .int .i64 a0_1, .int .i64 a0_2, .bool a0_3]) (t := 83) ?hr ?_; (case hd => rfl); (case hg => rfl); (case hr => first | (go_simp; done) | (go_simp; rfl)); intro gb330 hg w10 hbox hb; have n0_ := am_ (below_step (be_ HB.out) hb); have n1_ := am_ (hbox); have n2_ := am_ ((by rw [hg]; exact (below_size (be_ HB.out)) : w.heap.size ≤ gb330)); have n3_ := am_ ((by rw [hg]; exact (below_size (be_ HB.out)) : w.heap.size ≤ gb330)); clear HB; have HB := n0_; have BK330 := n1_; have GW330 := n2_; have GE330 := n3_; clear n0_ n1_ n2_ n3_; clear hb hbox hg; have hcz11_0 : w10.cell? ⟨gb330, 0, none⟩ = some (.int .i64 a0_0) := (blk_cell BK330.out 0).trans rfl; have hcz11_1 : w10.cell? ⟨gb330, 1, none⟩ = some (.int .i64 a0_1) := (blk_cell BK330.out 1).trans rfl; have hcz11_2 : w10.cell? ⟨gb330, 2, none⟩ = some (.int .i64 a0_2) := (blk_cell BK330.out 2).trans rfl; have hcz11_3 : w10.cell? ⟨gb330, 3, none⟩ = some (.bool a0_3) := (blk_cell BK330.out 3).trans rfl; have hfz11_0 := blk_frozen BK330.out 0; have hfz11_1 := blk_frozen BK330.out 1; have hfz11_2 := blk_frozen BK330.out 2; have hfz11_3 := blk_frozen BK330.out 3))
    go_ret
    exact ⟨by first | rfl | (simp [errW_none, errW_some] <;> rfl) | (simp [*, errW_none, errW_some] <;> rfl), be_ HB.out⟩
  ·rw [if_neg c3] at H
   have c3b0 : decide (a0_0 ≤ 63) = false := decide_eq_false c3
   clear c3
   obtain rfl := Option.some.inj H
   go_enter Try.func49, Try.ntmps49
   go_wp2_with (first | ((with_reducible refine gate_dst (N := 1) rfl ?_); refine box_event ?hg (N := 1) ?hd (cs := #[.int .i64 a0_0, .int .i64 a0_1, .int .i64 a0_2, .bool a0_3]) (t := 83) ?hr ?_; (case hd => rfl); (case hg => rfl); (case hr => first | (go_simp; done) | (go_simp; rfl)); intro gb330 hg w12 hbox hb; have n0_ := am_ (below_step (be_ HB.out) hb); have n1_ := am_ (hbox); have n2_ := am_ ((by rw [hg]; exact (below_size (be_ HB.out)) : w.heap.size ≤ gb330)); have n3_ := am_ ((by rw [hg]; exact (below_size (be_ HB.out)) : w.heap.size ≤ gb330)); clear HB; have HB := n0_; have BK330 := n1_; have GW330 := n2_; have GE330 := n3_; clear n0_ n1_ n2_ n3_; clear hb hbox hg; have hcz13_0 : w12.cell? ⟨gb330, 0, none⟩ = some (.int .i64 a0_0) := (blk_cell BK330.out 0).trans rfl; have hcz13_1 : w12.cell? ⟨gb330, 1, none⟩ = some (.int .i64 a0_1) := (blk_cell BK330.out 1).trans rfl; have hcz13_2 : w12.cell? ⟨gb330, 2, none⟩ = some (.int .i64 a0_2) := (blk_cell BK330.out 2).trans rfl; have hcz13_3 : w12.cell? ⟨gb330, 3, none⟩ = some (.bool a0_3) := (blk_cell BK330.out 3).trans rfl; have hfz13_0 := blk_frozen BK330.out 0; have hfz13_1 := blk_frozen BK330.out 1; have hfz13_2 := blk_frozen BK330.out 2; have hfz13_3 := blk_frozen BK330.out 3))
   go_ret
   exact ⟨by first | rfl | (simp [errW_none, errW_some] <;> rfl) | (simp [*, errW_none, errW_some] <;> rfl), be_ HB.out⟩
 ·rw [if_neg c2] at H
  have c2b0 : decide (0 ≤ a0_0) = false := decide_eq_false c2
  clear c2
  obtain rfl := Option.some.inj H
  go_enter Try.func49, Try.ntmps49
  go_wp2_with (first | ((with_reducible refine gate_dst (N := 1) rfl ?_); refine box_event ?hg (N := 1) ?hd (cs := #[.int .i64 a0_0, .int .i64 a0_1, .int .i64 a0_2, .bool a0_3]) (t := 83) ?hr ?_; (case hd => rfl); (case hg => rfl); (case hr => first | (go_simp; done) | (go_simp; rfl)); intro gb330 hg w14 hbox hb; have n0_ := am_ (below_step (be_ HB.out) hb); have n1_ := am_ (hbox); have n2_ := am_ ((by rw [hg]; exact (below_size (be_ HB.out)) : w.heap.size ≤ gb330)); have n3_ := am_ ((by rw [hg]; exact (below_size (be_ HB.out)) : w.heap.size ≤ gb330)); clear HB; have HB := n0_; have BK330 := n1_; have GW330 := n2_; have GE330 := n3_; clear n0_ n1_ n2_ n3_; clear hb hbox hg; have hcz15_0 : w14.cell? ⟨gb330, 0, none⟩ = some (.int .i64 a0_0) := (blk_cell BK330.out 0).trans rfl; have hcz15_1 : w14.cell? ⟨gb330, 1, none⟩ = some (.int .i64 a0_1) := (blk_cell BK330.out 1).trans rfl; have hcz15_2 : w14.cell? ⟨gb330, 2, none⟩ = some (.int .i64 a0_2) := (blk_cell BK330.out 2).trans rfl; have hcz15_3 : w14.cell? ⟨gb330, 3, none⟩ = some (.bool a0_3) := (blk_cell BK330.out 3).trans rfl; have hfz15_0 := blk_frozen BK330.out 0; have hfz15_1 := blk_frozen BK330.out 1; have hfz15_2 := blk_frozen BK330.out 2; have hfz15_3 := blk_frozen BK330.out 3))
  go_ret
  exact ⟨by first | rfl | (simp [errW_none, errW_some] <;> rfl) | (simp [*, errW_none, errW_some] <;> rfl), be_ HB.out⟩

end Go.Proofs.Ytjpoepiidmoegaa.Q
