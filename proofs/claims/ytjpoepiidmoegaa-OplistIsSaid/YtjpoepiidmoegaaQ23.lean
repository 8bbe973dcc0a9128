-- Cut to what one claim reaches, out of what the kit's print laid for this seat (wip/tools/trim.py).
import Derived.Test.YtjpoepiidmoegaaQ0
import Derived.Test.YtjpoepiidmoegaaQS
namespace Go.Proofs.Ytjpoepiidmoegaa.Q
open Go.RowKit Go.Proofs.YtjpoepiidmoegaaW.PrintWords Go.Proofs.YtjpoepiidmoegaaW.PrintLast Go.Proofs.YtjpoepiidmoegaaW.PrintMore
attribute [local go_sem] max2_int min2_int max_two min_two max_three min_three max_four min_four   -- for this text's walks alone
set_option linter.unusedVariables false
set_option linter.unusedSimpArgs false

def heronrylaw15_grove.l0 : Nat → Int → List (S107) → Int → List (S95) → Int → Option ((List (S95)) × Int)
 | 0, _, _, _, _, _ => none
 | k + 1, x4, x435000, x435001, x437000, x437001 => if x4 < (x435000.length : Int) then (if 0 ≤ x4 then (if x437000.length < 4398046511104 then (heronrylaw15_grove.l0 k (wrap64 (x4 + 1)) x435000 x435001 (x437000 ++ [(⟨(rd_T107 x435000 x4).f0, (rd_T107 x435000 x4).f1, (rd_T107 x435000 x4).f2, (rd_T107 x435000 x4).f3⟩ : S95)]) x437001) else (none)) else (none)) else (some (x437000, x437001))
def heronrylaw15_grove.f (k : Nat) (l0_0 : List (S107)) (a0_1 : Int) : Option ((List (S95)) × Int) := heronrylaw15_grove.l0 k 0 l0_0 a0_1 ([] : List (S95)) a0_1
def heronrylaw15_grove.T5 : Bool × List (List Nat × List Nat) := (true, [([], []), ([0], [0]), ([], []), ([2], [2]), ([], []), ([3, 4], [3, 4]), ([5], [5]), ([6], [6]), ([], []), ([8], [8]), ([], []), ([9, 10], [9, 10]), ([11], [11]), ([12], [12]), ([], []), ([14], [14]), ([], []), ([15, 16], [15, 16]), ([17], [17]), ([18], [18]), ([], []), ([20], [20]), ([], []), ([21, 22], [21, 22]), ([23], [23]), ([24], [24]), ([7, 13, 19, 25], [7, 13, 19, 25]), ([26], [26]), ([1, 27], [1, 27]), ([0, 1, 2, 3, 4, 5, 6, 7, 8, 9, 10, 11, 12, 13, 14, 15, 16, 17, 18, 19, 20, 21, 22, 23, 24, 25, 26, 27, 28], []), ([29, 28, 28, 0, 1, 2, 3, 4, 5, 6, 7, 8, 9, 10, 11, 12, 13, 14, 15, 16, 17, 18, 19, 20, 21, 22, 23, 24, 25, 26, 27, 28], [28, 29])])
def heronrylaw15_grove.B5 : List Nat := [0, 1, 0, 4, 0, 28, 60, 124, 0, 256, 0, 1792, 3840, 7936, 0, 16384, 0, 114688, 245760, 507904, 0, 1048576, 0, 7340032, 15728640, 32505856, 67108860, 134217724, 268435455, 536870911, 1073741823]
theorem heronrylaw15_grove.tab5 : rtab .any (opsOf Try.f28 5) = heronrylaw15_grove.T5 := by kernel_rfl
theorem heronrylaw15_grove.bits5 : waitsOk heronrylaw15_grove.T5.2 heronrylaw15_grove.B5 = true := by kernel_rfl
set_option maxHeartbeats 8000000 in
set_option maxRecDepth 100000 in
theorem heronrylaw15_grove.calls (k : Nat) (A0_0 : Option Addr) (c0_0 : Nat) (l0_0 : List (S107)) (a0_1 : Int) (r1 : List (S95)) (r2 : Int) (w : World) (hr0_0 : Kd.C k107 w A0_0 l0_0.length l0_0) (hc0_0 : l0_0.length ≤ c0_0) (h : heronrylaw15_grove.f k l0_0 a0_1 = some (r1, r2)) :
  Calls Try.prog 28 #[.agg #[.slice A0_0 l0_0.length c0_0, .int .i64 a0_1]] w fun e w' => ∃ v0_ : Value, e = .returned (.agg #[v0_, .int .i64 r2]) ∧ Kd.R k95 95 w' w.heap.size (fun _ => True) v0_ r1 ∧ Below w.heap.size w w' := by
 have hu61 := Try.underlying61
 have hu48 := Try.underlying48
 have hu95 := Try.underlying95
 have HR0_0 := am_ hr0_0
 have HC0_0 := am_ hc0_0
 clear hr0_0 hc0_0
 have HB := am_ (Below.refl w.heap.size w)
 have H : (heronrylaw15_grove.l0 k 0 l0_0 a0_1 ([] : List (S95)) a0_1) = some (r1, r2) := h
 clear h
 have H' := am_ H
 clear H
 go_enter Try.func28, Try.ntmps28
 go_wp2_with (first | ((with_reducible refine gate_dst (N := 1) rfl ?_); refine box_event ?hg (N := 1) ?hd (cs := #[.slice A0_0 l0_0.length c0_0, .int .i64 a0_1]) (t := 61) ?hr ?_; (case hd => rfl); (case hg => rfl); (case hr => first | (go_simp; done) | (go_simp; rfl)); intro gb434 hg w2 hbox hb; have n0_ := am_ (below_step (be_ HB.out) hb); have n1_ := am_ (hbox); have n2_ := am_ ((by rw [hg]; exact (below_size (be_ HB.out)) : w.heap.size ≤ gb434)); have n3_ := am_ ((by rw [hg]; exact (below_size (be_ HB.out)) : w.heap.size ≤ gb434)); clear HB; have HB := n0_; have BK434 := n1_; have GW434 := n2_; have GE434 := n3_; clear n0_ n1_ n2_ n3_; clear hb hbox hg) | ((with_reducible refine gate_dst (N := 2) rfl ?_); refine box_event ?hg (N := 2) ?hd (cs := #[.slice none 0 0, .int .i64 0]) (t := 48) ?hr ?_; (case hd => rfl); (case hg => rfl); (case hr => first | (go_simp; done) | (go_simp; rfl)); intro gb435 hg w3 hbox hb; have n0_ := am_ (bb_ BK434.out hb); have n1_ := am_ (below_step (be_ HB.out) hb); have n2_ := am_ (hbox); have n3_ := am_ ((by rw [hg]; exact (below_size (be_ HB.out)) : w.heap.size ≤ gb435)); have n4_ := am_ ((by rw [hg]; exact (below_size (be_ HB.out)) : w.heap.size ≤ gb435)); have n5_ := am_ ((by rw [hg]; exact Nat.ne_of_lt (bl_ BK434.out) : gb434 ≠ gb435)); have n6_ := am_ ((by rw [hg]; exact Nat.ne_of_gt (bl_ BK434.out) : gb435 ≠ gb434)); clear BK434; clear HB; have BK434 := n0_; have HB := n1_; have BK435 := n2_; have GW435 := n3_; have GE435 := n4_; have NB434_435 := n5_; have NB435_434 := n6_; clear n0_ n1_ n2_ n3_ n4_ n5_ n6_; clear hb hbox hg; have hnb4 := NB434_435.out; have hnc4 := NB435_434.out; have hcz5_0 : w3.cell? ⟨gb434, 0, none⟩ = some (.slice A0_0 l0_0.length c0_0) := (blk_cell BK434.out 0).trans rfl; have hcz5_1 : w3.cell? ⟨gb434, 1, none⟩ = some (.int .i64 a0_1) := (blk_cell BK434.out 1).trans rfl; have hfz5_0 := blk_frozen BK434.out 0; have hfz5_1 := blk_frozen BK434.out 1) | ((with_reducible refine gate_dst (N := 3) rfl ?_); refine box_event ?hg (N := 3) ?hd (cs := #[.slice none 0 0, .int .i64 0]) (t := 48) ?hr ?_; (case hd => rfl); (case hg => rfl); (case hr => first | (go_simp; done) | (go_simp; rfl)); intro gb436 hg w6 hbox hb; have n0_ := am_ (bb_ BK434.out hb); have n1_ := am_ (bb_ BK435.out hb); have n2_ := am_ (below_step (be_ HB.out) hb); have n3_ := am_ (hbox); have n4_ := am_ ((by rw [hg]; exact (below_size (be_ HB.out)) : w.heap.size ≤ gb436)); have n5_ := am_ ((by rw [hg]; exact (below_size (be_ HB.out)) : w.heap.size ≤ gb436)); have n6_ := am_ ((by rw [hg]; exact Nat.ne_of_lt (bl_ BK434.out) : gb434 ≠ gb436)); have n7_ := am_ ((by rw [hg]; exact Nat.ne_of_gt (bl_ BK434.out) : gb436 ≠ gb434)); have n8_ := am_ ((by rw [hg]; exact Nat.ne_of_lt (bl_ BK435.out) : gb435 ≠ gb436)); have n9_ := am_ ((by rw [hg]; exact Nat.ne_of_gt (bl_ BK435.out) : gb436 ≠ gb435)); clear BK434; clear BK435; clear HB; have BK434 := n0_; have BK435 := n1_; have HB := n2_; have BK436 := n3_; have GW436 := n4_; have GE436 := n5_; have NB434_436 := n6_; have NB436_434 := n7_; have NB435_436 := n8_; have NB436_435 := n9_; clear n0_ n1_ n2_ n3_ n4_ n5_ n6_ n7_ n8_ n9_; clear hb hbox hg; have hnb7 := NB436_434.out; have hnc7 := NB434_436.out; have hnb8 := NB436_435.out; have hnc8 := NB435_436.out; have hcz9_0 : w6.cell? ⟨gb436, 0, none⟩ = some (.slice none 0 0) := (blk_cell BK436.out 0).trans rfl; have hcz9_1 : w6.cell? ⟨gb436, 1, none⟩ = some (.int .i64 0) := (blk_cell BK436.out 1).trans rfl; have hfz9_0 := blk_frozen BK436.out 0; have hfz9_1 := blk_frozen BK436.out 1))
 go_loopg [4] k (fun kq v4 w' => ∃ (x4_1 : Int) (x437000_1 : List (S95)) (u437000 : Value), v4 = .int .i64 x4_1 ∧ Aside0 (heronrylaw15_grove.l0 kq x4_1 l0_0 a0_1 x437000_1 a0_1 = some (r1, r2)) ∧ Aside0 (kq ≤ k) ∧ Aside0 (Kd.R k95 95 w' w.heap.size (fun _ => True) u437000 x437000_1) ∧ Aside0 (w'.heap[gb434]? = some (.cells #[(.slice A0_0 l0_0.length c0_0), .int .i64 a0_1] 61 (0, 0))) ∧ Aside0 (w'.heap[gb435]? = some (.cells #[(.slice none 0 0), .int .i64 0] 48 (0, 0))) ∧ Aside0 (w'.heap[gb436]? = some (.cells #[u437000, .int .i64 a0_1] 48 (0, 0))) ∧ Aside0 (Below w.heap.size w w'))
 case atStart => exact ⟨(0), (([] : List (S95))), (.slice none 0 0), (by first | rfl | (simp; done) | (simp [*]; done)), H', ⟨Nat.le_refl _⟩, ⟨by first | exact Kd.R_nil _ _ _ _ _ | exact Kd.N_nil _ _ _ _ _ | exact Kd.V_nil _ _ _ _ _ | exact Kd.Q_nil _ _ _ _ _ | exact Kd.S_nil _ _ _ _ _⟩, ⟨by (with_reducible repeat (first | refine blk_drewN ?_ _ | refine blk_drew ?_ | refine blk_alloc ?_ _)); refine blk_far ?_ NB434_436.out _; (with_reducible repeat (first | refine blk_drewN ?_ _ | refine blk_drew ?_ | refine blk_alloc ?_ _)); refine blk_far ?_ NB434_436.out _; (with_reducible repeat (first | refine blk_drewN ?_ _ | refine blk_drew ?_ | refine blk_alloc ?_ _)); exact BK434.out⟩, ⟨by (with_reducible repeat (first | refine blk_drewN ?_ _ | refine blk_drew ?_ | refine blk_alloc ?_ _)); refine blk_far ?_ NB435_436.out _; (with_reducible repeat (first | refine blk_drewN ?_ _ | refine blk_drew ?_ | refine blk_alloc ?_ _)); refine blk_far ?_ NB435_436.out _; (with_reducible repeat (first | refine blk_drewN ?_ _ | refine blk_drew ?_ | refine blk_alloc ?_ _)); exact BK435.out⟩, ⟨by (with_reducible repeat (first | refine blk_drewN ?_ _ | refine blk_drew ?_ | refine blk_alloc ?_ _)); refine blk_put (cs := #[.slice none 0 0, .int .i64 0]) ?_ 1 _ rfl; (with_reducible repeat (first | refine blk_drewN ?_ _ | refine blk_drew ?_ | refine blk_alloc ?_ _)); refine blk_put (cs := #[.slice none 0 0, .int .i64 0]) ?_ 0 _ rfl; (with_reducible repeat (first | refine blk_drewN ?_ _ | refine blk_drew ?_ | refine blk_alloc ?_ _)); exact BK436.out⟩, ⟨be_ HB.out⟩⟩
 case round =>
  clear H'
  try clear c2
  try clear p2
  try clear c4
  try clear c7
  try clear c8
  try clear hcz5_0
  try clear hcz5_1
  try clear hcz9_0
  try clear hcz9_1
  try clear hfz5_0
  try clear hfz5_1
  try clear hfz9_0
  try clear hfz9_1
  obtain ⟨x4_1, x437000_1, u437000, rfl, HA, HK1, HO_437000, BK434, BK435, BK436, HB⟩ := hrel
  cases gk with
  | zero => exact absurd HA.out (by simp [heronrylaw15_grove.l0])
  | succ k1 =>
   have H := HA.out
   clear HA
   simp only [heronrylaw15_grove.l0] at H
   by_cases c10 : x4_1 < (l0_0.length : Int)
   ·rw [if_pos c10] at H
    have c10b0 : decide (x4_1 < (l0_0.length : Int)) = true := decide_eq_true c10
    clear c10
    by_cases c11 : 0 ≤ x4_1
    ·rw [if_pos c11] at H
     have c11b0 : decide (0 ≤ x4_1) = true := decide_eq_true c11
     clear c11
     by_cases c12 : x437000_1.length < 4398046511104
     ·rw [if_pos c12] at H
      have LMc12 := am_ c12
      clear c12
      obtain ⟨y441, hy441⟩ : ∃ y_ : List (S95), y_ = (x437000_1 ++ [(⟨(rd_T107 l0_0 x4_1).f0, (rd_T107 l0_0 x4_1).f1, (rd_T107 l0_0 x4_1).f2, (rd_T107 l0_0 x4_1).f3⟩ : S95)]) := ⟨_, rfl⟩
      replace H : (heronrylaw15_grove.l0 k1 (wrap64 (x4_1 + 1)) l0_0 a0_1 y441 a0_1) = some (r1, r2) := by first | (rw [hy441]; with_reducible exact H) | (have H2_ := (Option.bind_some _ _).symm.trans H; rw [hy441]; with_reducible exact H2_) | (have H2_ := (Option.bind_some _ _).symm.trans H; with_reducible exact H2_) | with_reducible exact H | (rw [hy441]; exact H) | exact H
      have Ny441 := am_ hy441
      clear hy441
      have H' := am_ H
      clear H
      have hnb13 := NB434_435.out
      have hnc13 := NB435_434.out
      have hnb14 := NB434_436.out
      have hnc14 := NB436_434.out
      have hcz15_0 : wr.cell? ⟨gb434, 0, none⟩ = some (.slice A0_0 l0_0.length c0_0) := (blk_cell BK434.out 0).trans rfl
      have hcz15_1 : wr.cell? ⟨gb434, 1, none⟩ = some (.int .i64 a0_1) := (blk_cell BK434.out 1).trans rfl
      have hfz15_0 := blk_frozen BK434.out 0
      have hfz15_1 := blk_frozen BK434.out 1
      try go_wp2
      have n0_ := am_ (Kd.R_drew HO_437000.out)
      have n1_ := am_ (blk_drew BK434.out)
      have n2_ := am_ (blk_drew BK435.out)
      have n3_ := am_ (blk_drew BK436.out)
      have n4_ := am_ (below_drew1 HB.out)
      clear HO_437000
      clear BK434
      clear BK435
      clear BK436
      clear HB
      have HO_437000 := n0_
      have BK434 := n1_
      have BK435 := n2_
      have BK436 := n3_
      have HB := n4_
      clear n0_ n1_ n2_ n3_ n4_
      have p437 : 0 ≤ (x4_1 : Int) := of_decide_eq_true (by first | (with_reducible assumption) | assumption)
      have q437 : x4_1 < (l0_0.length : Int) := of_decide_eq_true (by first | (with_reducible assumption) | assumption)
      obtain ⟨ad437, e437, hx437_0, hx437_1, hx437_2, hx437_3⟩ := at_T107 HR0_0.out x4_1 p437 q437
      have hw437_3 := hx437_3
      have hw437_2 := hx437_2
      have hw437_1 := hx437_1
      have hw437_0 := hx437_0
      cases e437
      replace hx437_0 := (HB.out.cell (World.block_lt_of_cell? w _ hx437_0)).trans hx437_0
      replace hx437_1 := (HB.out.cell (World.block_lt_of_cell? w _ hx437_1)).trans hx437_1
      replace hx437_2 := (HB.out.cell (World.block_lt_of_cell? w _ hx437_2)).trans hx437_2
      replace hx437_3 := (HB.out.cell (World.block_lt_of_cell? w _ hx437_3)).trans hx437_3
      replace p437 := eq_true p437
      replace q437 := eq_true q437
      have p438 : 0 ≤ (x4_1 : Int) := of_decide_eq_true (by first | (with_reducible assumption) | assumption)
      have q438 : x4_1 < (l0_0.length : Int) := of_decide_eq_true (by first | (with_reducible assumption) | assumption)
      obtain ⟨ad438, e438, hx438_0, hx438_1, hx438_2, hx438_3⟩ := at_T107 HR0_0.out x4_1 p438 q438
      have hw438_3 := hx438_3
      have hw438_2 := hx438_2
      have hw438_1 := hx438_1
      have hw438_0 := hx438_0
      obtain rfl : ad437 = ad438 := (by injection e438)
      replace hx438_0 := (HB.out.cell (World.block_lt_of_cell? w _ hx438_0)).trans hx438_0
      replace hx438_1 := (HB.out.cell (World.block_lt_of_cell? w _ hx438_1)).trans hx438_1
      replace hx438_2 := (HB.out.cell (World.block_lt_of_cell? w _ hx438_2)).trans hx438_2
      replace hx438_3 := (HB.out.cell (World.block_lt_of_cell? w _ hx438_3)).trans hx438_3
      replace p438 := eq_true p438
      replace q438 := eq_true q438
      have p439 : 0 ≤ (x4_1 : Int) := of_decide_eq_true (by first | (with_reducible assumption) | assumption)
      have q439 : x4_1 < (l0_0.length : Int) := of_decide_eq_true (by first | (with_reducible assumption) | assumption)
      obtain ⟨ad439, e439, hx439_0, hx439_1, hx439_2, hx439_3⟩ := at_T107 HR0_0.out x4_1 p439 q439
      have hw439_3 := hx439_3
      have hw439_2 := hx439_2
      have hw439_1 := hx439_1
      have hw439_0 := hx439_0
      obtain rfl : ad437 = ad439 := (by injection e439)
      replace hx439_0 := (HB.out.cell (World.block_lt_of_cell? w _ hx439_0)).trans hx439_0
      replace hx439_1 := (HB.out.cell (World.block_lt_of_cell? w _ hx439_1)).trans hx439_1
      replace hx439_2 := (HB.out.cell (World.block_lt_of_cell? w _ hx439_2)).trans hx439_2
      replace hx439_3 := (HB.out.cell (World.block_lt_of_cell? w _ hx439_3)).trans hx439_3
      replace p439 := eq_true p439
      replace q439 := eq_true q439
      have p440 : 0 ≤ (x4_1 : Int) := of_decide_eq_true (by first | (with_reducible assumption) | assumption)
      have q440 : x4_1 < (l0_0.length : Int) := of_decide_eq_true (by first | (with_reducible assumption) | assumption)
      obtain ⟨ad440, e440, hx440_0, hx440_1, hx440_2, hx440_3⟩ := at_T107 HR0_0.out x4_1 p440 q440
      have hw440_3 := hx440_3
      have hw440_2 := hx440_2
      have hw440_1 := hx440_1
      have hw440_0 := hx440_0
      obtain rfl : ad437 = ad440 := (by injection e440)
      replace hx440_0 := (HB.out.cell (World.block_lt_of_cell? w _ hx440_0)).trans hx440_0
      replace hx440_1 := (HB.out.cell (World.block_lt_of_cell? w _ hx440_1)).trans hx440_1
      replace hx440_2 := (HB.out.cell (World.block_lt_of_cell? w _ hx440_2)).trans hx440_2
      replace hx440_3 := (HB.out.cell (World.block_lt_of_cell? w _ hx440_3)).trans hx440_3
      replace p440 := eq_true p440
      replace q440 := eq_true q440
      refine start_ (n := 31) (S := fun w' => w'.cell? ⟨gb436, 0, none⟩ = some (u437000) ∧ w'.cell? ⟨gb436, 1, none⟩ = some (.int .i64 a0_1) ∧ w'.cell? ⟨gb434, 0, none⟩ = some (.slice (some ad437) l0_0.length c0_0) ∧ w'.cell? ⟨gb434, 1, none⟩ = some (.int .i64 a0_1) ∧ w'.cell? (ad437.add ((x4_1).toNat * 4)) = some (.int .i64 ((rd_T107 l0_0 x4_1).f0)) ∧ w'.cell? ⟨(ad437.add ((x4_1).toNat * 4)).block, (ad437.add ((x4_1).toNat * 4)).off + 1, none⟩ = some (.int .i64 ((rd_T107 l0_0 x4_1).f1)) ∧ w'.cell? ⟨(ad437.add ((x4_1).toNat * 4)).block, (ad437.add ((x4_1).toNat * 4)).off + 2, none⟩ = some (.int .i64 ((rd_T107 l0_0 x4_1).f2)) ∧ w'.cell? ⟨(ad437.add ((x4_1).toNat * 4)).block, (ad437.add ((x4_1).toNat * 4)).off + 3, none⟩ = some (.int .i64 ((rd_T107 l0_0 x4_1).f3)) ∧ w'.cell? (ad437.add ((x4_1).toNat * 4)) = some (.int .i64 ((rd_T107 l0_0 x4_1).f0)) ∧ w'.cell? ⟨(ad437.add ((x4_1).toNat * 4)).block, (ad437.add ((x4_1).toNat * 4)).off + 1, none⟩ = some (.int .i64 ((rd_T107 l0_0 x4_1).f1)) ∧ w'.cell? ⟨(ad437.add ((x4_1).toNat * 4)).block, (ad437.add ((x4_1).toNat * 4)).off + 2, none⟩ = some (.int .i64 ((rd_T107 l0_0 x4_1).f2)) ∧ w'.cell? ⟨(ad437.add ((x4_1).toNat * 4)).block, (ad437.add ((x4_1).toNat * 4)).off + 3, none⟩ = some (.int .i64 ((rd_T107 l0_0 x4_1).f3)) ∧ w'.cell? (ad437.add ((x4_1).toNat * 4)) = some (.int .i64 ((rd_T107 l0_0 x4_1).f0)) ∧ w'.cell? ⟨(ad437.add ((x4_1).toNat * 4)).block, (ad437.add ((x4_1).toNat * 4)).off + 1, none⟩ = some (.int .i64 ((rd_T107 l0_0 x4_1).f1)) ∧ w'.cell? ⟨(ad437.add ((x4_1).toNat * 4)).block, (ad437.add ((x4_1).toNat * 4)).off + 2, none⟩ = some (.int .i64 ((rd_T107 l0_0 x4_1).f2)) ∧ w'.cell? ⟨(ad437.add ((x4_1).toNat * 4)).block, (ad437.add ((x4_1).toNat * 4)).off + 3, none⟩ = some (.int .i64 ((rd_T107 l0_0 x4_1).f3)) ∧ w'.cell? (ad437.add ((x4_1).toNat * 4)) = some (.int .i64 ((rd_T107 l0_0 x4_1).f0)) ∧ w'.cell? ⟨(ad437.add ((x4_1).toNat * 4)).block, (ad437.add ((x4_1).toNat * 4)).off + 1, none⟩ = some (.int .i64 ((rd_T107 l0_0 x4_1).f1)) ∧ w'.cell? ⟨(ad437.add ((x4_1).toNat * 4)).block, (ad437.add ((x4_1).toNat * 4)).off + 2, none⟩ = some (.int .i64 ((rd_T107 l0_0 x4_1).f2)) ∧ w'.cell? ⟨(ad437.add ((x4_1).toNat * 4)).block, (ad437.add ((x4_1).toNat * 4)).off + 3, none⟩ = some (.int .i64 ((rd_T107 l0_0 x4_1).f3))) (ds := [30]) #[false, false, false, false, false, false, false, false, false, false, false, false, false, false, false, false, false, false, false, false, false, false, false, false, false, false, false, false, false, false, false] (by kernel_rfl) rfl rfl ⟨(blk_cell BK436.out 0).trans rfl, (blk_cell BK436.out 1).trans rfl, (blk_cell BK434.out 0).trans rfl, (blk_cell BK434.out 1).trans rfl, ((HB.out.cell (World.block_lt_of_cell? w _ hw437_0)).trans hw437_0), ((HB.out.cell (World.block_lt_of_cell? w _ hw437_1)).trans hw437_1), ((HB.out.cell (World.block_lt_of_cell? w _ hw437_2)).trans hw437_2), ((HB.out.cell (World.block_lt_of_cell? w _ hw437_3)).trans hw437_3), ((HB.out.cell (World.block_lt_of_cell? w _ hw438_0)).trans hw438_0), ((HB.out.cell (World.block_lt_of_cell? w _ hw438_1)).trans hw438_1), ((HB.out.cell (World.block_lt_of_cell? w _ hw438_2)).trans hw438_2), ((HB.out.cell (World.block_lt_of_cell? w _ hw438_3)).trans hw438_3), ((HB.out.cell (World.block_lt_of_cell? w _ hw439_0)).trans hw439_0), ((HB.out.cell (World.block_lt_of_cell? w _ hw439_1)).trans hw439_1), ((HB.out.cell (World.block_lt_of_cell? w _ hw439_2)).trans hw439_2), ((HB.out.cell (World.block_lt_of_cell? w _ hw439_3)).trans hw439_3), ((HB.out.cell (World.block_lt_of_cell? w _ hw440_0)).trans hw440_0), ((HB.out.cell (World.block_lt_of_cell? w _ hw440_1)).trans hw440_1), ((HB.out.cell (World.block_lt_of_cell? w _ hw440_2)).trans hw440_2), ((HB.out.cell (World.block_lt_of_cell? w _ hw440_3)).trans hw440_3)⟩ (fun hHeld => ?_); refine with_tabW heronrylaw15_grove.tab5 heronrylaw15_grove.bits5 (fun HT_ HW_ => ?_)
      generalize wr.drew = w16 at HO_437000 BK434 BK435 BK436 HB hx437_0 hx437_1 hx437_2 hx437_3 hx438_0 hx438_1 hx438_2 hx438_3 hx439_0 hx439_1 hx439_2 hx439_3 hx440_0 hx440_1 hx440_2 hx440_3 hHeld ⊢
      refine pure_ (i := 0) (N := some 15) (v := ?_) (a' := ?_) #[true, false, false, false, false, false, false, false, false, false, false, false, false, false, false, false, false, false, false, false, false, false, false, false, false, false, false, false, false, false, false] rfl rfl (any_of HT_.out (by kernel_rfl)) (fun _ _ _ h => h) (Or.inl ⟨by rfl, ?_⟩) ?_ ?_
      rotate_left
      ·intro w'
       go_simp
       with_reducible rfl
      rotate_left
      ·simp only [Act.put, List.setIfInBounds_toArray, List.set_cons_zero, List.set_cons_succ, i64_w, i32_w]
       rfl
      refine pure_ (i := 2) (N := some 17) (v := ?_) (a' := ?_) #[true, false, true, false, false, false, false, false, false, false, false, false, false, false, false, false, false, false, false, false, false, false, false, false, false, false, false, false, false, false, false] rfl rfl (any_of HT_.out (by kernel_rfl)) (fun _ _ _ h => h) (Or.inl ⟨by rfl, ?_⟩) ?_ ?_
      rotate_left
      ·intro w'
       go_simp
       with_reducible rfl
      rotate_left
      ·simp only [Act.put, List.setIfInBounds_toArray, List.set_cons_zero, List.set_cons_succ, i64_w, i32_w]
       rfl
      refine pure_ (i := 4) (N := some 19) (v := ?_) (a' := ?_) #[true, false, true, false, true, false, false, false, false, false, false, false, false, false, false, false, false, false, false, false, false, false, false, false, false, false, false, false, false, false, false] rfl rfl (any_of HT_.out (by kernel_rfl)) (fun _ _ _ h => h) (Or.inl ⟨by rfl, ?_⟩) ?_ ?_
      rotate_left
      ·intro w'
       go_simp
       with_reducible rfl
      rotate_left
      ·simp only [Act.put, List.setIfInBounds_toArray, List.set_cons_zero, List.set_cons_succ, i64_w, i32_w]
       rfl
      refine pure_ (i := 8) (N := some 23) (v := ?_) (a' := ?_) #[true, false, true, false, true, false, false, false, true, false, false, false, false, false, false, false, false, false, false, false, false, false, false, false, false, false, false, false, false, false, false] rfl rfl (any_of HT_.out (by kernel_rfl)) (fun _ _ _ h => h) (Or.inl ⟨by rfl, ?_⟩) ?_ ?_
      rotate_left
      ·intro w'
       go_simp
       with_reducible rfl
      rotate_left
      ·simp only [Act.put, List.setIfInBounds_toArray, List.set_cons_zero, List.set_cons_succ, i64_w, i32_w]
       rfl
      refine pure_ (i := 10) (N := some 25) (v := ?_) (a' := ?_) #[true, false, true, false, true, false, false, false, true, false, true, false, false, false, false, false, false, false, false, false, false, false, false, false, false, false, false, false, false, false, false] rfl rfl (any_of HT_.out (by kernel_rfl)) (fun _ _ _ h => h) (Or.inl ⟨by rfl, ?_⟩) ?_ ?_
      rotate_left
      ·intro w'
       go_simp
       with_reducible rfl
      rotate_left
      ·simp only [Act.put, List.setIfInBounds_toArray, List.set_cons_zero, List.set_cons_succ, i64_w, i32_w]
       rfl
      refine pure_ (i := 14) (N := some 29) (v := ?_) (a' := ?_) #[true, false, true, false, true, false, false, false, true, false, true, false, false, false, true, false, false, false, false, false, false, false, false, false, false, false, false, false, false, false, false] rfl rfl (any_of HT_.out (by kernel_rfl)) (fun _ _ _ h => h) (Or.inl ⟨by rfl, ?_⟩) ?_ ?_
      rotate_left
      ·intro w'
       go_simp
       with_reducible rfl
      rotate_left
      ·simp only [Act.put, List.setIfInBounds_toArray, List.set_cons_zero, List.set_cons_succ, i64_w, i32_w]
       rfl
      refine pure_ (i := 16) (N := some 31) (v := ?_) (a' := ?_) #[true, false, true, false, true, false, false, false, true, false, true, false, false, false, true, false, true, false, false, false, false, false, false, false, false, false, false, false, false, false, false] rfl rfl (any_of HT_.out (by kernel_rfl)) (fun _ _ _ h => h) (Or.inl ⟨by rfl, ?_⟩) ?_ ?_
      rotate_left
      ·intro w'
       go_simp
       with_reducible rfl
      rotate_left
      ·simp only [Act.put, List.setIfInBounds_toArray, List.set_cons_zero, List.set_cons_succ, i64_w, i32_w]
       rfl
      refine pure_ (i := 20) (N := some 35) (v := ?_) (a' := ?_) #[true, false, true, false, true, false, false, false, true, false, true, false, false, false, true, false, true, false, false, false, true, false, false, false, false, false, false, false, false, false, false] rfl rfl (any_of HT_.out (by kernel_rfl)) (fun _ _ _ h => h) (Or.inl ⟨by rfl, ?_⟩) ?_ ?_
      rotate_left
      ·intro w'
       go_simp
       with_reducible rfl
      rotate_left
      ·simp only [Act.put, List.setIfInBounds_toArray, List.set_cons_zero, List.set_cons_succ, i64_w, i32_w]
       rfl
      refine pure_ (i := 22) (N := some 37) (v := ?_) (a' := ?_) #[true, false, true, false, true, false, false, false, true, false, true, false, false, false, true, false, true, false, false, false, true, false, true, false, false, false, false, false, false, false, false] rfl rfl (any_of HT_.out (by kernel_rfl)) (fun _ _ _ h => h) (Or.inl ⟨by rfl, ?_⟩) ?_ ?_
      rotate_left
      ·intro w'
       go_simp
       with_reducible rfl
      rotate_left
      ·simp only [Act.put, List.setIfInBounds_toArray, List.set_cons_zero, List.set_cons_succ, i64_w, i32_w]
       rfl
      refine take_ (i := 1) (N := some 16) (v := ?_) (a' := ?_) #[true, true, true, false, true, false, false, false, true, false, true, false, false, false, true, false, true, false, false, false, true, false, true, false, false, false, false, false, false, false, false] rfl rfl (take_ofW HT_.out HW_.out (by kernel_rfl)) (fun _ _ _ h => h) (Or.inl ⟨by rfl, ?_⟩) hHeld ?_ ?_
      rotate_left
      ·rintro w' ⟨s0, s1, s2, s3, s4, s5, s6, s7, s8, s9, s10, s11, s12, s13, s14, s15, s16, s17, s18, s19⟩
       go_simp
       with_reducible rfl
      rotate_left
      ·simp only [Act.put, List.setIfInBounds_toArray, List.set_cons_zero, List.set_cons_succ, i64_w, i32_w]
       rfl
      refine take_ (i := 3) (N := some 18) (v := ?_) (a' := ?_) #[true, true, true, true, true, false, false, false, true, false, true, false, false, false, true, false, true, false, false, false, true, false, true, false, false, false, false, false, false, false, false] rfl rfl (take_ofW HT_.out HW_.out (by kernel_rfl)) (fun _ _ _ h => h) (Or.inl ⟨by rfl, ?_⟩) hHeld ?_ ?_
      rotate_left
      ·rintro w' ⟨s0, s1, s2, s3, s4, s5, s6, s7, s8, s9, s10, s11, s12, s13, s14, s15, s16, s17, s18, s19⟩
       go_simp
       with_reducible rfl
      rotate_left
      ·simp only [Act.put, List.setIfInBounds_toArray, List.set_cons_zero, List.set_cons_succ, i64_w, i32_w]
       rfl
      refine pure_ (i := 5) (N := some 20) (v := ?_) (a' := ?_) #[true, true, true, true, true, true, false, false, true, false, true, false, false, false, true, false, true, false, false, false, true, false, true, false, false, false, false, false, false, false, false] rfl rfl (any_of HT_.out (by kernel_rfl)) (fun _ _ _ h => h) (Or.inl ⟨by rfl, ?_⟩) ?_ ?_
      rotate_left
      ·intro w'
       go_simp
       with_reducible rfl
      rotate_left
      ·simp only [Act.put, List.setIfInBounds_toArray, List.set_cons_zero, List.set_cons_succ, i64_w, i32_w]
       rfl
      refine pure_ (i := 6) (N := some 21) (v := ?_) (a' := ?_) #[true, true, true, true, true, true, true, false, true, false, true, false, false, false, true, false, true, false, false, false, true, false, true, false, false, false, false, false, false, false, false] rfl rfl (any_of HT_.out (by kernel_rfl)) (fun _ _ _ h => h) (Or.inl ⟨by rfl, ?_⟩) ?_ ?_
      rotate_left
      ·intro w'
       go_simp
       with_reducible rfl
      rotate_left
      ·simp only [Act.put, List.setIfInBounds_toArray, List.set_cons_zero, List.set_cons_succ, i64_w, i32_w]
       rfl
      refine take_ (i := 7) (N := some 22) (v := ?_) (a' := ?_) #[true, true, true, true, true, true, true, true, true, false, true, false, false, false, true, false, true, false, false, false, true, false, true, false, false, false, false, false, false, false, false] rfl rfl (take_ofW HT_.out HW_.out (by kernel_rfl)) (fun _ _ _ h => h) (Or.inl ⟨by rfl, ?_⟩) hHeld ?_ ?_
      rotate_left
      ·rintro w' ⟨s0, s1, s2, s3, s4, s5, s6, s7, s8, s9, s10, s11, s12, s13, s14, s15, s16, s17, s18, s19⟩
       go_simp
       with_reducible rfl
      rotate_left
      ·simp only [Act.put, List.setIfInBounds_toArray, List.set_cons_zero, List.set_cons_succ, i64_w, i32_w]
       rfl
      refine take_ (i := 9) (N := some 24) (v := ?_) (a' := ?_) #[true, true, true, true, true, true, true, true, true, true, true, false, false, false, true, false, true, false, false, false, true, false, true, false, false, false, false, false, false, false, false] rfl rfl (take_ofW HT_.out HW_.out (by kernel_rfl)) (fun _ _ _ h => h) (Or.inl ⟨by rfl, ?_⟩) hHeld ?_ ?_
      rotate_left
      ·rintro w' ⟨s0, s1, s2, s3, s4, s5, s6, s7, s8, s9, s10, s11, s12, s13, s14, s15, s16, s17, s18, s19⟩
       go_simp
       with_reducible rfl
      rotate_left
      ·simp only [Act.put, List.setIfInBounds_toArray, List.set_cons_zero, List.set_cons_succ, i64_w, i32_w]
       rfl
      refine pure_ (i := 11) (N := some 26) (v := ?_) (a' := ?_) #[true, true, true, true, true, true, true, true, true, true, true, true, false, false, true, false, true, false, false, false, true, false, true, false, false, false, false, false, false, false, false] rfl rfl (any_of HT_.out (by kernel_rfl)) (fun _ _ _ h => h) (Or.inl ⟨by rfl, ?_⟩) ?_ ?_
      rotate_left
      ·intro w'
       go_simp
       with_reducible rfl
      rotate_left
      ·simp only [Act.put, List.setIfInBounds_toArray, List.set_cons_zero, List.set_cons_succ, i64_w, i32_w]
       rfl
      refine pure_ (i := 12) (N := some 27) (v := ?_) (a' := ?_) #[true, true, true, true, true, true, true, true, true, true, true, true, true, false, true, false, true, false, false, false, true, false, true, false, false, false, false, false, false, false, false] rfl rfl (any_of HT_.out (by kernel_rfl)) (fun _ _ _ h => h) (Or.inl ⟨by rfl, ?_⟩) ?_ ?_
      rotate_left
      ·intro w'
       go_simp
       with_reducible rfl
      rotate_left
      ·simp only [Act.put, List.setIfInBounds_toArray, List.set_cons_zero, List.set_cons_succ, i64_w, i32_w]
       rfl
      refine take_ (i := 13) (N := some 28) (v := ?_) (a' := ?_) #[true, true, true, true, true, true, true, true, true, true, true, true, true, true, true, false, true, false, false, false, true, false, true, false, false, false, false, false, false, false, false] rfl rfl (take_ofW HT_.out HW_.out (by kernel_rfl)) (fun _ _ _ h => h) (Or.inl ⟨by rfl, ?_⟩) hHeld ?_ ?_
      rotate_left
      ·rintro w' ⟨s0, s1, s2, s3, s4, s5, s6, s7, s8, s9, s10, s11, s12, s13, s14, s15, s16, s17, s18, s19⟩
       go_simp
       with_reducible rfl
      rotate_left
      ·simp only [Act.put, List.setIfInBounds_toArray, List.set_cons_zero, List.set_cons_succ, i64_w, i32_w]
       rfl
      refine take_ (i := 15) (N := some 30) (v := ?_) (a' := ?_) #[true, true, true, true, true, true, true, true, true, true, true, true, true, true, true, true, true, false, false, false, true, false, true, false, false, false, false, false, false, false, false] rfl rfl (take_ofW HT_.out HW_.out (by kernel_rfl)) (fun _ _ _ h => h) (Or.inl ⟨by rfl, ?_⟩) hHeld ?_ ?_
      rotate_left
      ·rintro w' ⟨s0, s1, s2, s3, s4, s5, s6, s7, s8, s9, s10, s11, s12, s13, s14, s15, s16, s17, s18, s19⟩
       go_simp
       with_reducible rfl
      rotate_left
      ·simp only [Act.put, List.setIfInBounds_toArray, List.set_cons_zero, List.set_cons_succ, i64_w, i32_w]
       rfl
      refine pure_ (i := 17) (N := some 32) (v := ?_) (a' := ?_) #[true, true, true, true, true, true, true, true, true, true, true, true, true, true, true, true, true, true, false, false, true, false, true, false, false, false, false, false, false, false, false] rfl rfl (any_of HT_.out (by kernel_rfl)) (fun _ _ _ h => h) (Or.inl ⟨by rfl, ?_⟩) ?_ ?_
      rotate_left
      ·intro w'
       go_simp
       with_reducible rfl
      rotate_left
      ·simp only [Act.put, List.setIfInBounds_toArray, List.set_cons_zero, List.set_cons_succ, i64_w, i32_w]
       rfl
      refine pure_ (i := 18) (N := some 33) (v := ?_) (a' := ?_) #[true, true, true, true, true, true, true, true, true, true, true, true, true, true, true, true, true, true, true, false, true, false, true, false, false, false, false, false, false, false, false] rfl rfl (any_of HT_.out (by kernel_rfl)) (fun _ _ _ h => h) (Or.inl ⟨by rfl, ?_⟩) ?_ ?_
      rotate_left
      ·intro w'
       go_simp
       with_reducible rfl
      rotate_left
      ·simp only [Act.put, List.setIfInBounds_toArray, List.set_cons_zero, List.set_cons_succ, i64_w, i32_w]
       rfl
      refine take_ (i := 19) (N := some 34) (v := ?_) (a' := ?_) #[true, true, true, true, true, true, true, true, true, true, true, true, true, true, true, true, true, true, true, true, true, false, true, false, false, false, false, false, false, false, false] rfl rfl (take_ofW HT_.out HW_.out (by kernel_rfl)) (fun _ _ _ h => h) (Or.inl ⟨by rfl, ?_⟩) hHeld ?_ ?_
      rotate_left
      ·rintro w' ⟨s0, s1, s2, s3, s4, s5, s6, s7, s8, s9, s10, s11, s12, s13, s14, s15, s16, s17, s18, s19⟩
       go_simp
       with_reducible rfl
      rotate_left
      ·simp only [Act.put, List.setIfInBounds_toArray, List.set_cons_zero, List.set_cons_succ, i64_w, i32_w]
       rfl
      refine take_ (i := 21) (N := some 36) (v := ?_) (a' := ?_) #[true, true, true, true, true, true, true, true, true, true, true, true, true, true, true, true, true, true, true, true, true, true, true, false, false, false, false, false, false, false, false] rfl rfl (take_ofW HT_.out HW_.out (by kernel_rfl)) (fun _ _ _ h => h) (Or.inl ⟨by rfl, ?_⟩) hHeld ?_ ?_
      rotate_left
      ·rintro w' ⟨s0, s1, s2, s3, s4, s5, s6, s7, s8, s9, s10, s11, s12, s13, s14, s15, s16, s17, s18, s19⟩
       go_simp
       with_reducible rfl
      rotate_left
      ·simp only [Act.put, List.setIfInBounds_toArray, List.set_cons_zero, List.set_cons_succ, i64_w, i32_w]
       rfl
      refine pure_ (i := 23) (N := some 38) (v := ?_) (a' := ?_) #[true, true, true, true, true, true, true, true, true, true, true, true, true, true, true, true, true, true, true, true, true, true, true, true, false, false, false, false, false, false, false] rfl rfl (any_of HT_.out (by kernel_rfl)) (fun _ _ _ h => h) (Or.inl ⟨by rfl, ?_⟩) ?_ ?_
      rotate_left
      ·intro w'
       go_simp
       with_reducible rfl
      rotate_left
      ·simp only [Act.put, List.setIfInBounds_toArray, List.set_cons_zero, List.set_cons_succ, i64_w, i32_w]
       rfl
      refine pure_ (i := 24) (N := some 39) (v := ?_) (a' := ?_) #[true, true, true, true, true, true, true, true, true, true, true, true, true, true, true, true, true, true, true, true, true, true, true, true, true, false, false, false, false, false, false] rfl rfl (any_of HT_.out (by kernel_rfl)) (fun _ _ _ h => h) (Or.inl ⟨by rfl, ?_⟩) ?_ ?_
      rotate_left
      ·intro w'
       go_simp
       with_reducible rfl
      rotate_left
      ·simp only [Act.put, List.setIfInBounds_toArray, List.set_cons_zero, List.set_cons_succ, i64_w, i32_w]
       rfl
      refine take_ (i := 25) (N := some 40) (v := ?_) (a' := ?_) #[true, true, true, true, true, true, true, true, true, true, true, true, true, true, true, true, true, true, true, true, true, true, true, true, true, true, false, false, false, false, false] rfl rfl (take_ofW HT_.out HW_.out (by kernel_rfl)) (fun _ _ _ h => h) (Or.inl ⟨by rfl, ?_⟩) hHeld ?_ ?_
      rotate_left
      ·rintro w' ⟨s0, s1, s2, s3, s4, s5, s6, s7, s8, s9, s10, s11, s12, s13, s14, s15, s16, s17, s18, s19⟩
       go_simp
       with_reducible rfl
      rotate_left
      ·simp only [Act.put, List.setIfInBounds_toArray, List.set_cons_zero, List.set_cons_succ, i64_w, i32_w]
       rfl
      refine pure_ (i := 26) (N := some 41) (v := ?_) (a' := ?_) #[true, true, true, true, true, true, true, true, true, true, true, true, true, true, true, true, true, true, true, true, true, true, true, true, true, true, true, false, false, false, false] rfl rfl (any_of HT_.out (by kernel_rfl)) (fun _ _ _ h => h) (Or.inl ⟨by rfl, ?_⟩) ?_ ?_
      rotate_left
      ·intro w'
       go_simp
       with_reducible rfl
      rotate_left
      ·simp only [Act.put, List.setIfInBounds_toArray, List.set_cons_zero, List.set_cons_succ, i64_w, i32_w]
       rfl
      refine one_ (i := 27) (N := some 42) #[true, true, true, true, true, true, true, true, true, true, true, true, true, true, true, true, true, true, true, true, true, true, true, true, true, true, true, true, false, false, false] rfl rfl (one_of HT_.out (by kernel_rfl)) (by decide) (fun K hK => ?_)
      refine value_ (w1 := ?_) (v := ?_) (by rfl) rfl ?_ ?_
      rotate_left 2
      ·go_simp
       constructor
       ·rfl
       ·rfl
      refine hK.out _ _ ⟨(blk_cell (blk_alloc BK436.out _) 0).trans rfl, (blk_cell (blk_alloc BK436.out _) 1).trans rfl, (blk_cell (blk_alloc BK434.out _) 0).trans rfl, (blk_cell (blk_alloc BK434.out _) 1).trans rfl, (World.cell?_alloc_lt _ _ _ (World.block_lt_of_cell? _ _ (((HB.out.cell (World.block_lt_of_cell? w _ hw437_0)).trans hw437_0)))).trans (((HB.out.cell (World.block_lt_of_cell? w _ hw437_0)).trans hw437_0)), (World.cell?_alloc_lt _ _ _ (World.block_lt_of_cell? _ _ (((HB.out.cell (World.block_lt_of_cell? w _ hw437_1)).trans hw437_1)))).trans (((HB.out.cell (World.block_lt_of_cell? w _ hw437_1)).trans hw437_1)), (World.cell?_alloc_lt _ _ _ (World.block_lt_of_cell? _ _ (((HB.out.cell (World.block_lt_of_cell? w _ hw437_2)).trans hw437_2)))).trans (((HB.out.cell (World.block_lt_of_cell? w _ hw437_2)).trans hw437_2)), (World.cell?_alloc_lt _ _ _ (World.block_lt_of_cell? _ _ (((HB.out.cell (World.block_lt_of_cell? w _ hw437_3)).trans hw437_3)))).trans (((HB.out.cell (World.block_lt_of_cell? w _ hw437_3)).trans hw437_3)), (World.cell?_alloc_lt _ _ _ (World.block_lt_of_cell? _ _ (((HB.out.cell (World.block_lt_of_cell? w _ hw438_0)).trans hw438_0)))).trans (((HB.out.cell (World.block_lt_of_cell? w _ hw438_0)).trans hw438_0)), (World.cell?_alloc_lt _ _ _ (World.block_lt_of_cell? _ _ (((HB.out.cell (World.block_lt_of_cell? w _ hw438_1)).trans hw438_1)))).trans (((HB.out.cell (World.block_lt_of_cell? w _ hw438_1)).trans hw438_1)), (World.cell?_alloc_lt _ _ _ (World.block_lt_of_cell? _ _ (((HB.out.cell (World.block_lt_of_cell? w _ hw438_2)).trans hw438_2)))).trans (((HB.out.cell (World.block_lt_of_cell? w _ hw438_2)).trans hw438_2)), (World.cell?_alloc_lt _ _ _ (World.block_lt_of_cell? _ _ (((HB.out.cell (World.block_lt_of_cell? w _ hw438_3)).trans hw438_3)))).trans (((HB.out.cell (World.block_lt_of_cell? w _ hw438_3)).trans hw438_3)), (World.cell?_alloc_lt _ _ _ (World.block_lt_of_cell? _ _ (((HB.out.cell (World.block_lt_of_cell? w _ hw439_0)).trans hw439_0)))).trans (((HB.out.cell (World.block_lt_of_cell? w _ hw439_0)).trans hw439_0)), (World.cell?_alloc_lt _ _ _ (World.block_lt_of_cell? _ _ (((HB.out.cell (World.block_lt_of_cell? w _ hw439_1)).trans hw439_1)))).trans (((HB.out.cell (World.block_lt_of_cell? w _ hw439_1)).trans hw439_1)), (World.cell?_alloc_lt _ _ _ (World.block_lt_of_cell? _ _ (((HB.out.cell (World.block_lt_of_cell? w _ hw439_2)).trans hw439_2)))).trans (((HB.out.cell (World.block_lt_of_cell? w _ hw439_2)).trans hw439_2)), (World.cell?_alloc_lt _ _ _ (World.block_lt_of_cell? _ _ (((HB.out.cell (World.block_lt_of_cell? w _ hw439_3)).trans hw439_3)))).trans (((HB.out.cell (World.block_lt_of_cell? w _ hw439_3)).trans hw439_3)), (World.cell?_alloc_lt _ _ _ (World.block_lt_of_cell? _ _ (((HB.out.cell (World.block_lt_of_cell? w _ hw440_0)).trans hw440_0)))).trans (((HB.out.cell (World.block_lt_of_cell? w _ hw440_0)).trans hw440_0)), (World.cell?_alloc_lt _ _ _ (World.block_lt_of_cell? _ _ (((HB.out.cell (World.block_lt_of_cell? w _ hw440_1)).trans hw440_1)))).trans (((HB.out.cell (World.block_lt_of_cell? w _ hw440_1)).trans hw440_1)), (World.cell?_alloc_lt _ _ _ (World.block_lt_of_cell? _ _ (((HB.out.cell (World.block_lt_of_cell? w _ hw440_2)).trans hw440_2)))).trans (((HB.out.cell (World.block_lt_of_cell? w _ hw440_2)).trans hw440_2)), (World.cell?_alloc_lt _ _ _ (World.block_lt_of_cell? _ _ (((HB.out.cell (World.block_lt_of_cell? w _ hw440_3)).trans hw440_3)))).trans (((HB.out.cell (World.block_lt_of_cell? w _ hw440_3)).trans hw440_3))⟩ (fun hHeld => ?_)
      clear hK K
      refine norm_ (a' := ?_) ?_ ?_
      rotate_left
      ·show Act.put _ (some 42) _ = _
       simp only [Act.put, List.setIfInBounds_toArray, List.set_cons_zero, List.set_cons_succ, i64_w, i32_w]
       rfl
      refine one_ (i := 28) (N := some 43) #[true, true, true, true, true, true, true, true, true, true, true, true, true, true, true, true, true, true, true, true, true, true, true, true, true, true, true, true, true, false, false] rfl rfl (one_of HT_.out (by kernel_rfl)) (by decide) (fun K hK => ?_)
      refine Kd.R_append_step k95 (w0 := w) w.heap.size (by rfl) (.tmp 16) (.tmp 42) 46 95 (.agg #[(.int .i64 0), (.int .i64 0), (.int .i64 0), (.int .i64 0)]) 32 rfl Try.underlying46 info95 rfl (by decide) (by omega) u437000 x437000_1 (⟨(rd_T107 l0_0 x4_1).f0, (rd_T107 l0_0 x4_1).f1, (rd_T107 l0_0 x4_1).f2, (rd_T107 l0_0 x4_1).f3⟩ : S95) [.int .i64 ((rd_T107 l0_0 x4_1).f0), .int .i64 ((rd_T107 l0_0 x4_1).f1), .int .i64 ((rd_T107 l0_0 x4_1).f2), .int .i64 ((rd_T107 l0_0 x4_1).f3)] (fun _ => True) (fun _ => False) rfl rfl ?aP (fun _ hk => hk.elim) ?aF ?aO ?aB ?aS ?aL ?_
      (case aP => exact k95_mkM _ _ _ (⟨(rd_T107 l0_0 x4_1).f0, (rd_T107 l0_0 x4_1).f1, (rd_T107 l0_0 x4_1).f2, (rd_T107 l0_0 x4_1).f3⟩ : S95))
      (case aB => exact (be_ HB.out))
      (case aF => exact (fun _ _ => trivial))
      (case aO => exact (ro_ HO_437000.out))
      (case aS => exact (below_size (be_ HB.out)))
      (case aL => have := LMc12.out; omega)
      intro v442 w17 ho hb hg hat
      rw [← Ny441.out] at ho
      have n0_ := am_ (blk_grown (g := gb434) (o := .cells #[.slice (some ad437) l0_0.length c0_0, .int .i64 a0_1] 61 (0, 0)) (bk_ BK434.out) hg (Kd.R_ne HO_437000.out BK434.out (by decide)))
      have n1_ := am_ (blk_grown (g := gb435) (o := .cells #[.slice none 0 0, .int .i64 0] 48 (0, 0)) (bk_ BK435.out) hg (Kd.R_ne HO_437000.out BK435.out (by decide)))
      have n2_ := am_ (blk_grown (g := gb436) (o := .cells #[u437000, .int .i64 a0_1] 48 (0, 0)) (bk_ BK436.out) hg (Kd.R_ne HO_437000.out BK436.out (by decide)))
      have n3_ := am_ (hb)
      have n4_ := am_ (ho)
      clear BK434
      clear BK435
      clear BK436
      clear HB
      clear HO_437000
      have BK434 := n0_
      have BK435 := n1_
      have BK436 := n2_
      have HB := n3_
      have HO443 := n4_
      clear n0_ n1_ n2_ n3_ n4_
      clear ho hb hg hat
      obtain ⟨Ao18, co18, eo18⟩ := Kd.R_slice HO443.out
      (first | subst eo18 | (injection eo18 with f1_ f2_ f3_; have f4_ := f1_.symm; have f5_ := f3_.symm; clear f1_ f2_ f3_; subst f4_; subst f5_))
      refine hK.out _ _ ⟨(blk_cell BK436.out 0).trans rfl, (blk_cell BK436.out 1).trans rfl, (blk_cell BK434.out 0).trans rfl, (blk_cell BK434.out 1).trans rfl, ((HB.out.cell (World.block_lt_of_cell? w _ hw437_0)).trans hw437_0), ((HB.out.cell (World.block_lt_of_cell? w _ hw437_1)).trans hw437_1), ((HB.out.cell (World.block_lt_of_cell? w _ hw437_2)).trans hw437_2), ((HB.out.cell (World.block_lt_of_cell? w _ hw437_3)).trans hw437_3), ((HB.out.cell (World.block_lt_of_cell? w _ hw438_0)).trans hw438_0), ((HB.out.cell (World.block_lt_of_cell? w _ hw438_1)).trans hw438_1), ((HB.out.cell (World.block_lt_of_cell? w _ hw438_2)).trans hw438_2), ((HB.out.cell (World.block_lt_of_cell? w _ hw438_3)).trans hw438_3), ((HB.out.cell (World.block_lt_of_cell? w _ hw439_0)).trans hw439_0), ((HB.out.cell (World.block_lt_of_cell? w _ hw439_1)).trans hw439_1), ((HB.out.cell (World.block_lt_of_cell? w _ hw439_2)).trans hw439_2), ((HB.out.cell (World.block_lt_of_cell? w _ hw439_3)).trans hw439_3), ((HB.out.cell (World.block_lt_of_cell? w _ hw440_0)).trans hw440_0), ((HB.out.cell (World.block_lt_of_cell? w _ hw440_1)).trans hw440_1), ((HB.out.cell (World.block_lt_of_cell? w _ hw440_2)).trans hw440_2), ((HB.out.cell (World.block_lt_of_cell? w _ hw440_3)).trans hw440_3)⟩ (fun hHeld => ?_)
      clear hK K
      refine norm_ (a' := ?_) ?_ ?_
      rotate_left
      ·show Act.put _ (some 43) _ = _
       simp only [Act.put, List.setIfInBounds_toArray, List.set_cons_zero, List.set_cons_succ, i64_w, i32_w]
       rfl
      refine pure_ (i := 29) (N := some 44) (v := ?_) (a' := ?_) #[true, true, true, true, true, true, true, true, true, true, true, true, true, true, true, true, true, true, true, true, true, true, true, true, true, true, true, true, true, true, false] rfl rfl (any_of HT_.out (by kernel_rfl)) (fun _ _ _ h => h) (Or.inl ⟨by rfl, ?_⟩) ?_ ?_
      rotate_left
      ·intro w'
       go_simp
       with_reducible rfl
      rotate_left
      ·simp only [Act.put, List.setIfInBounds_toArray, List.set_cons_zero, List.set_cons_succ, i64_w, i32_w]
       rfl
      refine last_ (i := 30) (N := none) #[true, true, true, true, true, true, true, true, true, true, true, true, true, true, true, true, true, true, true, true, true, true, true, true, true, true, true, true, true, true, true] rfl rfl (one_of HT_.out (by kernel_rfl)) (by decide) (fun K hK => ?_)
      have hs19 : w17.cell? ⟨gb436, 0, none⟩ = some (u437000) := (blk_cell BK436.out 0).trans rfl
      have hfs19 := blk_frozen BK436.out 0
      have hns19_0 := NB434_436.out
      have hns19_1 := NB435_436.out
      have hms19_0 := NB436_434.out
      have hms19_1 := NB436_435.out
      refine skip_ (w1 := ?_) (by rfl) rfl ?_ ?_
      rotate_left
      ·go_simp
       rfl
      refine hK.out _ _ ?_
      clear hK K
      refine done_ (done_of HT_.out (by kernel_rfl)) ?_
      try go_wp2
      go_roundg k1
      case measure => have := HK1.out; omega
      case rel => exact ⟨(wrap64 (x4_1 + 1)), (y441), (.slice Ao18 y441.length co18), (by first | rfl | (simp; done) | (simp [*]; done)), H', ⟨by have := HK1.out; omega⟩, ⟨by (with_reducible repeat (first | apply Kd.R_alloc | apply Kd.R_drewN | apply Kd.R_drew)); exact Kd.R_mono (Kd.R_far (p := ⟨gb436, 0, none⟩) (Kd.R_types HO443.out BK436.out (by decide)) (fun _ hk => hk.2) (.slice Ao18 y441.length co18)) (fun _ hk => trivial)⟩, ⟨by (with_reducible repeat (first | refine blk_drewN ?_ _ | refine blk_drew ?_ | refine blk_alloc ?_ _)); refine blk_far ?_ NB434_436.out _; (with_reducible repeat (first | refine blk_drewN ?_ _ | refine blk_drew ?_ | refine blk_alloc ?_ _)); exact BK434.out⟩, ⟨by (with_reducible repeat (first | refine blk_drewN ?_ _ | refine blk_drew ?_ | refine blk_alloc ?_ _)); refine blk_far ?_ NB435_436.out _; (with_reducible repeat (first | refine blk_drewN ?_ _ | refine blk_drew ?_ | refine blk_alloc ?_ _)); exact BK435.out⟩, ⟨by (with_reducible repeat (first | refine blk_drewN ?_ _ | refine blk_drew ?_ | refine blk_alloc ?_ _)); refine blk_put (cs := #[u437000, .int .i64 a0_1]) ?_ 0 _ rfl; (with_reducible repeat (first | refine blk_drewN ?_ _ | refine blk_drew ?_ | refine blk_alloc ?_ _)); exact BK436.out⟩, ⟨be_ HB.out⟩⟩
     ·rw [if_neg c12] at H
      exact absurd H (by simp)
    ·rw [if_neg c11] at H
     exact absurd H (by simp)
   ·rw [if_neg c10] at H
    have c10b0 : decide (x4_1 < (l0_0.length : Int)) = false := decide_eq_false c10
    clear c10
    simp only [Option.some.injEq, Prod.mk.injEq] at H
    obtain ⟨rfl, rfl⟩ := H
    have hnb20 := NB434_435.out
    have hnc20 := NB435_434.out
    have hnb21 := NB434_436.out
    have hnc21 := NB436_434.out
    have hcz22_0 : wr.cell? ⟨gb434, 0, none⟩ = some (.slice A0_0 l0_0.length c0_0) := (blk_cell BK434.out 0).trans rfl
    have hcz22_1 : wr.cell? ⟨gb434, 1, none⟩ = some (.int .i64 a0_1) := (blk_cell BK434.out 1).trans rfl
    have hfz22_0 := blk_frozen BK434.out 0
    have hfz22_1 := blk_frozen BK434.out 1
    have hnb23 := NB436_435.out
    have hnc23 := NB435_436.out
    have hcz24_0 : wr.cell? ⟨gb436, 0, none⟩ = some (u437000) := (blk_cell BK436.out 0).trans rfl
    have hcz24_1 : wr.cell? ⟨gb436, 1, none⟩ = some (.int .i64 a0_1) := (blk_cell BK436.out 1).trans rfl
    have hfz24_0 := blk_frozen BK436.out 0
    have hfz24_1 := blk_frozen BK436.out 1
    obtain ⟨Ao25, co25, eo25⟩ := Kd.R_slice HO_437000.out
    subst eo25
    have hcz26_0 : wr.cell? ⟨gb435, 0, none⟩ = some (.slice none 0 0) := (blk_cell BK435.out 0).trans rfl
    have hcz26_1 : wr.cell? ⟨gb435, 1, none⟩ = some (.int .i64 0) := (blk_cell BK435.out 1).trans rfl
    have hfz26_0 := blk_frozen BK435.out 0
    have hfz26_1 := blk_frozen BK435.out 1
    go_wp2
    refine bodyPost_ret (results_cell_row rfl _ _ gb435 48 #[.slice Ao25 x437000_1.length co25, .int .i64 a0_1] (0, 0) _ rfl (by (with_reducible repeat (first | refine blk_drewN ?_ _ | refine blk_drew ?_ | refine blk_alloc ?_ _)); refine blk_put (cs := #[.slice Ao25 x437000_1.length co25, .int .i64 0]) ?_ 1 _ rfl; (with_reducible repeat (first | refine blk_drewN ?_ _ | refine blk_drew ?_ | refine blk_alloc ?_ _)); refine blk_put (cs := #[.slice none 0 0, .int .i64 0]) ?_ 0 _ rfl; (with_reducible repeat (first | refine blk_drewN ?_ _ | refine blk_drew ?_ | refine blk_alloc ?_ _)); exact BK435.out) Try.underlying48 rfl (by kernel_rfl)) rfl ?_
    exact ⟨_, by first | rfl | (simp [errW_none, errW_some] <;> rfl) | (simp [*, errW_none, errW_some] <;> rfl), by (with_reducible repeat (first | apply Kd.R_alloc | apply Kd.R_drewN | apply Kd.R_drew)); exact Kd.R_mono (Kd.R_far (p := ⟨gb435, 1, none⟩) (Kd.R_far (p := ⟨gb435, 0, none⟩) (Kd.R_types HO_437000.out BK435.out (by decide)) (fun _ hk => hk.2) (.slice Ao25 x437000_1.length co25)) (fun _ hk => hk.2) (.int .i64 a0_1)) (fun _ hk => trivial), be_ HB.out⟩

end Go.Proofs.Ytjpoepiidmoegaa.Q
