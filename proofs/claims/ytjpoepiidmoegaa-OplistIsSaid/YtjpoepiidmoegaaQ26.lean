-- Cut to what one claim reaches, out of what the kit's print laid for this seat (wip/tools/trim.py).
import Derived.Test.YtjpoepiidmoegaaQ0
import Derived.Test.YtjpoepiidmoegaaQ3
import Derived.Test.YtjpoepiidmoegaaQ4
import Derived.Test.YtjpoepiidmoegaaQ5
import Derived.Test.YtjpoepiidmoegaaQ6
import Derived.Test.YtjpoepiidmoegaaQ7
import Derived.Test.YtjpoepiidmoegaaQ10
import Derived.Test.YtjpoepiidmoegaaQ14
import Derived.Test.YtjpoepiidmoegaaQ17
import Derived.Test.YtjpoepiidmoegaaQ18
import Derived.Test.YtjpoepiidmoegaaQ20
import Derived.Test.YtjpoepiidmoegaaQ21
import Derived.Test.YtjpoepiidmoegaaQ22
import Derived.Test.YtjpoepiidmoegaaQ23
import Derived.Test.YtjpoepiidmoegaaQ25
import Derived.Test.YtjpoepiidmoegaaOE
import Derived.Test.YtjpoepiidmoegaaOP
import Derived.Test.YtjpoepiidmoegaaOU
import Derived.Test.YtjpoepiidmoegaaQF
import Derived.Test.YtjpoepiidmoegaaQS
namespace Go.Proofs.Ytjpoepiidmoegaa.Q
open Go.RowKit Go.Proofs.YtjpoepiidmoegaaW.PrintWords Go.Proofs.YtjpoepiidmoegaaW.PrintLast Go.Proofs.YtjpoepiidmoegaaW.PrintMore
attribute [local go_sem] max2_int min2_int max_two min_two max_three min_three max_four min_four   -- for this text's walks alone
set_option linter.unusedVariables false
set_option linter.unusedSimpArgs false

mutual
def heronrylaw15_OplistIs.j0 : Nat → Int → Int → Int → List Int → Bool → Bool → List (S83) → List (S107) → Int → Option (Bool)
 | 0, _, _, _, _, _, _, _, _, _ => none
 | k + 1, x2, x3, x4, x5, x13, x38, x464000, x465000, x465001 => if x38 = true then (some x13) else ((heronrylaw15_ours.f k x464000).bind fun t466 => ((oplist_Do.f k t466 x2 x3 x4).bind fun bt470 => ((heronryref15_Do.f k x464000 x2 x3 x4).bind fun bt475 => ((heronrylaw15_theirs.f k bt470.1).bind fun t480 => ((heronryref15_Same.f k t480 bt475.1).bind fun t483 => (if t483 = true then (if bt470.2 = bt475.2 then ((oplist_Sane.f t466).bind fun t484 => ((heronryref15_Sane.f k x464000).bind fun t485 => (heronrylaw15_OplistIs.j1 k x2 x3 x5 x13 (t484 != t485) x464000 x465000 x465001 t466))) else (none)) else (none)))))))
def heronrylaw15_OplistIs.j1 : Nat → Int → Int → List Int → Bool → Bool → List (S83) → List (S107) → Int → List (S33) → Option (Bool)
 | 0, _, _, _, _, _, _, _, _, _ => none
 | k + 1, x2, x3, x5, x13, x76, x464000, x465000, x465001, x470000 => if x76 = true then (none) else ((heronryref15_Sane.f k x464000).bind fun t486 => (if t486 = true then ((oplist_Net.f k x470000 x3).bind fun bt487 => ((heronryref15_Net.f k x464000 x3).bind fun bt489 => (if x13 = true then (if bt487.1 = bt489.1 then (if bt487.2 = bt489.2 then ((oplist_Undo.f x470000 x5).bind fun t491 => ((heronrylaw15_theirs.f k t491).bind fun t494 => ((heronryref15_Undo.f k x464000 x5).bind fun t497 => ((heronryref15_Same.f k t494 t497).bind fun t500 => (if t500 = true then ((oplist_Open.f x470000 x2).bind fun t501 => ((heronrylaw15_theirs.f k t501).bind fun t504 => ((heronryref15_Open.f k x464000 x2).bind fun t507 => ((heronryref15_Same.f k t504 t507).bind fun t510 => (if t510 = true then ((heronrylaw15_grove.f k x465000 x465001).bind fun bt511 => ((oplist_Ops.f x470000 bt511.1 bt511.2 x2).bind fun t515 => ((heronryref15_Ops.f k x464000 x465000 x465001 x2).bind fun t518 => ((heronryref15_SameOps.f k t515 t518).bind fun t521 => (if t521 = true then ((heronrylaw15_theirs.f k x470000).bind fun t522 => ((heronryref15_Same.f k t522 x464000).bind fun t525 => (some t525))) else (none)))))) else (none)))))) else (none)))))) else (none)) else (none)) else (none)))) else (some x13)))
end
def heronrylaw15_OplistIs.f (k : Nat) (l0_0 : List (S83)) (l1_0 : List (S107)) (a1_1 : Int) (a2 : Int) (a3 : Int) (a4 : Int) (l5 : List Int) : Option (Bool) := (heronrylaw15_awake.f k).bind fun t465 => (if (l0_0.length : Int) > 270 then (heronrylaw15_OplistIs.j0 k a2 a3 a4 l5 t465 true l0_0 l1_0 a1_1) else (if (l1_0.length : Int) > 66 then (heronrylaw15_OplistIs.j0 k a2 a3 a4 l5 t465 true l0_0 l1_0 a1_1) else (heronrylaw15_OplistIs.j0 k a2 a3 a4 l5 t465 (decide ((l5.length : Int) > 60)) l0_0 l1_0 a1_1)))
def heronrylaw15_OplistIs.T7 : Bool × List (List Nat × List Nat) := (true, [([], []), ([0], [0]), ([1], [1]), ([], []), ([3], [3]), ([2, 4, 2], [2, 4]), ([5], [5]), ([6, 5], [6]), ([7], [7]), ([7], [7]), ([8, 9, 7], [7, 8, 9]), ([7, 10], [7, 10]), ([11, 7], [11]), ([12], [12]), ([13, 12, 12], [12, 13]), ([12], [12]), ([15, 14, 12], [12, 15]), ([14, 16, 12], [12, 14, 16]), ([12, 17], [12, 17])])
def heronrylaw15_OplistIs.B7 : List Nat := [0, 1, 3, 0, 8, 31, 63, 127, 255, 255, 1023, 2047, 4095, 8191, 16383, 8191, 65535, 131071, 262143]
theorem heronrylaw15_OplistIs.tab7 : rtab .any (opsOf Try.f7 7) = heronrylaw15_OplistIs.T7 := by kernel_rfl
theorem heronrylaw15_OplistIs.bits7 : waitsOk heronrylaw15_OplistIs.T7.2 heronrylaw15_OplistIs.B7 = true := by kernel_rfl
def heronrylaw15_OplistIs.T13 : Bool × List (List Nat × List Nat) := (true, [([], []), ([0], [0]), ([1], [1]), ([1], [1]), ([2, 3, 1], [1, 2, 3]), ([1, 4], [1, 4]), ([5, 1], [5]), ([6], [6]), ([6], [6]), ([7, 8, 6], [6, 7, 8]), ([6, 9], [6, 9]), ([10, 6], [10]), ([11], [11]), ([11], [11]), ([12, 13, 11, 11], [11, 12, 13]), ([14, 11], [11, 14]), ([15, 14, 11], [11, 15]), ([11], [11]), ([11], [11]), ([17, 18, 16, 11], [11, 17, 18]), ([19, 11], [11, 19]), ([16, 20, 19, 11], [11, 16, 20]), ([11, 21], [11, 21]), ([22, 21], [22]), ([23], [23]), ([23], [23]), ([24, 25, 23, 23], [23, 24, 25]), ([26, 26, 23], [23, 26]), ([23], [23]), ([23], [23]), ([28, 29, 27, 23], [23, 28, 29]), ([27, 30, 30, 23], [23, 27, 30]), ([23, 31], [23, 31]), ([32, 31], [32]), ([33], [33]), ([33], [33]), ([35, 33, 33], [33, 35]), ([33], [33]), ([34, 36, 37, 36, 33], [33, 34, 36, 37]), ([33], [33]), ([33], [33]), ([33], [33]), ([39, 40, 41, 38, 33], [33, 39, 40, 41]), ([38, 42, 42, 33], [33, 38, 42]), ([33, 43], [33, 43]), ([44, 43], [44]), ([45], [45]), ([46, 45], [45, 46]), ([47, 45, 45], [45, 47]), ([45], [45]), ([49, 45], [45, 49]), ([48, 50, 48, 45], [45, 48, 50]), ([45, 51], [45, 51]), ([52, 51, 0, 1, 2, 3, 4, 5, 6, 7, 8, 9, 10, 11, 12, 13, 14, 15, 16, 17, 18, 19, 20, 21, 22, 23, 24, 25, 26, 27, 28, 29, 30, 31, 32, 33, 34, 35, 36, 37, 38, 39, 40, 41, 42, 43, 44, 45, 46, 47, 48, 49, 50, 51, 52], [52])])
def heronrylaw15_OplistIs.B13 : List Nat := [0, 1, 3, 3, 15, 31, 63, 127, 127, 511, 1023, 2047, 4095, 4095, 16383, 32767, 65535, 4095, 4095, 524287, 1048575, 2097151, 4194303, 8388607, 16777215, 16777215, 67108863, 134217727, 16777215, 16777215, 1073741823, 2147483647, 4294967295, 8589934591, 17179869183, 17179869183, 51539607551, 17179869183, 274877906943, 17179869183, 17179869183, 17179869183, 4398046511103, 8796093022207, 17592186044415, 35184372088831, 70368744177663, 140737488355327, 281474976710655, 70368744177663, 633318697598975, 2251799813685247, 4503599627370495, 9007199254740991]
theorem heronrylaw15_OplistIs.tab13 : rtab .any (opsOf Try.f7 13) = heronrylaw15_OplistIs.T13 := by kernel_rfl
theorem heronrylaw15_OplistIs.bits13 : waitsOk heronrylaw15_OplistIs.T13.2 heronrylaw15_OplistIs.B13 = true := by kernel_rfl
set_option maxHeartbeats 8000000 in
set_option maxRecDepth 100000 in
theorem heronrylaw15_OplistIs.calls (k : Nat) (A0_0 : Option Addr) (c0_0 : Nat) (l0_0 : List (S83)) (A1_0 : Option Addr) (c1_0 : Nat) (l1_0 : List (S107)) (a1_1 : Int) (a2 : Int) (a3 : Int) (a4 : Int) (A5 : Option Addr) (c5 : Nat) (l5 : List Int) (r : Bool) (w : World) (hT_ : Aside0 (r = true)) (hr0_0 : Kd.C k83 w A0_0 l0_0.length l0_0) (hc0_0 : l0_0.length ≤ c0_0) (hr1_0 : Kd.C k107 w A1_0 l1_0.length l1_0) (hc1_0 : l1_0.length ≤ c1_0) (hr5 : Kd.C (Kd.int .i64) w A5 l5.length l5) (hc5 : l5.length ≤ c5) (h : heronrylaw15_OplistIs.f k l0_0 l1_0 a1_1 a2 a3 a4 l5 = some r) :
  Calls Try.prog 7 #[.agg #[.slice A0_0 l0_0.length c0_0], .agg #[.slice A1_0 l1_0.length c1_0, .int .i64 a1_1], .int .i64 a2, .int .i64 a3, .int .i64 a4, .slice A5 l5.length c5] w fun e w' => e = .returned (.bool r) ∧ Below w.heap.size w w' := by
 have hu58 := Try.underlying58
 have hu61 := Try.underlying61
 have hu26 := Try.underlying26
 have HR0_0 := am_ hr0_0
 have HC0_0 := am_ hc0_0
 clear hr0_0 hc0_0
 have HR1_0 := am_ hr1_0
 have HC1_0 := am_ hc1_0
 clear hr1_0 hc1_0
 have HR5 := am_ hr5
 have HC5 := am_ hc5
 clear hr5 hc5
 have HB := am_ (Below.refl w.heap.size w)
 have H : ((heronrylaw15_awake.f k).bind fun t465 => (if (l0_0.length : Int) > 270 then (heronrylaw15_OplistIs.j0 k a2 a3 a4 l5 t465 true l0_0 l1_0 a1_1) else (if (l1_0.length : Int) > 66 then (heronrylaw15_OplistIs.j0 k a2 a3 a4 l5 t465 true l0_0 l1_0 a1_1) else (heronrylaw15_OplistIs.j0 k a2 a3 a4 l5 t465 (decide ((l5.length : Int) > 60)) l0_0 l1_0 a1_1)))) = some r := h
 clear h
 replace H := Option.bind_eq_some_iff.mp H
 obtain ⟨t465, A70, H⟩ := H
 replace H : (if (l0_0.length : Int) > 270 then (heronrylaw15_OplistIs.j0 k a2 a3 a4 l5 t465 true l0_0 l1_0 a1_1) else (if (l1_0.length : Int) > 66 then (heronrylaw15_OplistIs.j0 k a2 a3 a4 l5 t465 true l0_0 l1_0 a1_1) else (heronrylaw15_OplistIs.j0 k a2 a3 a4 l5 t465 (decide ((l5.length : Int) > 60)) l0_0 l1_0 a1_1))) = some r := H
 have A7 := am_ A70
 clear A70
 have HC8 := am_ H
 clear H
 go_enter Try.func7, Try.ntmps7
 go_upto_region 2 with (first | ((with_reducible refine gate_dst (N := 6) rfl ?_); (try (refine gate_guard (by rfl) ?_; dsimp only)); refine box_event ?hg (N := 6) ?hd (cs := #[.slice A0_0 l0_0.length c0_0]) (t := 58) ?hr ?_; (case hd => rfl); (case hg => rfl); (case hr => first | (go_simp; done) | (go_simp; rfl)); intro gb463 hg w9 hbox hb; have n0_ := am_ (below_step (be_ HB.out) hb); have n1_ := am_ (hbox); have n2_ := am_ ((by rw [hg]; exact (below_size (be_ HB.out)) : w.heap.size ≤ gb463)); have n3_ := am_ ((by rw [hg]; exact (below_size (be_ HB.out)) : w.heap.size ≤ gb463)); clear HB; have HB := n0_; have BK463 := n1_; have GW463 := n2_; have GE463 := n3_; clear n0_ n1_ n2_ n3_; clear hb hbox hg) | ((with_reducible refine gate_dst (N := 7) rfl ?_); (try (refine gate_guard (by rfl) ?_; dsimp only)); refine box_event ?hg (N := 7) ?hd (cs := #[.slice A1_0 l1_0.length c1_0, .int .i64 a1_1]) (t := 61) ?hr ?_; (case hd => rfl); (case hg => rfl); (case hr => first | (go_simp; done) | (go_simp; rfl)); intro gb464 hg w10 hbox hb; have n0_ := am_ (bb_ BK463.out hb); have n1_ := am_ (below_step (be_ HB.out) hb); have n2_ := am_ (hbox); have n3_ := am_ ((by rw [hg]; exact (below_size (be_ HB.out)) : w.heap.size ≤ gb464)); have n4_ := am_ ((by rw [hg]; exact (below_size (be_ HB.out)) : w.heap.size ≤ gb464)); have n5_ := am_ ((by rw [hg]; exact Nat.ne_of_lt (bl_ BK463.out) : gb463 ≠ gb464)); have n6_ := am_ ((by rw [hg]; exact Nat.ne_of_gt (bl_ BK463.out) : gb464 ≠ gb463)); clear BK463; clear HB; have BK463 := n0_; have HB := n1_; have BK464 := n2_; have GW464 := n3_; have GE464 := n4_; have NB463_464 := n5_; have NB464_463 := n6_; clear n0_ n1_ n2_ n3_ n4_ n5_ n6_; clear hb hbox hg) | ((with_reducible refine gate_callee (f := 8) rfl ?_); refine goesL_ (some 23) rfl rfl Try.func8 (by kernel_rfl) rfl #[] rfl ma_ ?_; (with_reducible refine (heronrylaw15_awake.calls k  t465 _ A7.out).mono ?_); rintro e w11 ⟨rfl, hb⟩; refine ⟨_, rfl, ?_⟩; have n0_ := am_ (bb_ BK463.out hb); have n1_ := am_ (bb_ BK464.out hb); have n2_ := am_ (below_step (be_ HB.out) hb); clear BK463; clear BK464; clear HB; have BK463 := n0_; have BK464 := n1_; have HB := n2_; clear n0_ n1_ n2_; (try clear hb); (try clear hb2); (try clear hk); (try clear hi)))
 (try simp only [Act.put, List.setIfInBounds_toArray, List.set_cons_zero, List.set_cons_succ])
 go_cut [38] (fun v38 wc => ∃ (kq : Nat) (x38_7 : Bool), v38 = .bool x38_7 ∧ Aside0 (heronrylaw15_OplistIs.j0 kq a2 a3 a4 l5 t465 x38_7 l0_0 l1_0 a1_1 = some r) ∧ Aside0 (kq ≤ k) ∧ Aside0 (wc.heap[gb463]? = some (.cells #[(.slice A0_0 l0_0.length c0_0)] 58 (0, 0))) ∧ Aside0 (wc.heap[gb464]? = some (.cells #[(.slice A1_0 l1_0.length c1_0), .int .i64 a1_1] 61 (0, 0))) ∧ Aside0 (Below w.heap.size w wc))
 case first =>
  have H := HC8.out
  clear HC8
  by_cases c12 : (l0_0.length : Int) > 270
  ·rw [if_pos c12] at H
   have c12b0 : decide (270 < (l0_0.length : Int)) = true := decide_eq_true c12
   have c12b1 : decide (270 < l0_0.length) = true := decide_eq_true (by omega)
   clear c12
   (first | rw [c12b0] | (simp only [i64_w, i32_w]; rw [c12b0]) | skip)
   have H' := am_ H
   clear H
   have hnb13 := NB463_464.out
   have hnc13 := NB464_463.out
   have hcz14_0 : w11.cell? ⟨gb463, 0, none⟩ = some (.slice A0_0 l0_0.length c0_0) := (blk_cell BK463.out 0).trans rfl
   have hfz14_0 := blk_frozen BK463.out 0
   go_wp2
   go_meet
   case rel => exact ⟨_, (true), (by first | rfl | (simp; done) | (simp [*]; done)), H', ⟨by first | omega | exact Nat.le_refl _⟩, ⟨bk_ BK463.out⟩, ⟨bk_ BK464.out⟩, ⟨be_ HB.out⟩⟩
  ·rw [if_neg c12] at H
   have c12b0 : decide (270 < (l0_0.length : Int)) = false := decide_eq_false c12
   have c12b1 : decide (270 < l0_0.length) = false := decide_eq_false (by omega)
   clear c12
   (first | rw [c12b0] | (simp only [i64_w, i32_w]; rw [c12b0]) | skip)
   by_cases c15 : (l1_0.length : Int) > 66
   ·rw [if_pos c15] at H
    have c15b0 : decide (66 < (l1_0.length : Int)) = true := decide_eq_true c15
    have c15b1 : decide (66 < l1_0.length) = true := decide_eq_true (by omega)
    clear c15
    have H' := am_ H
    clear H
    have hnb16 := NB463_464.out
    have hnc16 := NB464_463.out
    have hcz17_0 : w11.cell? ⟨gb463, 0, none⟩ = some (.slice A0_0 l0_0.length c0_0) := (blk_cell BK463.out 0).trans rfl
    have hfz17_0 := blk_frozen BK463.out 0
    have hcz18_0 : w11.cell? ⟨gb464, 0, none⟩ = some (.slice A1_0 l1_0.length c1_0) := (blk_cell BK464.out 0).trans rfl
    have hcz18_1 : w11.cell? ⟨gb464, 1, none⟩ = some (.int .i64 a1_1) := (blk_cell BK464.out 1).trans rfl
    have hfz18_0 := blk_frozen BK464.out 0
    have hfz18_1 := blk_frozen BK464.out 1
    go_wp2
    go_meet
    case rel => exact ⟨_, (true), (by first | rfl | (simp; done) | (simp [*]; done)), H', ⟨by first | omega | exact Nat.le_refl _⟩, ⟨bk_ BK463.out⟩, ⟨bk_ BK464.out⟩, ⟨be_ HB.out⟩⟩
   ·rw [if_neg c15] at H
    have c15b0 : decide (66 < (l1_0.length : Int)) = false := decide_eq_false c15
    have c15b1 : decide (66 < l1_0.length) = false := decide_eq_false (by omega)
    clear c15
    have H' := am_ H
    clear H
    have hnb19 := NB463_464.out
    have hnc19 := NB464_463.out
    have hcz20_0 : w11.cell? ⟨gb463, 0, none⟩ = some (.slice A0_0 l0_0.length c0_0) := (blk_cell BK463.out 0).trans rfl
    have hfz20_0 := blk_frozen BK463.out 0
    have hcz21_0 : w11.cell? ⟨gb464, 0, none⟩ = some (.slice A1_0 l1_0.length c1_0) := (blk_cell BK464.out 0).trans rfl
    have hcz21_1 : w11.cell? ⟨gb464, 1, none⟩ = some (.int .i64 a1_1) := (blk_cell BK464.out 1).trans rfl
    have hfz21_0 := blk_frozen BK464.out 0
    have hfz21_1 := blk_frozen BK464.out 1
    go_wp2
    go_meet
    case rel => exact ⟨_, (decide ((l5.length : Int) > 60)), (by first | rfl | (simp; done) | (simp [*]; done)), H', ⟨by first | omega | exact Nat.le_refl _⟩, ⟨bk_ BK463.out⟩, ⟨bk_ BK464.out⟩, ⟨be_ HB.out⟩⟩
 case rest =>
  clear HC8
  try clear c1
  try clear p2
  try clear c5
  try clear c7
  try clear c8
  try clear c12
  try clear c12b0
  try clear c12b1
  try clear c13
  try clear c15
  try clear c15b0
  try clear c15b1
  try clear c16
  try clear c19
  try clear hcz14_0
  try clear hcz17_0
  try clear hcz18_0
  try clear hcz18_1
  try clear hcz20_0
  try clear hcz21_0
  try clear hcz21_1
  try clear hfz14_0
  try clear hfz17_0
  try clear hfz18_0
  try clear hfz18_1
  try clear hfz20_0
  try clear hfz21_0
  try clear hfz21_1
  obtain ⟨kq, x38_7, rfl, HA, HJ7, BK463, BK464, HB⟩ := hcut
  cases kq with
  | zero => exact absurd HA.out (by simp [heronrylaw15_OplistIs.j0])
  | succ kj7 =>
   have H := HA.out
   clear HA
   simp only [heronrylaw15_OplistIs.j0] at H
   by_cases c22 : x38_7 = true
   ·subst c22
    have H1 : (some t465) = some r := by rw [if_pos rfl] at H; exact H
    clear H
    have H := H1
    clear H1
    obtain rfl := Option.some.inj H
    go_wp2
    go_ret
    exact ⟨by first | rfl | (simp [errW_none, errW_some] <;> rfl) | (simp [*, errW_none, errW_some] <;> rfl), be_ HB.out⟩
   ·replace c22 := Bool.eq_false_iff.mpr c22
    subst c22
    have H1 : ((heronrylaw15_ours.f kj7 l0_0).bind fun t466 => ((oplist_Do.f kj7 t466 a2 a3 a4).bind fun bt470 => ((heronryref15_Do.f kj7 l0_0 a2 a3 a4).bind fun bt475 => ((heronrylaw15_theirs.f kj7 bt470.1).bind fun t480 => ((heronryref15_Same.f kj7 t480 bt475.1).bind fun t483 => (if t483 = true then (if bt470.2 = bt475.2 then ((oplist_Sane.f t466).bind fun t484 => ((heronryref15_Sane.f kj7 l0_0).bind fun t485 => (heronrylaw15_OplistIs.j1 kj7 a2 a3 l5 t465 (t484 != t485) l0_0 l1_0 a1_1 t466))) else (none)) else (none))))))) = some r := by rw [if_neg (show ¬ (false = true) by decide)] at H; exact H
    clear H
    have H := H1
    clear H1
    replace H := Option.bind_eq_some_iff.mp H
    obtain ⟨t466, A230, H⟩ := H
    replace H : ((oplist_Do.f kj7 t466 a2 a3 a4).bind fun bt470 => ((heronryref15_Do.f kj7 l0_0 a2 a3 a4).bind fun bt475 => ((heronrylaw15_theirs.f kj7 bt470.1).bind fun t480 => ((heronryref15_Same.f kj7 t480 bt475.1).bind fun t483 => (if t483 = true then (if bt470.2 = bt475.2 then ((oplist_Sane.f t466).bind fun t484 => ((heronryref15_Sane.f kj7 l0_0).bind fun t485 => (heronrylaw15_OplistIs.j1 kj7 a2 a3 l5 t465 (t484 != t485) l0_0 l1_0 a1_1 t466))) else (none)) else (none)))))) = some r := H
    have A23 := am_ A230
    clear A230
    replace H := Option.bind_eq_some_iff.mp H
    obtain ⟨⟨t470, t473⟩, A240, H⟩ := H
    replace H : ((heronryref15_Do.f kj7 l0_0 a2 a3 a4).bind fun bt475 => ((heronrylaw15_theirs.f kj7 t470).bind fun t480 => ((heronryref15_Same.f kj7 t480 bt475.1).bind fun t483 => (if t483 = true then (if t473 = bt475.2 then ((oplist_Sane.f t466).bind fun t484 => ((heronryref15_Sane.f kj7 l0_0).bind fun t485 => (heronrylaw15_OplistIs.j1 kj7 a2 a3 l5 t465 (t484 != t485) l0_0 l1_0 a1_1 t466))) else (none)) else (none))))) = some r := H
    have A24 := am_ A240
    clear A240
    replace H := Option.bind_eq_some_iff.mp H
    obtain ⟨⟨t475, t478⟩, A250, H⟩ := H
    replace H : ((heronrylaw15_theirs.f kj7 t470).bind fun t480 => ((heronryref15_Same.f kj7 t480 t475).bind fun t483 => (if t483 = true then (if t473 = t478 then ((oplist_Sane.f t466).bind fun t484 => ((heronryref15_Sane.f kj7 l0_0).bind fun t485 => (heronrylaw15_OplistIs.j1 kj7 a2 a3 l5 t465 (t484 != t485) l0_0 l1_0 a1_1 t466))) else (none)) else (none)))) = some r := H
    have A25 := am_ A250
    clear A250
    have HC26 := am_ H
    clear H
    have hnb27 := NB463_464.out
    have hnc27 := NB464_463.out
    have hcz28_0 : wc.cell? ⟨gb463, 0, none⟩ = some (.slice A0_0 l0_0.length c0_0) := (blk_cell BK463.out 0).trans rfl
    have hfz28_0 := blk_frozen BK463.out 0
    go_upto_region 7 with (first | ((with_reducible refine gate_callee (f := 21) rfl ?_); refine goesL_ (some 41) rfl rfl Try.func21 (by kernel_rfl) rfl #[.agg #[.slice A0_0 l0_0.length c0_0]] rfl ma_ ?_; (with_reducible refine (heronrylaw15_ours.calls kj7 _ _ l0_0 t466 _ ?side1 ?side2 A23.out).mono ?_); (case side1 => repeat (first | exact (Kd.C_below HR0_0.out HB.out) | (with_reducible refine Kd.C_alloc ?_ _) | (with_reducible refine Kd.C_drewN ?_ _) | (with_reducible refine Kd.C_drew ?_))); (case side2 => exact HC0_0.out); rintro e w29 ⟨v467, rfl, ho0, hb⟩; refine ⟨_, rfl, ?_⟩; have n0_ := am_ (Kd.R_lower ho0 (below_size (be_ HB.out))); have n1_ := am_ (bb_ BK463.out hb); have n2_ := am_ (bb_ BK464.out hb); have n3_ := am_ (below_step (be_ HB.out) hb); clear BK463; clear BK464; clear HB; have HO468 := n0_; have BK463 := n1_; have BK464 := n2_; have HB := n3_; clear n0_ n1_ n2_ n3_; (try clear hb); (try clear hb2); (try clear hk); (try clear hi); (try clear ho0)) | ((with_reducible refine gate_dst (N := 14) rfl ?_); (try (refine gate_guard (by rfl) ?_; dsimp only)); refine box_event ?hg (N := 14) ?hd (cs := #[.slice none 0 0]) (t := 26) ?hr ?_; (case hd => rfl); (case hg => rfl); (case hr => first | (go_simp; done) | (go_simp; rfl)); intro gb469 hg w30 hbox hb; have n0_ := am_ (Kd.R_below (ro_ HO468.out) hb); have n1_ := am_ (bb_ BK463.out hb); have n2_ := am_ (bb_ BK464.out hb); have n3_ := am_ (below_step (be_ HB.out) hb); have n4_ := am_ (hbox); have n5_ := am_ ((by rw [hg]; exact (below_size (be_ HB.out)) : w.heap.size ≤ gb469)); have n6_ := am_ ((by rw [hg]; exact (below_size (be_ HB.out)) : w.heap.size ≤ gb469)); have n7_ := am_ ((by rw [hg]; exact Nat.ne_of_lt (bl_ BK463.out) : gb463 ≠ gb469)); have n8_ := am_ ((by rw [hg]; exact Nat.ne_of_gt (bl_ BK463.out) : gb469 ≠ gb463)); have n9_ := am_ ((by rw [hg]; exact Nat.ne_of_lt (bl_ BK464.out) : gb464 ≠ gb469)); have n10_ := am_ ((by rw [hg]; exact Nat.ne_of_gt (bl_ BK464.out) : gb469 ≠ gb464)); clear HO468; clear BK463; clear BK464; clear HB; have HO468 := n0_; have BK463 := n1_; have BK464 := n2_; have HB := n3_; have BK469 := n4_; have GW469 := n5_; have GE469 := n6_; have NB463_469 := n7_; have NB469_463 := n8_; have NB464_469 := n9_; have NB469_464 := n10_; clear n0_ n1_ n2_ n3_ n4_ n5_ n6_ n7_ n8_ n9_ n10_; clear hb hbox hg; obtain ⟨Ao31, co31, eo31⟩ := Kd.R_slice HO468.out; subst eo31; have hnb32 := NB469_463.out; have hnc32 := NB463_469.out; have hnb33 := NB469_464.out; have hnc33 := NB464_469.out; have hcz34_0 : w30.cell? ⟨gb469, 0, none⟩ = some (.slice none 0 0) := (blk_cell BK469.out 0).trans rfl; have hfz34_0 := blk_frozen BK469.out 0) | ((with_reducible refine gate_callee (f := 10) rfl ?_); refine goesL_ (some 47) rfl rfl Try.func10 (by kernel_rfl) rfl #[.agg #[.slice Ao31 t466.length co31], .int .i64 a2, .int .i64 a3, .int .i64 a4] rfl ma_ ?_; (with_reducible refine (oplist_Do.calls kj7 _ _ t466 a2 a3 a4 t470 t473 _ ?side1 ?side2 A24.out).mono ?_); (case side1 => refine (Kd.R_reads' (e := 33) (base := w.heap.size) (ok := fun k_ => True) (n := t466.length) (c := co31) ?_).2.2; exact (by (with_reducible repeat (first | apply Kd.R_alloc | apply Kd.R_drewN | apply Kd.R_drew)); exact (Kd.R_mono (Kd.R_far (p := ⟨gb469, 0, none⟩) (Kd.R_types HO468.out BK469.out (by decide)) (fun _ hk => hk.2) (.slice Ao31 t466.length co31)) (fun _ h_ => h_.1)))); (case side2 => exact (Kd.R_reads' HO468.out).2.1); rintro e w35 ⟨v471, rfl, ho0, hb⟩; refine ⟨_, rfl, ?_⟩; have n0_ := am_ (Kd.R_elder' (by (with_reducible repeat (first | apply Kd.R_alloc | apply Kd.R_drewN | apply Kd.R_drew)); exact (Kd.R_mono (Kd.R_far (p := ⟨gb469, 0, none⟩) (Kd.R_types HO468.out BK469.out (by decide)) (fun _ hk => hk.2) (.slice Ao31 t466.length co31)) (fun _ h_ => h_.1))) (Kd.R_base ho0) hb); have n1_ := am_ (Kd.R_lower (Kd.R_new' ho0 (Kd.R_lt (by (with_reducible repeat (first | apply Kd.R_alloc | apply Kd.R_drewN | apply Kd.R_drew)); exact (Kd.R_mono (Kd.R_far (p := ⟨gb469, 0, none⟩) (Kd.R_types HO468.out BK469.out (by decide)) (fun _ hk => hk.2) (.slice Ao31 t466.length co31)) (fun _ h_ => h_.1))))) (below_size (be_ HB.out))); have n2_ := am_ (blk_below (g := gb463) (o := .cells #[.slice A0_0 l0_0.length c0_0] 58 (0, 0)) (by (with_reducible repeat (first | refine blk_drewN ?_ _ | refine blk_drew ?_ | refine blk_alloc ?_ _)); refine blk_far ?_ NB463_469.out _; (with_reducible repeat (first | refine blk_drewN ?_ _ | refine blk_drew ?_ | refine blk_alloc ?_ _)); exact BK463.out) hb); have n3_ := am_ (blk_below (g := gb464) (o := .cells #[.slice A1_0 l1_0.length c1_0, .int .i64 a1_1] 61 (0, 0)) (by (with_reducible repeat (first | refine blk_drewN ?_ _ | refine blk_drew ?_ | refine blk_alloc ?_ _)); refine blk_far ?_ NB464_469.out _; (with_reducible repeat (first | refine blk_drewN ?_ _ | refine blk_drew ?_ | refine blk_alloc ?_ _)); exact BK464.out) hb); have n4_ := am_ (blk_below (g := gb469) (o := .cells #[.slice Ao31 t466.length co31] 26 (0, 0)) (by (with_reducible repeat (first | refine blk_drewN ?_ _ | refine blk_drew ?_ | refine blk_alloc ?_ _)); refine blk_put (cs := #[.slice none 0 0]) ?_ 0 _ rfl; (with_reducible repeat (first | refine blk_drewN ?_ _ | refine blk_drew ?_ | refine blk_alloc ?_ _)); exact BK469.out) hb); have n5_ := am_ (below_step (be_ HB.out) hb); clear HO468; clear BK463; clear BK464; clear BK469; clear HB; have HO468 := n0_; have HO472 := n1_; have BK463 := n2_; have BK464 := n3_; have BK469 := n4_; have HB := n5_; clear n0_ n1_ n2_ n3_ n4_ n5_; (try clear hb); (try clear hb2); (try clear hk); (try clear hi); (try clear ho0)) | ((with_reducible refine gate_dst (N := 15) rfl ?_); (try (refine gate_guard (by rfl) ?_; dsimp only)); refine box_event ?hg (N := 15) ?hd (cs := #[.slice none 0 0]) (t := 26) ?hr ?_; (case hd => rfl); (case hg => rfl); (case hr => first | (go_simp; done) | (go_simp; rfl)); intro gb474 hg w36 hbox hb; have n0_ := am_ (Kd.R_below (ro_ HO468.out) hb); have n1_ := am_ (Kd.R_below (ro_ HO472.out) hb); have n2_ := am_ (bb_ BK463.out hb); have n3_ := am_ (bb_ BK464.out hb); have n4_ := am_ (bb_ BK469.out hb); have n5_ := am_ (below_step (be_ HB.out) hb); have n6_ := am_ (hbox); have n7_ := am_ ((by rw [hg]; exact (below_size (be_ HB.out)) : w.heap.size ≤ gb474)); have n8_ := am_ ((by rw [hg]; exact (below_size (be_ HB.out)) : w.heap.size ≤ gb474)); have n9_ := am_ ((by rw [hg]; exact Nat.ne_of_lt (bl_ BK463.out) : gb463 ≠ gb474)); have n10_ := am_ ((by rw [hg]; exact Nat.ne_of_gt (bl_ BK463.out) : gb474 ≠ gb463)); have n11_ := am_ ((by rw [hg]; exact Nat.ne_of_lt (bl_ BK464.out) : gb464 ≠ gb474)); have n12_ := am_ ((by rw [hg]; exact Nat.ne_of_gt (bl_ BK464.out) : gb474 ≠ gb464)); have n13_ := am_ ((by rw [hg]; exact Nat.ne_of_lt (bl_ BK469.out) : gb469 ≠ gb474)); have n14_ := am_ ((by rw [hg]; exact Nat.ne_of_gt (bl_ BK469.out) : gb474 ≠ gb469)); clear HO468; clear HO472; clear BK463; clear BK464; clear BK469; clear HB; have HO468 := n0_; have HO472 := n1_; have BK463 := n2_; have BK464 := n3_; have BK469 := n4_; have HB := n5_; have BK474 := n6_; have GW474 := n7_; have GE474 := n8_; have NB463_474 := n9_; have NB474_463 := n10_; have NB464_474 := n11_; have NB474_464 := n12_; have NB469_474 := n13_; have NB474_469 := n14_; clear n0_ n1_ n2_ n3_ n4_ n5_ n6_ n7_ n8_ n9_ n10_ n11_ n12_ n13_ n14_; clear hb hbox hg; obtain ⟨Ao37, co37, eo37⟩ := Kd.R_slice HO472.out; subst eo37; have hnb38 := NB474_463.out; have hnc38 := NB463_474.out; have hnb39 := NB474_464.out; have hnc39 := NB464_474.out; have hnb40 := NB474_469.out; have hnc40 := NB469_474.out; have hcz41_0 : w36.cell? ⟨gb474, 0, none⟩ = some (.slice none 0 0) := (blk_cell BK474.out 0).trans rfl; have hfz41_0 := blk_frozen BK474.out 0; have hcz42_0 : w36.cell? ⟨gb463, 0, none⟩ = some (.slice A0_0 l0_0.length c0_0) := (blk_cell BK463.out 0).trans rfl; have hfz42_0 := blk_frozen BK463.out 0) | ((with_reducible refine gate_callee (f := 22) rfl ?_); refine goesL_ (some 55) rfl rfl Try.func22 (by kernel_rfl) rfl #[.agg #[.slice A0_0 l0_0.length c0_0], .int .i64 a2, .int .i64 a3, .int .i64 a4] rfl ma_ ?_; (with_reducible refine (heronryref15_Do.calls kj7 _ _ l0_0 a2 a3 a4 t475 t478 _ ?side1 ?side2 A25.out).mono ?_); (case side1 => exact Kd.C_below HR0_0.out (be_ HB.out)); (case side2 => exact HC0_0.out); rintro e w43 ⟨v476, rfl, ho0, hb⟩; refine ⟨_, rfl, ?_⟩; have n0_ := am_ (Kd.R_below (by (with_reducible repeat (first | apply Kd.R_alloc | apply Kd.R_drewN | apply Kd.R_drew)); exact (Kd.R_mono (Kd.R_far (p := ⟨gb474, 0, none⟩) (Kd.R_types HO468.out BK474.out (by decide)) (fun _ hk => hk.2) (.slice Ao37 t470.length co37)) (fun _ h_ => h_.1))) hb); have n1_ := am_ (Kd.R_below (by (with_reducible repeat (first | apply Kd.R_alloc | apply Kd.R_drewN | apply Kd.R_drew)); exact (Kd.R_mono (Kd.R_far (p := ⟨gb474, 0, none⟩) (Kd.R_types HO472.out BK474.out (by decide)) (fun _ hk => hk.2) (.slice Ao37 t470.length co37)) (fun _ h_ => h_.1))) hb); have n2_ := am_ (Kd.R_lower ho0 (below_size (be_ HB.out))); have n3_ := am_ (blk_below (g := gb463) (o := .cells #[.slice A0_0 l0_0.length c0_0] 58 (0, 0)) (by (with_reducible repeat (first | refine blk_drewN ?_ _ | refine blk_drew ?_ | refine blk_alloc ?_ _)); refine blk_far ?_ NB463_474.out _; (with_reducible repeat (first | refine blk_drewN ?_ _ | refine blk_drew ?_ | refine blk_alloc ?_ _)); exact BK463.out) hb); have n4_ := am_ (blk_below (g := gb464) (o := .cells #[.slice A1_0 l1_0.length c1_0, .int .i64 a1_1] 61 (0, 0)) (by (with_reducible repeat (first | refine blk_drewN ?_ _ | refine blk_drew ?_ | refine blk_alloc ?_ _)); refine blk_far ?_ NB464_474.out _; (with_reducible repeat (first | refine blk_drewN ?_ _ | refine blk_drew ?_ | refine blk_alloc ?_ _)); exact BK464.out) hb); have n5_ := am_ (blk_below (g := gb469) (o := .cells #[.slice Ao31 t466.length co31] 26 (0, 0)) (by (with_reducible repeat (first | refine blk_drewN ?_ _ | refine blk_drew ?_ | refine blk_alloc ?_ _)); refine blk_far ?_ NB469_474.out _; (with_reducible repeat (first | refine blk_drewN ?_ _ | refine blk_drew ?_ | refine blk_alloc ?_ _)); exact BK469.out) hb); have n6_ := am_ (blk_below (g := gb474) (o := .cells #[.slice Ao37 t470.length co37] 26 (0, 0)) (by (with_reducible repeat (first | refine blk_drewN ?_ _ | refine blk_drew ?_ | refine blk_alloc ?_ _)); refine blk_put (cs := #[.slice none 0 0]) ?_ 0 _ rfl; (with_reducible repeat (first | refine blk_drewN ?_ _ | refine blk_drew ?_ | refine blk_alloc ?_ _)); exact BK474.out) hb); have n7_ := am_ (below_step (be_ HB.out) hb); clear HO468; clear HO472; clear BK463; clear BK464; clear BK469; clear BK474; clear HB; have HO468 := n0_; have HO472 := n1_; have HO477 := n2_; have BK463 := n3_; have BK464 := n4_; have BK469 := n5_; have BK474 := n6_; have HB := n7_; clear n0_ n1_ n2_ n3_ n4_ n5_ n6_ n7_; (try clear hb); (try clear hb2); (try clear hk); (try clear hi); (try clear ho0)) | ((with_reducible refine gate_dst (N := 17) rfl ?_); (try (refine gate_guard (by rfl) ?_; dsimp only)); refine box_event ?hg (N := 17) ?hd (cs := #[.slice none 0 0]) (t := 58) ?hr ?_; (case hd => rfl); (case hg => rfl); (case hr => first | (go_simp; done) | (go_simp; rfl)); intro gb479 hg w44 hbox hb; have n0_ := am_ (Kd.R_below (ro_ HO468.out) hb); have n1_ := am_ (Kd.R_below (ro_ HO472.out) hb); have n2_ := am_ (Kd.R_below (ro_ HO477.out) hb); have n3_ := am_ (bb_ BK463.out hb); have n4_ := am_ (bb_ BK464.out hb); have n5_ := am_ (bb_ BK469.out hb); have n6_ := am_ (bb_ BK474.out hb); have n7_ := am_ (below_step (be_ HB.out) hb); have n8_ := am_ (hbox); have n9_ := am_ ((by rw [hg]; exact (below_size (be_ HB.out)) : w.heap.size ≤ gb479)); have n10_ := am_ ((by rw [hg]; exact (below_size (be_ HB.out)) : w.heap.size ≤ gb479)); have n11_ := am_ ((by rw [hg]; exact Nat.ne_of_lt (bl_ BK463.out) : gb463 ≠ gb479)); have n12_ := am_ ((by rw [hg]; exact Nat.ne_of_gt (bl_ BK463.out) : gb479 ≠ gb463)); have n13_ := am_ ((by rw [hg]; exact Nat.ne_of_lt (bl_ BK464.out) : gb464 ≠ gb479)); have n14_ := am_ ((by rw [hg]; exact Nat.ne_of_gt (bl_ BK464.out) : gb479 ≠ gb464)); have n15_ := am_ ((by rw [hg]; exact Nat.ne_of_lt (bl_ BK469.out) : gb469 ≠ gb479)); have n16_ := am_ ((by rw [hg]; exact Nat.ne_of_gt (bl_ BK469.out) : gb479 ≠ gb469)); have n17_ := am_ ((by rw [hg]; exact Nat.ne_of_lt (bl_ BK474.out) : gb474 ≠ gb479)); have n18_ := am_ ((by rw [hg]; exact Nat.ne_of_gt (bl_ BK474.out) : gb479 ≠ gb474)); clear HO468; clear HO472; clear HO477; clear BK463; clear BK464; clear BK469; clear BK474; clear HB; have HO468 := n0_; have HO472 := n1_; have HO477 := n2_; have BK463 := n3_; have BK464 := n4_; have BK469 := n5_; have BK474 := n6_; have HB := n7_; have BK479 := n8_; have GW479 := n9_; have GE479 := n10_; have NB463_479 := n11_; have NB479_463 := n12_; have NB464_479 := n13_; have NB479_464 := n14_; have NB469_479 := n15_; have NB479_469 := n16_; have NB474_479 := n17_; have NB479_474 := n18_; clear n0_ n1_ n2_ n3_ n4_ n5_ n6_ n7_ n8_ n9_ n10_ n11_ n12_ n13_ n14_ n15_ n16_ n17_ n18_; clear hb hbox hg; obtain ⟨Ao45, co45, eo45⟩ := Kd.R_slice HO477.out; subst eo45; have hnb46 := NB479_463.out; have hnc46 := NB463_479.out; have hnb47 := NB479_464.out; have hnc47 := NB464_479.out; have hnb48 := NB479_469.out; have hnc48 := NB469_479.out; have hnb49 := NB479_474.out; have hnc49 := NB474_479.out; have hcz50_0 : w44.cell? ⟨gb479, 0, none⟩ = some (.slice none 0 0) := (blk_cell BK479.out 0).trans rfl; have hfz50_0 := blk_frozen BK479.out 0))
    (try simp only [Act.put, List.setIfInBounds_toArray, List.set_cons_zero, List.set_cons_succ])
    go_cut [76] (fun v76 wc => ∃ (kq : Nat) (x76_25 : Bool), v76 = .bool x76_25 ∧ Aside0 (heronrylaw15_OplistIs.j1 kq a2 a3 l5 t465 x76_25 l0_0 l1_0 a1_1 t466 = some r) ∧ Aside0 (kq ≤ kj7) ∧ Aside0 (Kd.R k33 33 wc w.heap.size (fun k_ => some k_ ≠ ((.slice Ao37 t470.length co37) : Value).ownBlock) (.slice Ao31 t466.length co31) t466) ∧ Aside0 (Kd.R k33 33 wc w.heap.size (fun k_ => some k_ ≠ ((.slice Ao31 t466.length co31) : Value).ownBlock) (.slice Ao37 t470.length co37) t470) ∧ Aside0 (Kd.R k83 83 wc w.heap.size (fun _ => True) (.slice Ao45 t475.length co45) t475) ∧ Aside0 (wc.heap[gb463]? = some (.cells #[(.slice A0_0 l0_0.length c0_0)] 58 (0, 0))) ∧ Aside0 (wc.heap[gb464]? = some (.cells #[(.slice A1_0 l1_0.length c1_0), .int .i64 a1_1] 61 (0, 0))) ∧ Aside0 (wc.heap[gb469]? = some (.cells #[(.slice Ao31 t466.length co31)] 26 (0, 0))) ∧ Aside0 (wc.heap[gb474]? = some (.cells #[(.slice Ao37 t470.length co37)] 26 (0, 0))) ∧ Aside0 (wc.heap[gb479]? = some (.cells #[(.slice Ao45 t475.length co45)] 58 (0, 0))) ∧ Aside0 (Below w.heap.size w wc))
    case first =>
     have H := HC26.out
     clear HC26
     replace H := Option.bind_eq_some_iff.mp H
     obtain ⟨t480, A510, H⟩ := H
     replace H : ((heronryref15_Same.f kj7 t480 t475).bind fun t483 => (if t483 = true then (if t473 = t478 then ((oplist_Sane.f t466).bind fun t484 => ((heronryref15_Sane.f kj7 l0_0).bind fun t485 => (heronrylaw15_OplistIs.j1 kj7 a2 a3 l5 t465 (t484 != t485) l0_0 l1_0 a1_1 t466))) else (none)) else (none))) = some r := H
     have A51 := am_ A510
     clear A510
     replace H := Option.bind_eq_some_iff.mp H
     obtain ⟨t483, A520, H⟩ := H
     replace H : (if t483 = true then (if t473 = t478 then ((oplist_Sane.f t466).bind fun t484 => ((heronryref15_Sane.f kj7 l0_0).bind fun t485 => (heronrylaw15_OplistIs.j1 kj7 a2 a3 l5 t465 (t484 != t485) l0_0 l1_0 a1_1 t466))) else (none)) else (none)) = some r := H
     have A52 := am_ A520
     clear A520
     by_cases c53 : t483 = true
     ·subst c53
      have H1 : (if t473 = t478 then ((oplist_Sane.f t466).bind fun t484 => ((heronryref15_Sane.f kj7 l0_0).bind fun t485 => (heronrylaw15_OplistIs.j1 kj7 a2 a3 l5 t465 (t484 != t485) l0_0 l1_0 a1_1 t466))) else (none)) = some r := by rw [if_pos rfl] at H; exact H
      clear H
      have H := H1
      clear H1
      by_cases c54 : t473 = t478
      ·rw [if_pos c54] at H
       have c54b0 : (t473 == t478) = true := beq_iff_eq.mpr c54
       have c54b1 : (t473 != t478) = false := bne_eq_false_iff_eq.mpr c54
       clear c54
       (first | rw [c54b0] | (simp only [i64_w, i32_w]; rw [c54b0]) | skip)
       replace H := Option.bind_eq_some_iff.mp H
       obtain ⟨t484, A550, H⟩ := H
       replace H : ((heronryref15_Sane.f kj7 l0_0).bind fun t485 => (heronrylaw15_OplistIs.j1 kj7 a2 a3 l5 t465 (t484 != t485) l0_0 l1_0 a1_1 t466)) = some r := H
       have A55 := am_ A550
       clear A550
       replace H := Option.bind_eq_some_iff.mp H
       obtain ⟨t485, A560, H⟩ := H
       replace H : (heronrylaw15_OplistIs.j1 kj7 a2 a3 l5 t465 (t484 != t485) l0_0 l1_0 a1_1 t466) = some r := H
       have A56 := am_ A560
       clear A560
       have H' := am_ H
       clear H
       try go_wp2
       have n0_ : Aside0 (Kd.R k33 33 (w44.setCell ⟨gb479, 0, none⟩ (.slice Ao45 t475.length co45)) w.heap.size (fun k_ => some k_ ≠ (.slice Ao37 t470.length co37 : Value).ownBlock) (.slice Ao31 t466.length co31) t466) := ⟨by (with_reducible repeat (first | apply Kd.R_alloc | apply Kd.R_drewN | apply Kd.R_drew)); exact Kd.R_mono (Kd.R_far (p := ⟨gb479, 0, none⟩) (Kd.R_types HO468.out BK479.out (by decide)) (fun _ hk => hk.2) (.slice Ao45 t475.length co45)) (fun _ hk => hk.1.2)⟩
       have n1_ : Aside0 (Kd.R k33 33 (w44.setCell ⟨gb479, 0, none⟩ (.slice Ao45 t475.length co45)) w.heap.size (fun k_ => some k_ ≠ (.slice Ao31 t466.length co31 : Value).ownBlock) (.slice Ao37 t470.length co37) t470) := ⟨by (with_reducible repeat (first | apply Kd.R_alloc | apply Kd.R_drewN | apply Kd.R_drew)); exact Kd.R_mono (Kd.R_far (p := ⟨gb479, 0, none⟩) (Kd.R_types HO472.out BK479.out (by decide)) (fun _ hk => hk.2) (.slice Ao45 t475.length co45)) (fun _ hk => hk.1.2)⟩
       have n2_ : Aside0 (Kd.R k83 83 (w44.setCell ⟨gb479, 0, none⟩ (.slice Ao45 t475.length co45)) w.heap.size (fun _ => True) (.slice Ao45 t475.length co45) t475) := ⟨by (with_reducible repeat (first | apply Kd.R_alloc | apply Kd.R_drewN | apply Kd.R_drew)); exact Kd.R_mono (Kd.R_far (p := ⟨gb479, 0, none⟩) (Kd.R_types HO477.out BK479.out (by decide)) (fun _ hk => hk.2) (.slice Ao45 t475.length co45)) (fun _ hk => trivial)⟩
       have n3_ : Aside0 ((w44.setCell ⟨gb479, 0, none⟩ (.slice Ao45 t475.length co45)).heap[gb463]? = some (.cells #[.slice A0_0 l0_0.length c0_0] 58 (0, 0))) := ⟨by (with_reducible repeat (first | refine blk_drewN ?_ _ | refine blk_drew ?_ | refine blk_alloc ?_ _)); refine blk_far ?_ NB463_479.out _; (with_reducible repeat (first | refine blk_drewN ?_ _ | refine blk_drew ?_ | refine blk_alloc ?_ _)); exact BK463.out⟩
       have n4_ : Aside0 ((w44.setCell ⟨gb479, 0, none⟩ (.slice Ao45 t475.length co45)).heap[gb464]? = some (.cells #[.slice A1_0 l1_0.length c1_0, .int .i64 a1_1] 61 (0, 0))) := ⟨by (with_reducible repeat (first | refine blk_drewN ?_ _ | refine blk_drew ?_ | refine blk_alloc ?_ _)); refine blk_far ?_ NB464_479.out _; (with_reducible repeat (first | refine blk_drewN ?_ _ | refine blk_drew ?_ | refine blk_alloc ?_ _)); exact BK464.out⟩
       have n5_ : Aside0 ((w44.setCell ⟨gb479, 0, none⟩ (.slice Ao45 t475.length co45)).heap[gb469]? = some (.cells #[.slice Ao31 t466.length co31] 26 (0, 0))) := ⟨by (with_reducible repeat (first | refine blk_drewN ?_ _ | refine blk_drew ?_ | refine blk_alloc ?_ _)); refine blk_far ?_ NB469_479.out _; (with_reducible repeat (first | refine blk_drewN ?_ _ | refine blk_drew ?_ | refine blk_alloc ?_ _)); exact BK469.out⟩
       have n6_ : Aside0 ((w44.setCell ⟨gb479, 0, none⟩ (.slice Ao45 t475.length co45)).heap[gb474]? = some (.cells #[.slice Ao37 t470.length co37] 26 (0, 0))) := ⟨by (with_reducible repeat (first | refine blk_drewN ?_ _ | refine blk_drew ?_ | refine blk_alloc ?_ _)); refine blk_far ?_ NB474_479.out _; (with_reducible repeat (first | refine blk_drewN ?_ _ | refine blk_drew ?_ | refine blk_alloc ?_ _)); exact BK474.out⟩
       have n7_ : Aside0 ((w44.setCell ⟨gb479, 0, none⟩ (.slice Ao45 t475.length co45)).heap[gb479]? = some (.cells #[.slice Ao45 t475.length co45] 58 (0, 0))) := ⟨by (with_reducible repeat (first | refine blk_drewN ?_ _ | refine blk_drew ?_ | refine blk_alloc ?_ _)); refine blk_put (cs := #[.slice none 0 0]) ?_ 0 _ rfl; (with_reducible repeat (first | refine blk_drewN ?_ _ | refine blk_drew ?_ | refine blk_alloc ?_ _)); exact BK479.out⟩
       have n8_ : Aside0 (Below w.heap.size w (w44.setCell ⟨gb479, 0, none⟩ (.slice Ao45 t475.length co45))) := ⟨be_ HB.out⟩
       (try clear HO468)
       (try clear HO472)
       (try clear HO477)
       (try clear BK463)
       (try clear BK464)
       (try clear BK469)
       (try clear BK474)
       (try clear BK479)
       (try clear HB)
       generalize (w44.setCell ⟨gb479, 0, none⟩ (.slice Ao45 t475.length co45)) = w57 at n0_ n1_ n2_ n3_ n4_ n5_ n6_ n7_ n8_ ⊢
       have HO468 := n0_
       have HO472 := n1_
       have HO477 := n2_
       have BK463 := n3_
       have BK464 := n4_
       have BK469 := n5_
       have BK474 := n6_
       have BK479 := n7_
       have HB := n8_
       clear n0_ n1_ n2_ n3_ n4_ n5_ n6_ n7_ n8_
       have n0_ := am_ (Kd.R_drew HO468.out)
       have n1_ := am_ (Kd.R_drew HO472.out)
       have n2_ := am_ (Kd.R_drew HO477.out)
       have n3_ := am_ (blk_drew BK463.out)
       have n4_ := am_ (blk_drew BK464.out)
       have n5_ := am_ (blk_drew BK469.out)
       have n6_ := am_ (blk_drew BK474.out)
       have n7_ := am_ (blk_drew BK479.out)
       have n8_ := am_ (below_drew1 HB.out)
       clear HO468
       clear HO472
       clear HO477
       clear BK463
       clear BK464
       clear BK469
       clear BK474
       clear BK479
       clear HB
       have HO468 := n0_
       have HO472 := n1_
       have HO477 := n2_
       have BK463 := n3_
       have BK464 := n4_
       have BK469 := n5_
       have BK474 := n6_
       have BK479 := n7_
       have HB := n8_
       clear n0_ n1_ n2_ n3_ n4_ n5_ n6_ n7_ n8_
       refine start_ (n := 19) (S := fun w' => w'.cell? ⟨gb474, 0, none⟩ = some (.slice Ao37 t470.length co37) ∧ w'.cell? ⟨gb479, 0, none⟩ = some (.slice Ao45 t475.length co45) ∧ w'.cell? ⟨gb469, 0, none⟩ = some (.slice Ao31 t466.length co31) ∧ w'.cell? ⟨gb463, 0, none⟩ = some (.slice A0_0 l0_0.length c0_0)) (ds := []) #[false, false, false, false, false, false, false, false, false, false, false, false, false, false, false, false, false, false, false] (by kernel_rfl) rfl rfl ⟨(blk_cell BK474.out 0).trans rfl, (blk_cell BK479.out 0).trans rfl, (blk_cell BK469.out 0).trans rfl, (blk_cell BK463.out 0).trans rfl⟩ (fun hHeld => ?_); refine with_tabW heronrylaw15_OplistIs.tab7 heronrylaw15_OplistIs.bits7 (fun HT_ HW_ => ?_)
       generalize w57.drew = w58 at HO468 HO472 HO477 BK463 BK464 BK469 BK474 BK479 HB hHeld ⊢
       refine pure_ (i := 0) (N := some 58) (v := ?_) (a' := ?_) #[true, false, false, false, false, false, false, false, false, false, false, false, false, false, false, false, false, false, false] rfl rfl (any_of HT_.out (by kernel_rfl)) (fun _ _ _ h => h) (Or.inl ⟨by rfl, ?_⟩) ?_ ?_
       rotate_left
       ·intro w'
        go_simp
        with_reducible rfl
       rotate_left
       ·simp only [Act.put, List.setIfInBounds_toArray, List.set_cons_zero, List.set_cons_succ, i64_w, i32_w]
        rfl
       refine pure_ (i := 3) (N := some 61) (v := ?_) (a' := ?_) #[true, false, false, true, false, false, false, false, false, false, false, false, false, false, false, false, false, false, false] rfl rfl (any_of HT_.out (by kernel_rfl)) (fun _ _ _ h => h) (Or.inl ⟨by rfl, ?_⟩) ?_ ?_
       rotate_left
       ·intro w'
        go_simp
        with_reducible rfl
       rotate_left
       ·simp only [Act.put, List.setIfInBounds_toArray, List.set_cons_zero, List.set_cons_succ, i64_w, i32_w]
        rfl
       refine take_ (i := 1) (N := some 59) (v := ?_) (a' := ?_) #[true, true, false, true, false, false, false, false, false, false, false, false, false, false, false, false, false, false, false] rfl rfl (take_ofW HT_.out HW_.out (by kernel_rfl)) (fun _ _ _ h => h) (Or.inl ⟨by rfl, ?_⟩) hHeld ?_ ?_
       rotate_left
       ·rintro w' ⟨s0, s1, s2, s3⟩
        go_simp
        with_reducible rfl
       rotate_left
       ·simp only [Act.put, List.setIfInBounds_toArray, List.set_cons_zero, List.set_cons_succ, i64_w, i32_w]
        rfl
       refine take_ (i := 4) (N := some 62) (v := ?_) (a' := ?_) #[true, true, false, true, true, false, false, false, false, false, false, false, false, false, false, false, false, false, false] rfl rfl (take_ofW HT_.out HW_.out (by kernel_rfl)) (fun _ _ _ h => h) (Or.inl ⟨by rfl, ?_⟩) hHeld ?_ ?_
       rotate_left
       ·rintro w' ⟨s0, s1, s2, s3⟩
        go_simp
        with_reducible rfl
       rotate_left
       ·simp only [Act.put, List.setIfInBounds_toArray, List.set_cons_zero, List.set_cons_succ, i64_w, i32_w]
        rfl
       refine one_ (i := 2) (N := some 60) #[true, true, true, true, true, false, false, false, false, false, false, false, false, false, false, false, false, false, false] rfl rfl (one_of HT_.out (by kernel_rfl)) (by decide) (fun K hK => ?_)
       refine goes_ Try.func14 (by kernel_rfl) rfl #[.slice Ao37 t470.length co37] (by rfl) rfl rfl ma_ ?_
       with_reducible refine (heronrylaw15_theirs.calls kj7 _ _ t470 t480 _ ?side1 ?side2 A51.out).mono ?_
       (case side1 => repeat (first | exact (Kd.R_reads' HO472.out).2.2 | (with_reducible refine Kd.C_alloc ?_ _) | (with_reducible refine Kd.C_drewN ?_ _) | (with_reducible refine Kd.C_drew ?_)))
       (case side2 => exact (Kd.R_reads' HO472.out).2.1)
       rintro e w59 ⟨v481, rfl, ho0, hb⟩
       refine ⟨_, rfl, ?_⟩
       have n0_ := am_ (Kd.R_below (ro_ HO468.out) hb)
       have n1_ := am_ (Kd.R_below (ro_ HO472.out) hb)
       have n2_ := am_ (Kd.R_elder' (ro_ HO477.out) (Kd.R_base ho0) hb)
       have n3_ := am_ (Kd.R_lower (Kd.R_new' ho0 (Kd.R_lt (ro_ HO477.out))) (below_size (be_ HB.out)))
       have n4_ := am_ (bb_ BK463.out hb)
       have n5_ := am_ (bb_ BK464.out hb)
       have n6_ := am_ (bb_ BK469.out hb)
       have n7_ := am_ (bb_ BK474.out hb)
       have n8_ := am_ (bb_ BK479.out hb)
       have n9_ := am_ (below_step (be_ HB.out) hb)
       clear HO468
       clear HO472
       clear HO477
       clear BK463
       clear BK464
       clear BK469
       clear BK474
       clear BK479
       clear HB
       have HO468 := n0_
       have HO472 := n1_
       have HO477 := n2_
       have HO482 := n3_
       have BK463 := n4_
       have BK464 := n5_
       have BK469 := n6_
       have BK474 := n7_
       have BK479 := n8_
       have HB := n9_
       clear n0_ n1_ n2_ n3_ n4_ n5_ n6_ n7_ n8_ n9_
       (try clear hb)
       (try clear hb2)
       (try clear hk)
       (try clear hi)
       (try clear ho0)
       obtain ⟨Ao60, co60, eo60⟩ := Kd.R_slice HO482.out
       (first | subst eo60 | (injection eo60 with f1_ f2_ f3_; have f4_ := f1_.symm; have f5_ := f3_.symm; clear f1_ f2_ f3_; subst f4_; subst f5_))
       refine hK.out _ _ ⟨(blk_cell BK474.out 0).trans rfl, (blk_cell BK479.out 0).trans rfl, (blk_cell BK469.out 0).trans rfl, (blk_cell BK463.out 0).trans rfl⟩ (fun hHeld => ?_)
       clear hK K
       refine norm_ (a' := ?_) ?_ ?_
       rotate_left
       ·show Act.put _ (some 60) _ = _
        simp only [Act.put, List.setIfInBounds_toArray, List.set_cons_zero, List.set_cons_succ, i64_w, i32_w]
        rfl
       refine one_ (i := 5) (N := some 63) #[true, true, true, true, true, true, false, false, false, false, false, false, false, false, false, false, false, false, false] rfl rfl (one_of HT_.out (by kernel_rfl)) (by decide) (fun K hK => ?_)
       refine goes_ Try.func13 (by kernel_rfl) rfl #[.slice Ao60 t480.length co60, .slice Ao45 t475.length co45] (by rfl) rfl rfl ma_ ?_
       with_reducible refine (heronryref15_Same.calls kj7 _ _ t480 _ _ t475 true _ ?side1 ?side2 ?side3 ?side4 A52.out).mono ?_
       (case side1 => repeat (first | exact (Kd.R_reads' HO482.out).2.2 | (with_reducible refine Kd.C_alloc ?_ _) | (with_reducible refine Kd.C_drewN ?_ _) | (with_reducible refine Kd.C_drew ?_)))
       (case side2 => exact (Kd.R_reads' HO482.out).2.1)
       (case side3 => repeat (first | exact (Kd.R_reads' HO477.out).2.2 | (with_reducible refine Kd.C_alloc ?_ _) | (with_reducible refine Kd.C_drewN ?_ _) | (with_reducible refine Kd.C_drew ?_)))
       (case side4 => exact (Kd.R_reads' HO477.out).2.1)
       rintro e w' ⟨rfl, ⟨nd, rfl⟩⟩
       refine ⟨_, rfl, ?_⟩
       refine hK.out _ _ ⟨(blk_cell BK474.out 0).trans rfl, (blk_cell BK479.out 0).trans rfl, (blk_cell BK469.out 0).trans rfl, (blk_cell BK463.out 0).trans rfl⟩ (fun hHeld => ?_)
       clear hK K
       refine norm_ (a' := ?_) ?_ ?_
       rotate_left
       ·show Act.put _ (some 63) _ = _
        simp only [Act.put, List.setIfInBounds_toArray, List.set_cons_zero, List.set_cons_succ, i64_w, i32_w]
        rfl
       refine pure_ (i := 6) (N := some 64) (v := ?_) (a' := ?_) #[true, true, true, true, true, true, true, false, false, false, false, false, false, false, false, false, false, false, false] rfl rfl (any_of HT_.out (by kernel_rfl)) (fun _ _ _ h => h) (Or.inl ⟨by rfl, ?_⟩) ?_ ?_
       rotate_left
       ·intro w'
        go_simp
        with_reducible rfl
       rotate_left
       ·simp only [Act.put, List.setIfInBounds_toArray, List.set_cons_zero, List.set_cons_succ, i64_w, i32_w]
        rfl
       refine pure_ (i := 7) (N := some 65) (v := ?_) (a' := ?_) #[true, true, true, true, true, true, true, true, false, false, false, false, false, false, false, false, false, false, false] rfl rfl (any_of HT_.out (by kernel_rfl)) (fun _ _ _ h => h) (Or.inl ⟨by rfl, ?_⟩) ?_ ?_
       rotate_left
       ·intro w'
        go_simp
        with_reducible rfl
       rotate_left
       ·simp only [Act.put, List.setIfInBounds_toArray, List.set_cons_zero, List.set_cons_succ, i64_w, i32_w]
        rfl
       refine pure_ (i := 8) (N := some 66) (v := ?_) (a' := ?_) #[true, true, true, true, true, true, true, true, true, false, false, false, false, false, false, false, false, false, false] rfl rfl (any_of HT_.out (by kernel_rfl)) (fun _ _ _ h => h) (Or.inl ⟨by rfl, ?_⟩) ?_ ?_
       rotate_left
       ·intro w'
        go_simp
        with_reducible rfl
       rotate_left
       ·simp only [Act.put, List.setIfInBounds_toArray, List.set_cons_zero, List.set_cons_succ, i64_w, i32_w]
        rfl
       refine pure_ (i := 9) (N := some 67) (v := ?_) (a' := ?_) #[true, true, true, true, true, true, true, true, true, true, false, false, false, false, false, false, false, false, false] rfl rfl (any_of HT_.out (by kernel_rfl)) (fun _ _ _ h => h) (Or.inl ⟨by rfl, ?_⟩) ?_ ?_
       rotate_left
       ·intro w'
        go_simp
        with_reducible rfl
       rotate_left
       ·simp only [Act.put, List.setIfInBounds_toArray, List.set_cons_zero, List.set_cons_succ, i64_w, i32_w]
        rfl
       refine pure_ (i := 10) (N := some 68) (v := ?_) (a' := ?_) #[true, true, true, true, true, true, true, true, true, true, true, false, false, false, false, false, false, false, false] rfl rfl (any_of HT_.out (by kernel_rfl)) (fun _ _ _ h => h) (Or.inl ⟨by rfl, ?_⟩) ?_ ?_
       rotate_left
       ·intro w'
        go_simp
        with_reducible rfl
       rotate_left
       ·simp only [Act.put, List.setIfInBounds_toArray, List.set_cons_zero, List.set_cons_succ, i64_w, i32_w]
        rfl
       refine pure_ (i := 11) (N := some 69) (v := ?_) (a' := ?_) #[true, true, true, true, true, true, true, true, true, true, true, true, false, false, false, false, false, false, false] rfl rfl (any_of HT_.out (by kernel_rfl)) (fun _ _ _ h => h) (Or.inl ⟨by rfl, ?_⟩) ?_ ?_
       rotate_left
       ·intro w'
        go_simp
        with_reducible rfl
       rotate_left
       ·simp only [Act.put, List.setIfInBounds_toArray, List.set_cons_zero, List.set_cons_succ, i64_w, i32_w]
        rfl
       refine pure_ (i := 12) (N := some 70) (v := ?_) (a' := ?_) #[true, true, true, true, true, true, true, true, true, true, true, true, true, false, false, false, false, false, false] rfl rfl (any_of HT_.out (by kernel_rfl)) (fun _ _ _ h => h) (Or.inl ⟨by rfl, ?_⟩) ?_ ?_
       rotate_left
       ·intro w'
        go_simp
        with_reducible rfl
       rotate_left
       ·simp only [Act.put, List.setIfInBounds_toArray, List.set_cons_zero, List.set_cons_succ, i64_w, i32_w]
        rfl
       refine take_ (i := 13) (N := some 71) (v := ?_) (a' := ?_) #[true, true, true, true, true, true, true, true, true, true, true, true, true, true, false, false, false, false, false] rfl rfl (take_ofW HT_.out HW_.out (by kernel_rfl)) (fun _ _ _ h => h) (Or.inl ⟨by rfl, ?_⟩) hHeld ?_ ?_
       rotate_left
       ·rintro w' ⟨s0, s1, s2, s3⟩
        go_simp
        with_reducible rfl
       rotate_left
       ·simp only [Act.put, List.setIfInBounds_toArray, List.set_cons_zero, List.set_cons_succ, i64_w, i32_w]
        rfl
       refine take_ (i := 15) (N := some 73) (v := ?_) (a' := ?_) #[true, true, true, true, true, true, true, true, true, true, true, true, true, true, false, true, false, false, false] rfl rfl (take_ofW HT_.out HW_.out (by kernel_rfl)) (fun _ _ _ h => h) (Or.inl ⟨by rfl, ?_⟩) hHeld ?_ ?_
       rotate_left
       ·rintro w' ⟨s0, s1, s2, s3⟩
        go_simp
        with_reducible rfl
       rotate_left
       ·simp only [Act.put, List.setIfInBounds_toArray, List.set_cons_zero, List.set_cons_succ, i64_w, i32_w]
        rfl
       refine one_ (i := 14) (N := some 72) #[true, true, true, true, true, true, true, true, true, true, true, true, true, true, true, true, false, false, false] rfl rfl (one_of HT_.out (by kernel_rfl)) (by decide) (fun K hK => ?_)
       refine goes_ Try.func15 (by kernel_rfl) rfl #[.agg #[.slice Ao31 t466.length co31]] (by rfl) rfl rfl ma_ ?_
       with_reducible refine (oplist_Sane.calls _ _ t466 t484 _ ?side1 ?side2 A55.out).mono ?_
       (case side1 => repeat (first | exact (Kd.R_reads' HO468.out).2.2 | (with_reducible refine Kd.C_alloc ?_ _) | (with_reducible refine Kd.C_drewN ?_ _) | (with_reducible refine Kd.C_drew ?_)))
       (case side2 => exact (Kd.R_reads' HO468.out).2.1)
       rintro e w61 ⟨rfl, hb⟩
       refine ⟨_, rfl, ?_⟩
       have n0_ := am_ (Kd.R_below (ro_ HO468.out) hb)
       have n1_ := am_ (Kd.R_below (ro_ HO472.out) hb)
       have n2_ := am_ (Kd.R_below (ro_ HO477.out) hb)
       have n3_ := am_ (Kd.R_below (ro_ HO482.out) hb)
       have n4_ := am_ (bb_ BK463.out hb)
       have n5_ := am_ (bb_ BK464.out hb)
       have n6_ := am_ (bb_ BK469.out hb)
       have n7_ := am_ (bb_ BK474.out hb)
       have n8_ := am_ (bb_ BK479.out hb)
       have n9_ := am_ (below_step (be_ HB.out) hb)
       clear HO468
       clear HO472
       clear HO477
       clear HO482
       clear BK463
       clear BK464
       clear BK469
       clear BK474
       clear BK479
       clear HB
       have HO468 := n0_
       have HO472 := n1_
       have HO477 := n2_
       have HO482 := n3_
       have BK463 := n4_
       have BK464 := n5_
       have BK469 := n6_
       have BK474 := n7_
       have BK479 := n8_
       have HB := n9_
       clear n0_ n1_ n2_ n3_ n4_ n5_ n6_ n7_ n8_ n9_
       (try clear hb)
       (try clear hb2)
       (try clear hk)
       (try clear hi)
       refine hK.out _ _ ⟨(blk_cell BK474.out 0).trans rfl, (blk_cell BK479.out 0).trans rfl, (blk_cell BK469.out 0).trans rfl, (blk_cell BK463.out 0).trans rfl⟩ (fun hHeld => ?_)
       clear hK K
       refine norm_ (a' := ?_) ?_ ?_
       rotate_left
       ·show Act.put _ (some 72) _ = _
        simp only [Act.put, List.setIfInBounds_toArray, List.set_cons_zero, List.set_cons_succ, i64_w, i32_w]
        rfl
       refine one_ (i := 16) (N := some 74) #[true, true, true, true, true, true, true, true, true, true, true, true, true, true, true, true, true, false, false] rfl rfl (one_of HT_.out (by kernel_rfl)) (by decide) (fun K hK => ?_)
       refine goes_ Try.func23 (by kernel_rfl) rfl #[.agg #[.slice A0_0 l0_0.length c0_0]] (by rfl) rfl rfl ma_ ?_
       with_reducible refine (heronryref15_Sane.calls kj7 _ _ l0_0 t485 _ ?side1 ?side2 A56.out).mono ?_
       (case side1 => repeat (first | exact (Kd.C_below HR0_0.out HB.out) | (with_reducible refine Kd.C_alloc ?_ _) | (with_reducible refine Kd.C_drewN ?_ _) | (with_reducible refine Kd.C_drew ?_)))
       (case side2 => exact HC0_0.out)
       rintro e w62 ⟨rfl, hb⟩
       refine ⟨_, rfl, ?_⟩
       have n0_ := am_ (Kd.R_below (ro_ HO468.out) hb)
       have n1_ := am_ (Kd.R_below (ro_ HO472.out) hb)
       have n2_ := am_ (Kd.R_below (ro_ HO477.out) hb)
       have n3_ := am_ (Kd.R_below (ro_ HO482.out) hb)
       have n4_ := am_ (bb_ BK463.out hb)
       have n5_ := am_ (bb_ BK464.out hb)
       have n6_ := am_ (bb_ BK469.out hb)
       have n7_ := am_ (bb_ BK474.out hb)
       have n8_ := am_ (bb_ BK479.out hb)
       have n9_ := am_ (below_step (be_ HB.out) hb)
       clear HO468
       clear HO472
       clear HO477
       clear HO482
       clear BK463
       clear BK464
       clear BK469
       clear BK474
       clear BK479
       clear HB
       have HO468 := n0_
       have HO472 := n1_
       have HO477 := n2_
       have HO482 := n3_
       have BK463 := n4_
       have BK464 := n5_
       have BK469 := n6_
       have BK474 := n7_
       have BK479 := n8_
       have HB := n9_
       clear n0_ n1_ n2_ n3_ n4_ n5_ n6_ n7_ n8_ n9_
       (try clear hb)
       (try clear hb2)
       (try clear hk)
       (try clear hi)
       refine hK.out _ _ ⟨(blk_cell BK474.out 0).trans rfl, (blk_cell BK479.out 0).trans rfl, (blk_cell BK469.out 0).trans rfl, (blk_cell BK463.out 0).trans rfl⟩ (fun hHeld => ?_)
       clear hK K
       refine norm_ (a' := ?_) ?_ ?_
       rotate_left
       ·show Act.put _ (some 74) _ = _
        simp only [Act.put, List.setIfInBounds_toArray, List.set_cons_zero, List.set_cons_succ, i64_w, i32_w]
        rfl
       refine pure_ (i := 17) (N := some 75) (v := ?_) (a' := ?_) #[true, true, true, true, true, true, true, true, true, true, true, true, true, true, true, true, true, true, false] rfl rfl (any_of HT_.out (by kernel_rfl)) (fun _ _ _ h => h) (Or.inl ⟨by rfl, ?_⟩) ?_ ?_
       rotate_left
       ·intro w'
        go_simp
        with_reducible rfl
       rotate_left
       ·simp only [Act.put, List.setIfInBounds_toArray, List.set_cons_zero, List.set_cons_succ, i64_w, i32_w]
        rfl
       refine pure_ (i := 18) (N := some 76) (v := ?_) (a' := ?_) #[true, true, true, true, true, true, true, true, true, true, true, true, true, true, true, true, true, true, true] rfl rfl (any_of HT_.out (by kernel_rfl)) (fun _ _ _ h => h) (Or.inl ⟨by rfl, ?_⟩) ?_ ?_
       rotate_left
       ·intro w'
        go_simp
        with_reducible rfl
       rotate_left
       ·simp only [Act.put, List.setIfInBounds_toArray, List.set_cons_zero, List.set_cons_succ, i64_w, i32_w]
        rfl
       refine done_ (done_of HT_.out (by kernel_rfl)) ?_
       try go_wp2
       go_meet
       case rel => exact ⟨_, ((t484 != t485)), (by first | rfl | (simp; done) | (simp [*]; done)), H', ⟨by have := HJ7.out; first | omega | exact Nat.le_refl _⟩, ⟨ro_ HO468.out⟩, ⟨ro_ HO472.out⟩, ⟨by (with_reducible repeat (first | apply Kd.R_alloc | apply Kd.R_drewN | apply Kd.R_drew)); exact Kd.R_mono HO477.out (fun _ hk => trivial)⟩, ⟨bk_ BK463.out⟩, ⟨bk_ BK464.out⟩, ⟨bk_ BK469.out⟩, ⟨bk_ BK474.out⟩, ⟨bk_ BK479.out⟩, ⟨be_ HB.out⟩⟩
      ·rw [if_neg c54] at H
       exact absurd H (by simp)
     ·replace c53 := Bool.eq_false_iff.mpr c53
      subst c53
      have H1 : (none) = some r := by rw [if_neg (show ¬ (false = true) by decide)] at H; exact H
      clear H
      have H := H1
      clear H1
      exact absurd H (by simp)
    case rest =>
     clear HC26
     try clear c1
     try clear c2
     try clear p2
     try clear c3
     try clear c4
     try clear c5
     try clear c7
     try clear c8
     try clear c10
     try clear c12
     try clear c12b0
     try clear c12b1
     try clear c13
     try clear c14
     try clear c15
     try clear c15b0
     try clear c15b1
     try clear c16
     try clear c19
     try clear c21
     try clear c22
     try clear c23
     try clear c27
     try clear c32
     try clear c33
     try clear c38
     try clear c39
     try clear c40
     try clear c46
     try clear c47
     try clear c48
     try clear c49
     try clear c53
     try clear c54
     try clear c54b0
     try clear c54b1
     try clear hcz14_0
     try clear hcz17_0
     try clear hcz18_0
     try clear hcz18_1
     try clear hcz20_0
     try clear hcz21_0
     try clear hcz21_1
     try clear hcz28_0
     try clear hcz34_0
     try clear hcz41_0
     try clear hcz42_0
     try clear hcz50_0
     try clear hfz14_0
     try clear hfz17_0
     try clear hfz18_0
     try clear hfz18_1
     try clear hfz20_0
     try clear hfz21_0
     try clear hfz21_1
     try clear hfz28_0
     try clear hfz34_0
     try clear hfz41_0
     try clear hfz42_0
     try clear hfz50_0
     try clear p2
     obtain ⟨kq, x76_25, rfl, HA, HJ25, HO_470000, HO_475000, HO_480000, BK463, BK464, BK469, BK474, BK479, HB⟩ := hcut
     cases kq with
     | zero => exact absurd HA.out (by simp [heronrylaw15_OplistIs.j1])
     | succ kj25 =>
      have H := HA.out
      clear HA
      simp only [heronrylaw15_OplistIs.j1] at H
      by_cases c63 : x76_25 = true
      ·subst c63
       have H1 : (none) = some r := by rw [if_pos rfl] at H; exact H
       clear H
       have H := H1
       clear H1
       exact absurd H (by simp)
      ·replace c63 := Bool.eq_false_iff.mpr c63
       subst c63
       have H1 : ((heronryref15_Sane.f kj25 l0_0).bind fun t486 => (if t486 = true then ((oplist_Net.f kj25 t466 a3).bind fun bt487 => ((heronryref15_Net.f kj25 l0_0 a3).bind fun bt489 => (if t465 = true then (if bt487.1 = bt489.1 then (if bt487.2 = bt489.2 then ((oplist_Undo.f t466 l5).bind fun t491 => ((heronrylaw15_theirs.f kj25 t491).bind fun t494 => ((heronryref15_Undo.f kj25 l0_0 l5).bind fun t497 => ((heronryref15_Same.f kj25 t494 t497).bind fun t500 => (if t500 = true then ((oplist_Open.f t466 a2).bind fun t501 => ((heronrylaw15_theirs.f kj25 t501).bind fun t504 => ((heronryref15_Open.f kj25 l0_0 a2).bind fun t507 => ((heronryref15_Same.f kj25 t504 t507).bind fun t510 => (if t510 = true then ((heronrylaw15_grove.f kj25 l1_0 a1_1).bind fun bt511 => ((oplist_Ops.f t466 bt511.1 bt511.2 a2).bind fun t515 => ((heronryref15_Ops.f kj25 l0_0 l1_0 a1_1 a2).bind fun t518 => ((heronryref15_SameOps.f kj25 t515 t518).bind fun t521 => (if t521 = true then ((heronrylaw15_theirs.f kj25 t466).bind fun t522 => ((heronryref15_Same.f kj25 t522 l0_0).bind fun t525 => (some t525))) else (none)))))) else (none)))))) else (none)))))) else (none)) else (none)) else (none)))) else (some t465))) = some r := by rw [if_neg (show ¬ (false = true) by decide)] at H; exact H
       clear H
       have H := H1
       clear H1
       replace H := Option.bind_eq_some_iff.mp H
       obtain ⟨t486, A640, H⟩ := H
       replace H : (if t486 = true then ((oplist_Net.f kj25 t466 a3).bind fun bt487 => ((heronryref15_Net.f kj25 l0_0 a3).bind fun bt489 => (if t465 = true then (if bt487.1 = bt489.1 then (if bt487.2 = bt489.2 then ((oplist_Undo.f t466 l5).bind fun t491 => ((heronrylaw15_theirs.f kj25 t491).bind fun t494 => ((heronryref15_Undo.f kj25 l0_0 l5).bind fun t497 => ((heronryref15_Same.f kj25 t494 t497).bind fun t500 => (if t500 = true then ((oplist_Open.f t466 a2).bind fun t501 => ((heronrylaw15_theirs.f kj25 t501).bind fun t504 => ((heronryref15_Open.f kj25 l0_0 a2).bind fun t507 => ((heronryref15_Same.f kj25 t504 t507).bind fun t510 => (if t510 = true then ((heronrylaw15_grove.f kj25 l1_0 a1_1).bind fun bt511 => ((oplist_Ops.f t466 bt511.1 bt511.2 a2).bind fun t515 => ((heronryref15_Ops.f kj25 l0_0 l1_0 a1_1 a2).bind fun t518 => ((heronryref15_SameOps.f kj25 t515 t518).bind fun t521 => (if t521 = true then ((heronrylaw15_theirs.f kj25 t466).bind fun t522 => ((heronryref15_Same.f kj25 t522 l0_0).bind fun t525 => (some t525))) else (none)))))) else (none)))))) else (none)))))) else (none)) else (none)) else (none)))) else (some t465)) = some r := H
       have A64 := am_ A640
       clear A640
       by_cases c65 : t486 = true
       ·subst c65
        have H1 : ((oplist_Net.f kj25 t466 a3).bind fun bt487 => ((heronryref15_Net.f kj25 l0_0 a3).bind fun bt489 => (if t465 = true then (if bt487.1 = bt489.1 then (if bt487.2 = bt489.2 then ((oplist_Undo.f t466 l5).bind fun t491 => ((heronrylaw15_theirs.f kj25 t491).bind fun t494 => ((heronryref15_Undo.f kj25 l0_0 l5).bind fun t497 => ((heronryref15_Same.f kj25 t494 t497).bind fun t500 => (if t500 = true then ((oplist_Open.f t466 a2).bind fun t501 => ((heronrylaw15_theirs.f kj25 t501).bind fun t504 => ((heronryref15_Open.f kj25 l0_0 a2).bind fun t507 => ((heronryref15_Same.f kj25 t504 t507).bind fun t510 => (if t510 = true then ((heronrylaw15_grove.f kj25 l1_0 a1_1).bind fun bt511 => ((oplist_Ops.f t466 bt511.1 bt511.2 a2).bind fun t515 => ((heronryref15_Ops.f kj25 l0_0 l1_0 a1_1 a2).bind fun t518 => ((heronryref15_SameOps.f kj25 t515 t518).bind fun t521 => (if t521 = true then ((heronrylaw15_theirs.f kj25 t466).bind fun t522 => ((heronryref15_Same.f kj25 t522 l0_0).bind fun t525 => (some t525))) else (none)))))) else (none)))))) else (none)))))) else (none)) else (none)) else (none)))) = some r := by rw [if_pos rfl] at H; exact H
        clear H
        have H := H1
        clear H1
        replace H := Option.bind_eq_some_iff.mp H
        obtain ⟨⟨t487, t488⟩, A660, H⟩ := H
        replace H : ((heronryref15_Net.f kj25 l0_0 a3).bind fun bt489 => (if t465 = true then (if t487 = bt489.1 then (if t488 = bt489.2 then ((oplist_Undo.f t466 l5).bind fun t491 => ((heronrylaw15_theirs.f kj25 t491).bind fun t494 => ((heronryref15_Undo.f kj25 l0_0 l5).bind fun t497 => ((heronryref15_Same.f kj25 t494 t497).bind fun t500 => (if t500 = true then ((oplist_Open.f t466 a2).bind fun t501 => ((heronrylaw15_theirs.f kj25 t501).bind fun t504 => ((heronryref15_Open.f kj25 l0_0 a2).bind fun t507 => ((heronryref15_Same.f kj25 t504 t507).bind fun t510 => (if t510 = true then ((heronrylaw15_grove.f kj25 l1_0 a1_1).bind fun bt511 => ((oplist_Ops.f t466 bt511.1 bt511.2 a2).bind fun t515 => ((heronryref15_Ops.f kj25 l0_0 l1_0 a1_1 a2).bind fun t518 => ((heronryref15_SameOps.f kj25 t515 t518).bind fun t521 => (if t521 = true then ((heronrylaw15_theirs.f kj25 t466).bind fun t522 => ((heronryref15_Same.f kj25 t522 l0_0).bind fun t525 => (some t525))) else (none)))))) else (none)))))) else (none)))))) else (none)) else (none)) else (none))) = some r := H
        have A66 := am_ A660
        clear A660
        replace H := Option.bind_eq_some_iff.mp H
        obtain ⟨⟨t489, t490⟩, A670, H⟩ := H
        replace H : (if t465 = true then (if t487 = t489 then (if t488 = t490 then ((oplist_Undo.f t466 l5).bind fun t491 => ((heronrylaw15_theirs.f kj25 t491).bind fun t494 => ((heronryref15_Undo.f kj25 l0_0 l5).bind fun t497 => ((heronryref15_Same.f kj25 t494 t497).bind fun t500 => (if t500 = true then ((oplist_Open.f t466 a2).bind fun t501 => ((heronrylaw15_theirs.f kj25 t501).bind fun t504 => ((heronryref15_Open.f kj25 l0_0 a2).bind fun t507 => ((heronryref15_Same.f kj25 t504 t507).bind fun t510 => (if t510 = true then ((heronrylaw15_grove.f kj25 l1_0 a1_1).bind fun bt511 => ((oplist_Ops.f t466 bt511.1 bt511.2 a2).bind fun t515 => ((heronryref15_Ops.f kj25 l0_0 l1_0 a1_1 a2).bind fun t518 => ((heronryref15_SameOps.f kj25 t515 t518).bind fun t521 => (if t521 = true then ((heronrylaw15_theirs.f kj25 t466).bind fun t522 => ((heronryref15_Same.f kj25 t522 l0_0).bind fun t525 => (some t525))) else (none)))))) else (none)))))) else (none)))))) else (none)) else (none)) else (none)) = some r := H
        have A67 := am_ A670
        clear A670
        by_cases c68 : t465 = true
        ·subst c68
         have H1 : (if t487 = t489 then (if t488 = t490 then ((oplist_Undo.f t466 l5).bind fun t491 => ((heronrylaw15_theirs.f kj25 t491).bind fun t494 => ((heronryref15_Undo.f kj25 l0_0 l5).bind fun t497 => ((heronryref15_Same.f kj25 t494 t497).bind fun t500 => (if t500 = true then ((oplist_Open.f t466 a2).bind fun t501 => ((heronrylaw15_theirs.f kj25 t501).bind fun t504 => ((heronryref15_Open.f kj25 l0_0 a2).bind fun t507 => ((heronryref15_Same.f kj25 t504 t507).bind fun t510 => (if t510 = true then ((heronrylaw15_grove.f kj25 l1_0 a1_1).bind fun bt511 => ((oplist_Ops.f t466 bt511.1 bt511.2 a2).bind fun t515 => ((heronryref15_Ops.f kj25 l0_0 l1_0 a1_1 a2).bind fun t518 => ((heronryref15_SameOps.f kj25 t515 t518).bind fun t521 => (if t521 = true then ((heronrylaw15_theirs.f kj25 t466).bind fun t522 => ((heronryref15_Same.f kj25 t522 l0_0).bind fun t525 => (some t525))) else (none)))))) else (none)))))) else (none)))))) else (none)) else (none)) = some r := by rw [if_pos rfl] at H; exact H
         clear H
         have H := H1
         clear H1
         by_cases c69 : t487 = t489
         ·rw [if_pos c69] at H
          have c69b0 : (t487 == t489) = true := beq_iff_eq.mpr c69
          have c69b1 : (t487 != t489) = false := bne_eq_false_iff_eq.mpr c69
          clear c69
          by_cases c70 : t488 = t490
          ·rw [if_pos c70] at H
           have c70b0 : (t488 == t490) = true := beq_iff_eq.mpr c70
           have c70b1 : (t488 != t490) = false := bne_eq_false_iff_eq.mpr c70
           clear c70
           replace H := Option.bind_eq_some_iff.mp H
           obtain ⟨t491, A710, H⟩ := H
           replace H : ((heronrylaw15_theirs.f kj25 t491).bind fun t494 => ((heronryref15_Undo.f kj25 l0_0 l5).bind fun t497 => ((heronryref15_Same.f kj25 t494 t497).bind fun t500 => (if t500 = true then ((oplist_Open.f t466 a2).bind fun t501 => ((heronrylaw15_theirs.f kj25 t501).bind fun t504 => ((heronryref15_Open.f kj25 l0_0 a2).bind fun t507 => ((heronryref15_Same.f kj25 t504 t507).bind fun t510 => (if t510 = true then ((heronrylaw15_grove.f kj25 l1_0 a1_1).bind fun bt511 => ((oplist_Ops.f t466 bt511.1 bt511.2 a2).bind fun t515 => ((heronryref15_Ops.f kj25 l0_0 l1_0 a1_1 a2).bind fun t518 => ((heronryref15_SameOps.f kj25 t515 t518).bind fun t521 => (if t521 = true then ((heronrylaw15_theirs.f kj25 t466).bind fun t522 => ((heronryref15_Same.f kj25 t522 l0_0).bind fun t525 => (some t525))) else (none)))))) else (none)))))) else (none))))) = some r := H
           have A71 := am_ A710
           clear A710
           replace H := Option.bind_eq_some_iff.mp H
           obtain ⟨t494, A720, H⟩ := H
           replace H : ((heronryref15_Undo.f kj25 l0_0 l5).bind fun t497 => ((heronryref15_Same.f kj25 t494 t497).bind fun t500 => (if t500 = true then ((oplist_Open.f t466 a2).bind fun t501 => ((heronrylaw15_theirs.f kj25 t501).bind fun t504 => ((heronryref15_Open.f kj25 l0_0 a2).bind fun t507 => ((heronryref15_Same.f kj25 t504 t507).bind fun t510 => (if t510 = true then ((heronrylaw15_grove.f kj25 l1_0 a1_1).bind fun bt511 => ((oplist_Ops.f t466 bt511.1 bt511.2 a2).bind fun t515 => ((heronryref15_Ops.f kj25 l0_0 l1_0 a1_1 a2).bind fun t518 => ((heronryref15_SameOps.f kj25 t515 t518).bind fun t521 => (if t521 = true then ((heronrylaw15_theirs.f kj25 t466).bind fun t522 => ((heronryref15_Same.f kj25 t522 l0_0).bind fun t525 => (some t525))) else (none)))))) else (none)))))) else (none)))) = some r := H
           have A72 := am_ A720
           clear A720
           replace H := Option.bind_eq_some_iff.mp H
           obtain ⟨t497, A730, H⟩ := H
           replace H : ((heronryref15_Same.f kj25 t494 t497).bind fun t500 => (if t500 = true then ((oplist_Open.f t466 a2).bind fun t501 => ((heronrylaw15_theirs.f kj25 t501).bind fun t504 => ((heronryref15_Open.f kj25 l0_0 a2).bind fun t507 => ((heronryref15_Same.f kj25 t504 t507).bind fun t510 => (if t510 = true then ((heronrylaw15_grove.f kj25 l1_0 a1_1).bind fun bt511 => ((oplist_Ops.f t466 bt511.1 bt511.2 a2).bind fun t515 => ((heronryref15_Ops.f kj25 l0_0 l1_0 a1_1 a2).bind fun t518 => ((heronryref15_SameOps.f kj25 t515 t518).bind fun t521 => (if t521 = true then ((heronrylaw15_theirs.f kj25 t466).bind fun t522 => ((heronryref15_Same.f kj25 t522 l0_0).bind fun t525 => (some t525))) else (none)))))) else (none)))))) else (none))) = some r := H
           have A73 := am_ A730
           clear A730
           replace H := Option.bind_eq_some_iff.mp H
           obtain ⟨t500, A740, H⟩ := H
           replace H : (if t500 = true then ((oplist_Open.f t466 a2).bind fun t501 => ((heronrylaw15_theirs.f kj25 t501).bind fun t504 => ((heronryref15_Open.f kj25 l0_0 a2).bind fun t507 => ((heronryref15_Same.f kj25 t504 t507).bind fun t510 => (if t510 = true then ((heronrylaw15_grove.f kj25 l1_0 a1_1).bind fun bt511 => ((oplist_Ops.f t466 bt511.1 bt511.2 a2).bind fun t515 => ((heronryref15_Ops.f kj25 l0_0 l1_0 a1_1 a2).bind fun t518 => ((heronryref15_SameOps.f kj25 t515 t518).bind fun t521 => (if t521 = true then ((heronrylaw15_theirs.f kj25 t466).bind fun t522 => ((heronryref15_Same.f kj25 t522 l0_0).bind fun t525 => (some t525))) else (none)))))) else (none)))))) else (none)) = some r := H
           have A74 := am_ A740
           clear A740
           by_cases c75 : t500 = true
           ·subst c75
            have H1 : ((oplist_Open.f t466 a2).bind fun t501 => ((heronrylaw15_theirs.f kj25 t501).bind fun t504 => ((heronryref15_Open.f kj25 l0_0 a2).bind fun t507 => ((heronryref15_Same.f kj25 t504 t507).bind fun t510 => (if t510 = true then ((heronrylaw15_grove.f kj25 l1_0 a1_1).bind fun bt511 => ((oplist_Ops.f t466 bt511.1 bt511.2 a2).bind fun t515 => ((heronryref15_Ops.f kj25 l0_0 l1_0 a1_1 a2).bind fun t518 => ((heronryref15_SameOps.f kj25 t515 t518).bind fun t521 => (if t521 = true then ((heronrylaw15_theirs.f kj25 t466).bind fun t522 => ((heronryref15_Same.f kj25 t522 l0_0).bind fun t525 => (some t525))) else (none)))))) else (none)))))) = some r := by rw [if_pos rfl] at H; exact H
            clear H
            have H := H1
            clear H1
            replace H := Option.bind_eq_some_iff.mp H
            obtain ⟨t501, A760, H⟩ := H
            replace H : ((heronrylaw15_theirs.f kj25 t501).bind fun t504 => ((heronryref15_Open.f kj25 l0_0 a2).bind fun t507 => ((heronryref15_Same.f kj25 t504 t507).bind fun t510 => (if t510 = true then ((heronrylaw15_grove.f kj25 l1_0 a1_1).bind fun bt511 => ((oplist_Ops.f t466 bt511.1 bt511.2 a2).bind fun t515 => ((heronryref15_Ops.f kj25 l0_0 l1_0 a1_1 a2).bind fun t518 => ((heronryref15_SameOps.f kj25 t515 t518).bind fun t521 => (if t521 = true then ((heronrylaw15_theirs.f kj25 t466).bind fun t522 => ((heronryref15_Same.f kj25 t522 l0_0).bind fun t525 => (some t525))) else (none)))))) else (none))))) = some r := H
            have A76 := am_ A760
            clear A760
            replace H := Option.bind_eq_some_iff.mp H
            obtain ⟨t504, A770, H⟩ := H
            replace H : ((heronryref15_Open.f kj25 l0_0 a2).bind fun t507 => ((heronryref15_Same.f kj25 t504 t507).bind fun t510 => (if t510 = true then ((heronrylaw15_grove.f kj25 l1_0 a1_1).bind fun bt511 => ((oplist_Ops.f t466 bt511.1 bt511.2 a2).bind fun t515 => ((heronryref15_Ops.f kj25 l0_0 l1_0 a1_1 a2).bind fun t518 => ((heronryref15_SameOps.f kj25 t515 t518).bind fun t521 => (if t521 = true then ((heronrylaw15_theirs.f kj25 t466).bind fun t522 => ((heronryref15_Same.f kj25 t522 l0_0).bind fun t525 => (some t525))) else (none)))))) else (none)))) = some r := H
            have A77 := am_ A770
            clear A770
            replace H := Option.bind_eq_some_iff.mp H
            obtain ⟨t507, A780, H⟩ := H
            replace H : ((heronryref15_Same.f kj25 t504 t507).bind fun t510 => (if t510 = true then ((heronrylaw15_grove.f kj25 l1_0 a1_1).bind fun bt511 => ((oplist_Ops.f t466 bt511.1 bt511.2 a2).bind fun t515 => ((heronryref15_Ops.f kj25 l0_0 l1_0 a1_1 a2).bind fun t518 => ((heronryref15_SameOps.f kj25 t515 t518).bind fun t521 => (if t521 = true then ((heronrylaw15_theirs.f kj25 t466).bind fun t522 => ((heronryref15_Same.f kj25 t522 l0_0).bind fun t525 => (some t525))) else (none)))))) else (none))) = some r := H
            have A78 := am_ A780
            clear A780
            replace H := Option.bind_eq_some_iff.mp H
            obtain ⟨t510, A790, H⟩ := H
            replace H : (if t510 = true then ((heronrylaw15_grove.f kj25 l1_0 a1_1).bind fun bt511 => ((oplist_Ops.f t466 bt511.1 bt511.2 a2).bind fun t515 => ((heronryref15_Ops.f kj25 l0_0 l1_0 a1_1 a2).bind fun t518 => ((heronryref15_SameOps.f kj25 t515 t518).bind fun t521 => (if t521 = true then ((heronrylaw15_theirs.f kj25 t466).bind fun t522 => ((heronryref15_Same.f kj25 t522 l0_0).bind fun t525 => (some t525))) else (none)))))) else (none)) = some r := H
            have A79 := am_ A790
            clear A790
            by_cases c80 : t510 = true
            ·subst c80
             have H1 : ((heronrylaw15_grove.f kj25 l1_0 a1_1).bind fun bt511 => ((oplist_Ops.f t466 bt511.1 bt511.2 a2).bind fun t515 => ((heronryref15_Ops.f kj25 l0_0 l1_0 a1_1 a2).bind fun t518 => ((heronryref15_SameOps.f kj25 t515 t518).bind fun t521 => (if t521 = true then ((heronrylaw15_theirs.f kj25 t466).bind fun t522 => ((heronryref15_Same.f kj25 t522 l0_0).bind fun t525 => (some t525))) else (none)))))) = some r := by rw [if_pos rfl] at H; exact H
             clear H
             have H := H1
             clear H1
             replace H := Option.bind_eq_some_iff.mp H
             obtain ⟨⟨t511, t514⟩, A810, H⟩ := H
             replace H : ((oplist_Ops.f t466 t511 t514 a2).bind fun t515 => ((heronryref15_Ops.f kj25 l0_0 l1_0 a1_1 a2).bind fun t518 => ((heronryref15_SameOps.f kj25 t515 t518).bind fun t521 => (if t521 = true then ((heronrylaw15_theirs.f kj25 t466).bind fun t522 => ((heronryref15_Same.f kj25 t522 l0_0).bind fun t525 => (some t525))) else (none))))) = some r := H
             have A81 := am_ A810
             clear A810
             replace H := Option.bind_eq_some_iff.mp H
             obtain ⟨t515, A820, H⟩ := H
             replace H : ((heronryref15_Ops.f kj25 l0_0 l1_0 a1_1 a2).bind fun t518 => ((heronryref15_SameOps.f kj25 t515 t518).bind fun t521 => (if t521 = true then ((heronrylaw15_theirs.f kj25 t466).bind fun t522 => ((heronryref15_Same.f kj25 t522 l0_0).bind fun t525 => (some t525))) else (none)))) = some r := H
             have A82 := am_ A820
             clear A820
             replace H := Option.bind_eq_some_iff.mp H
             obtain ⟨t518, A830, H⟩ := H
             replace H : ((heronryref15_SameOps.f kj25 t515 t518).bind fun t521 => (if t521 = true then ((heronrylaw15_theirs.f kj25 t466).bind fun t522 => ((heronryref15_Same.f kj25 t522 l0_0).bind fun t525 => (some t525))) else (none))) = some r := H
             have A83 := am_ A830
             clear A830
             replace H := Option.bind_eq_some_iff.mp H
             obtain ⟨t521, A840, H⟩ := H
             replace H : (if t521 = true then ((heronrylaw15_theirs.f kj25 t466).bind fun t522 => ((heronryref15_Same.f kj25 t522 l0_0).bind fun t525 => (some t525))) else (none)) = some r := H
             have A84 := am_ A840
             clear A840
             by_cases c85 : t521 = true
             ·subst c85
              have H1 : ((heronrylaw15_theirs.f kj25 t466).bind fun t522 => ((heronryref15_Same.f kj25 t522 l0_0).bind fun t525 => (some t525))) = some r := by rw [if_pos rfl] at H; exact H
              clear H
              have H := H1
              clear H1
              replace H := Option.bind_eq_some_iff.mp H
              obtain ⟨t522, A860, H⟩ := H
              replace H : ((heronryref15_Same.f kj25 t522 l0_0).bind fun t525 => (some t525)) = some r := H
              have A86 := am_ A860
              clear A860
              replace H := Option.bind_eq_some_iff.mp H
              obtain ⟨t525, A870, H⟩ := H
              replace H : (some t525) = some r := H
              have A87 := am_ A870
              clear A870
              obtain rfl := Option.some.inj H
              have hnb88 := NB463_464.out
              have hnc88 := NB464_463.out
              have hnb89 := NB463_469.out
              have hnc89 := NB469_463.out
              have hnb90 := NB463_474.out
              have hnc90 := NB474_463.out
              have hnb91 := NB463_479.out
              have hnc91 := NB479_463.out
              have hcz92_0 : wc.cell? ⟨gb463, 0, none⟩ = some (.slice A0_0 l0_0.length c0_0) := (blk_cell BK463.out 0).trans rfl
              have hfz92_0 := blk_frozen BK463.out 0
              try go_wp2_with (first | ((with_reducible refine gate_callee (f := 23) rfl ?_); refine goesL_ (some 78) rfl rfl Try.func23 (by kernel_rfl) rfl #[.agg #[.slice A0_0 l0_0.length c0_0]] rfl ma_ ?_; (with_reducible refine (heronryref15_Sane.calls kj25 _ _ l0_0 true _ ?side1 ?side2 A64.out).mono ?_); (case side1 => repeat (first | exact (Kd.C_below HR0_0.out HB.out) | (with_reducible refine Kd.C_alloc ?_ _) | (with_reducible refine Kd.C_drewN ?_ _) | (with_reducible refine Kd.C_drew ?_))); (case side2 => exact HC0_0.out); rintro e w93 ⟨rfl, hb⟩; refine ⟨_, rfl, ?_⟩; have n0_ := am_ (Kd.R_below (ro_ HO_470000.out) hb); have n1_ := am_ (Kd.R_below (ro_ HO_475000.out) hb); have n2_ := am_ (Kd.R_below (ro_ HO_480000.out) hb); have n3_ := am_ (bb_ BK463.out hb); have n4_ := am_ (bb_ BK464.out hb); have n5_ := am_ (bb_ BK469.out hb); have n6_ := am_ (bb_ BK474.out hb); have n7_ := am_ (bb_ BK479.out hb); have n8_ := am_ (below_step (be_ HB.out) hb); clear HO_470000; clear HO_475000; clear HO_480000; clear BK463; clear BK464; clear BK469; clear BK474; clear BK479; clear HB; have HO_470000 := n0_; have HO_475000 := n1_; have HO_480000 := n2_; have BK463 := n3_; have BK464 := n4_; have BK469 := n5_; have BK474 := n6_; have BK479 := n7_; have HB := n8_; clear n0_ n1_ n2_ n3_ n4_ n5_ n6_ n7_ n8_; (try clear hb); (try clear hb2); (try clear hk); (try clear hi); have hnb94 := NB469_464.out; have hnc94 := NB464_469.out; have hnb95 := NB469_474.out; have hnc95 := NB474_469.out; have hnb96 := NB469_479.out; have hnc96 := NB479_469.out; have hcz97_0 : w93.cell? ⟨gb469, 0, none⟩ = some (.slice Ao31 t466.length co31) := (blk_cell BK469.out 0).trans rfl; have hfz97_0 := blk_frozen BK469.out 0) | ((with_reducible refine gate_callee (f := 16) rfl ?_); refine goesL_ (some 84) rfl rfl Try.func16 (by kernel_rfl) rfl #[.agg #[.slice Ao31 t466.length co31], .int .i64 a3] rfl ma_ ?_; (with_reducible refine (oplist_Net.calls kj25 _ _ t466 a3 t487 t488 _ ?side1 ?side2 A66.out).mono ?_); (case side1 => repeat (first | exact (Kd.R_reads' HO_470000.out).2.2 | (with_reducible refine Kd.C_alloc ?_ _) | (with_reducible refine Kd.C_drewN ?_ _) | (with_reducible refine Kd.C_drew ?_))); (case side2 => exact (Kd.R_reads' HO_470000.out).2.1); rintro e w98 ⟨rfl, hb⟩; refine ⟨_, rfl, ?_⟩; have n0_ := am_ (Kd.R_below (ro_ HO_470000.out) hb); have n1_ := am_ (Kd.R_below (ro_ HO_475000.out) hb); have n2_ := am_ (Kd.R_below (ro_ HO_480000.out) hb); have n3_ := am_ (bb_ BK463.out hb); have n4_ := am_ (bb_ BK464.out hb); have n5_ := am_ (bb_ BK469.out hb); have n6_ := am_ (bb_ BK474.out hb); have n7_ := am_ (bb_ BK479.out hb); have n8_ := am_ (below_step (be_ HB.out) hb); clear HO_470000; clear HO_475000; clear HO_480000; clear BK463; clear BK464; clear BK469; clear BK474; clear BK479; clear HB; have HO_470000 := n0_; have HO_475000 := n1_; have HO_480000 := n2_; have BK463 := n3_; have BK464 := n4_; have BK469 := n5_; have BK474 := n6_; have BK479 := n7_; have HB := n8_; clear n0_ n1_ n2_ n3_ n4_ n5_ n6_ n7_ n8_; (try clear hb); (try clear hb2); (try clear hk); (try clear hi); have hcz99_0 : w98.cell? ⟨gb463, 0, none⟩ = some (.slice A0_0 l0_0.length c0_0) := (blk_cell BK463.out 0).trans rfl; have hfz99_0 := blk_frozen BK463.out 0) | ((with_reducible refine gate_callee (f := 24) rfl ?_); refine goesL_ (some 90) rfl rfl Try.func24 (by kernel_rfl) rfl #[.agg #[.slice A0_0 l0_0.length c0_0], .int .i64 a3] rfl ma_ ?_; (with_reducible refine (heronryref15_Net.calls kj25 _ _ l0_0 a3 t489 t490 _ ?side1 ?side2 A67.out).mono ?_); (case side1 => repeat (first | exact (Kd.C_below HR0_0.out HB.out) | (with_reducible refine Kd.C_alloc ?_ _) | (with_reducible refine Kd.C_drewN ?_ _) | (with_reducible refine Kd.C_drew ?_))); (case side2 => exact HC0_0.out); rintro e w100 ⟨rfl, hb⟩; refine ⟨_, rfl, ?_⟩; have n0_ := am_ (Kd.R_below (ro_ HO_470000.out) hb); have n1_ := am_ (Kd.R_below (ro_ HO_475000.out) hb); have n2_ := am_ (Kd.R_below (ro_ HO_480000.out) hb); have n3_ := am_ (bb_ BK463.out hb); have n4_ := am_ (bb_ BK464.out hb); have n5_ := am_ (bb_ BK469.out hb); have n6_ := am_ (bb_ BK474.out hb); have n7_ := am_ (bb_ BK479.out hb); have n8_ := am_ (below_step (be_ HB.out) hb); clear HO_470000; clear HO_475000; clear HO_480000; clear BK463; clear BK464; clear BK469; clear BK474; clear BK479; clear HB; have HO_470000 := n0_; have HO_475000 := n1_; have HO_480000 := n2_; have BK463 := n3_; have BK464 := n4_; have BK469 := n5_; have BK474 := n6_; have BK479 := n7_; have HB := n8_; clear n0_ n1_ n2_ n3_ n4_ n5_ n6_ n7_ n8_; (try clear hb); (try clear hb2); (try clear hk); (try clear hi)))
              have n0_ := am_ (Kd.R_drew HO_470000.out)
              have n1_ := am_ (Kd.R_drew HO_475000.out)
              have n2_ := am_ (Kd.R_drew HO_480000.out)
              have n3_ := am_ (blk_drew BK463.out)
              have n4_ := am_ (blk_drew BK464.out)
              have n5_ := am_ (blk_drew BK469.out)
              have n6_ := am_ (blk_drew BK474.out)
              have n7_ := am_ (blk_drew BK479.out)
              have n8_ := am_ (below_drew1 HB.out)
              clear HO_470000
              clear HO_475000
              clear HO_480000
              clear BK463
              clear BK464
              clear BK469
              clear BK474
              clear BK479
              clear HB
              have HO_470000 := n0_
              have HO_475000 := n1_
              have HO_480000 := n2_
              have BK463 := n3_
              have BK464 := n4_
              have BK469 := n5_
              have BK474 := n6_
              have BK479 := n7_
              have HB := n8_
              clear n0_ n1_ n2_ n3_ n4_ n5_ n6_ n7_ n8_
              refine start_ (n := 54) (S := fun w' => w'.cell? ⟨gb469, 0, none⟩ = some (.slice Ao31 t466.length co31) ∧ w'.cell? ⟨gb463, 0, none⟩ = some (.slice A0_0 l0_0.length c0_0) ∧ w'.cell? ⟨gb464, 0, none⟩ = some (.slice A1_0 l1_0.length c1_0) ∧ w'.cell? ⟨gb464, 1, none⟩ = some (.int .i64 a1_1)) (ds := []) #[false, false, false, false, false, false, false, false, false, false, false, false, false, false, false, false, false, false, false, false, false, false, false, false, false, false, false, false, false, false, false, false, false, false, false, false, false, false, false, false, false, false, false, false, false, false, false, false, false, false, false, false, false, false] (by kernel_rfl) rfl rfl ⟨(blk_cell BK469.out 0).trans rfl, (blk_cell BK463.out 0).trans rfl, (blk_cell BK464.out 0).trans rfl, (blk_cell BK464.out 1).trans rfl⟩ (fun hHeld => ?_); refine with_tabW heronrylaw15_OplistIs.tab13 heronrylaw15_OplistIs.bits13 (fun HT_ HW_ => ?_)
              generalize w100.drew = w101 at HO_470000 HO_475000 HO_480000 BK463 BK464 BK469 BK474 BK479 HB hHeld ⊢
              refine pure_ (i := 0) (N := some 93) (v := ?_) (a' := ?_) #[true, false, false, false, false, false, false, false, false, false, false, false, false, false, false, false, false, false, false, false, false, false, false, false, false, false, false, false, false, false, false, false, false, false, false, false, false, false, false, false, false, false, false, false, false, false, false, false, false, false, false, false, false, false] rfl rfl (any_of HT_.out (by kernel_rfl)) (fun _ _ _ h => h) (Or.inl ⟨by rfl, ?_⟩) ?_ ?_
              rotate_left
              ·intro w'
               go_simp
               with_reducible rfl
              rotate_left
              ·simp only [Act.put, List.setIfInBounds_toArray, List.set_cons_zero, List.set_cons_succ, i64_w, i32_w]
               rfl
              refine pure_ (i := 1) (N := some 94) (v := ?_) (a' := ?_) #[true, true, false, false, false, false, false, false, false, false, false, false, false, false, false, false, false, false, false, false, false, false, false, false, false, false, false, false, false, false, false, false, false, false, false, false, false, false, false, false, false, false, false, false, false, false, false, false, false, false, false, false, false, false] rfl rfl (any_of HT_.out (by kernel_rfl)) (fun _ _ _ h => h) (Or.inl ⟨by rfl, ?_⟩) ?_ ?_
              rotate_left
              ·intro w'
               go_simp
               with_reducible rfl
              rotate_left
              ·simp only [Act.put, List.setIfInBounds_toArray, List.set_cons_zero, List.set_cons_succ, i64_w, i32_w]
               rfl
              refine pure_ (i := 2) (N := some 95) (v := ?_) (a' := ?_) #[true, true, true, false, false, false, false, false, false, false, false, false, false, false, false, false, false, false, false, false, false, false, false, false, false, false, false, false, false, false, false, false, false, false, false, false, false, false, false, false, false, false, false, false, false, false, false, false, false, false, false, false, false, false] rfl rfl (any_of HT_.out (by kernel_rfl)) (fun _ _ _ h => h) (Or.inl ⟨by rfl, ?_⟩) ?_ ?_
              rotate_left
              ·intro w'
               go_simp
               with_reducible rfl
              rotate_left
              ·simp only [Act.put, List.setIfInBounds_toArray, List.set_cons_zero, List.set_cons_succ, i64_w, i32_w]
               rfl
              refine pure_ (i := 3) (N := some 96) (v := ?_) (a' := ?_) #[true, true, true, true, false, false, false, false, false, false, false, false, false, false, false, false, false, false, false, false, false, false, false, false, false, false, false, false, false, false, false, false, false, false, false, false, false, false, false, false, false, false, false, false, false, false, false, false, false, false, false, false, false, false] rfl rfl (any_of HT_.out (by kernel_rfl)) (fun _ _ _ h => h) (Or.inl ⟨by rfl, ?_⟩) ?_ ?_
              rotate_left
              ·intro w'
               go_simp
               with_reducible rfl
              rotate_left
              ·simp only [Act.put, List.setIfInBounds_toArray, List.set_cons_zero, List.set_cons_succ, i64_w, i32_w]
               rfl
              refine pure_ (i := 4) (N := some 97) (v := ?_) (a' := ?_) #[true, true, true, true, true, false, false, false, false, false, false, false, false, false, false, false, false, false, false, false, false, false, false, false, false, false, false, false, false, false, false, false, false, false, false, false, false, false, false, false, false, false, false, false, false, false, false, false, false, false, false, false, false, false] rfl rfl (any_of HT_.out (by kernel_rfl)) (fun _ _ _ h => h) (Or.inl ⟨by rfl, ?_⟩) ?_ ?_
              rotate_left
              ·intro w'
               go_simp
               with_reducible rfl
              rotate_left
              ·simp only [Act.put, List.setIfInBounds_toArray, List.set_cons_zero, List.set_cons_succ, i64_w, i32_w]
               rfl
              refine pure_ (i := 5) (N := some 98) (v := ?_) (a' := ?_) #[true, true, true, true, true, true, false, false, false, false, false, false, false, false, false, false, false, false, false, false, false, false, false, false, false, false, false, false, false, false, false, false, false, false, false, false, false, false, false, false, false, false, false, false, false, false, false, false, false, false, false, false, false, false] rfl rfl (any_of HT_.out (by kernel_rfl)) (fun _ _ _ h => h) (Or.inl ⟨by rfl, ?_⟩) ?_ ?_
              rotate_left
              ·intro w'
               go_simp
               with_reducible rfl
              rotate_left
              ·simp only [Act.put, List.setIfInBounds_toArray, List.set_cons_zero, List.set_cons_succ, i64_w, i32_w]
               rfl
              refine pure_ (i := 6) (N := some 99) (v := ?_) (a' := ?_) #[true, true, true, true, true, true, true, false, false, false, false, false, false, false, false, false, false, false, false, false, false, false, false, false, false, false, false, false, false, false, false, false, false, false, false, false, false, false, false, false, false, false, false, false, false, false, false, false, false, false, false, false, false, false] rfl rfl (any_of HT_.out (by kernel_rfl)) (fun _ _ _ h => h) (Or.inl ⟨by rfl, ?_⟩) ?_ ?_
              rotate_left
              ·intro w'
               go_simp
               with_reducible rfl
              rotate_left
              ·simp only [Act.put, List.setIfInBounds_toArray, List.set_cons_zero, List.set_cons_succ, i64_w, i32_w]
               rfl
              refine pure_ (i := 7) (N := some 100) (v := ?_) (a' := ?_) #[true, true, true, true, true, true, true, true, false, false, false, false, false, false, false, false, false, false, false, false, false, false, false, false, false, false, false, false, false, false, false, false, false, false, false, false, false, false, false, false, false, false, false, false, false, false, false, false, false, false, false, false, false, false] rfl rfl (any_of HT_.out (by kernel_rfl)) (fun _ _ _ h => h) (Or.inl ⟨by rfl, ?_⟩) ?_ ?_
              rotate_left
              ·intro w'
               go_simp
               with_reducible rfl
              rotate_left
              ·simp only [Act.put, List.setIfInBounds_toArray, List.set_cons_zero, List.set_cons_succ, i64_w, i32_w]
               rfl
              refine pure_ (i := 8) (N := some 101) (v := ?_) (a' := ?_) #[true, true, true, true, true, true, true, true, true, false, false, false, false, false, false, false, false, false, false, false, false, false, false, false, false, false, false, false, false, false, false, false, false, false, false, false, false, false, false, false, false, false, false, false, false, false, false, false, false, false, false, false, false, false] rfl rfl (any_of HT_.out (by kernel_rfl)) (fun _ _ _ h => h) (Or.inl ⟨by rfl, ?_⟩) ?_ ?_
              rotate_left
              ·intro w'
               go_simp
               with_reducible rfl
              rotate_left
              ·simp only [Act.put, List.setIfInBounds_toArray, List.set_cons_zero, List.set_cons_succ, i64_w, i32_w]
               rfl
              refine pure_ (i := 9) (N := some 102) (v := ?_) (a' := ?_) #[true, true, true, true, true, true, true, true, true, true, false, false, false, false, false, false, false, false, false, false, false, false, false, false, false, false, false, false, false, false, false, false, false, false, false, false, false, false, false, false, false, false, false, false, false, false, false, false, false, false, false, false, false, false] rfl rfl (any_of HT_.out (by kernel_rfl)) (fun _ _ _ h => h) (Or.inl ⟨by rfl, ?_⟩) ?_ ?_
              rotate_left
              ·intro w'
               go_simp
               with_reducible rfl
              rotate_left
              ·simp only [Act.put, List.setIfInBounds_toArray, List.set_cons_zero, List.set_cons_succ, i64_w, i32_w]
               rfl
              refine pure_ (i := 10) (N := some 103) (v := ?_) (a' := ?_) #[true, true, true, true, true, true, true, true, true, true, true, false, false, false, false, false, false, false, false, false, false, false, false, false, false, false, false, false, false, false, false, false, false, false, false, false, false, false, false, false, false, false, false, false, false, false, false, false, false, false, false, false, false, false] rfl rfl (any_of HT_.out (by kernel_rfl)) (fun _ _ _ h => h) (Or.inl ⟨by rfl, ?_⟩) ?_ ?_
              rotate_left
              ·intro w'
               go_simp
               with_reducible rfl
              rotate_left
              ·simp only [Act.put, List.setIfInBounds_toArray, List.set_cons_zero, List.set_cons_succ, i64_w, i32_w]
               rfl
              refine pure_ (i := 11) (N := some 104) (v := ?_) (a' := ?_) #[true, true, true, true, true, true, true, true, true, true, true, true, false, false, false, false, false, false, false, false, false, false, false, false, false, false, false, false, false, false, false, false, false, false, false, false, false, false, false, false, false, false, false, false, false, false, false, false, false, false, false, false, false, false] rfl rfl (any_of HT_.out (by kernel_rfl)) (fun _ _ _ h => h) (Or.inl ⟨by rfl, ?_⟩) ?_ ?_
              rotate_left
              ·intro w'
               go_simp
               with_reducible rfl
              rotate_left
              ·simp only [Act.put, List.setIfInBounds_toArray, List.set_cons_zero, List.set_cons_succ, i64_w, i32_w]
               rfl
              refine pure_ (i := 13) (N := some 106) (v := ?_) (a' := ?_) #[true, true, true, true, true, true, true, true, true, true, true, true, false, true, false, false, false, false, false, false, false, false, false, false, false, false, false, false, false, false, false, false, false, false, false, false, false, false, false, false, false, false, false, false, false, false, false, false, false, false, false, false, false, false] rfl rfl (any_of HT_.out (by kernel_rfl)) (fun _ _ _ h => h) (Or.inl ⟨by rfl, ?_⟩) ?_ ?_
              rotate_left
              ·intro w'
               go_simp
               with_reducible rfl
              rotate_left
              ·simp only [Act.put, List.setIfInBounds_toArray, List.set_cons_zero, List.set_cons_succ, i64_w, i32_w]
               rfl
              refine pure_ (i := 18) (N := some 111) (v := ?_) (a' := ?_) #[true, true, true, true, true, true, true, true, true, true, true, true, false, true, false, false, false, false, true, false, false, false, false, false, false, false, false, false, false, false, false, false, false, false, false, false, false, false, false, false, false, false, false, false, false, false, false, false, false, false, false, false, false, false] rfl rfl (any_of HT_.out (by kernel_rfl)) (fun _ _ _ h => h) (Or.inl ⟨by rfl, ?_⟩) ?_ ?_
              rotate_left
              ·intro w'
               go_simp
               with_reducible rfl
              rotate_left
              ·simp only [Act.put, List.setIfInBounds_toArray, List.set_cons_zero, List.set_cons_succ, i64_w, i32_w]
               rfl
              refine take_ (i := 12) (N := some 105) (v := ?_) (a' := ?_) #[true, true, true, true, true, true, true, true, true, true, true, true, true, true, false, false, false, false, true, false, false, false, false, false, false, false, false, false, false, false, false, false, false, false, false, false, false, false, false, false, false, false, false, false, false, false, false, false, false, false, false, false, false, false] rfl rfl (take_ofW HT_.out HW_.out (by kernel_rfl)) (fun _ _ _ h => h) (Or.inl ⟨by rfl, ?_⟩) hHeld ?_ ?_
              rotate_left
              ·rintro w' ⟨s0, s1, s2, s3⟩
               go_simp
               with_reducible rfl
              rotate_left
              ·simp only [Act.put, List.setIfInBounds_toArray, List.set_cons_zero, List.set_cons_succ, i64_w, i32_w]
               rfl
              refine take_ (i := 17) (N := some 110) (v := ?_) (a' := ?_) #[true, true, true, true, true, true, true, true, true, true, true, true, true, true, false, false, false, true, true, false, false, false, false, false, false, false, false, false, false, false, false, false, false, false, false, false, false, false, false, false, false, false, false, false, false, false, false, false, false, false, false, false, false, false] rfl rfl (take_ofW HT_.out HW_.out (by kernel_rfl)) (fun _ _ _ h => h) (Or.inl ⟨by rfl, ?_⟩) hHeld ?_ ?_
              rotate_left
              ·rintro w' ⟨s0, s1, s2, s3⟩
               go_simp
               with_reducible rfl
              rotate_left
              ·simp only [Act.put, List.setIfInBounds_toArray, List.set_cons_zero, List.set_cons_succ, i64_w, i32_w]
               rfl
              refine one_ (i := 14) (N := some 107) #[true, true, true, true, true, true, true, true, true, true, true, true, true, true, true, false, false, true, true, false, false, false, false, false, false, false, false, false, false, false, false, false, false, false, false, false, false, false, false, false, false, false, false, false, false, false, false, false, false, false, false, false, false, false] rfl rfl (one_of HT_.out (by kernel_rfl)) (by decide) (fun K hK => ?_)
              refine goes_ Try.func12 (by kernel_rfl) rfl #[.agg #[.slice Ao31 t466.length co31], .slice A5 l5.length c5] (by rfl) rfl rfl ma_ ?_
              with_reducible refine (oplist_Undo.calls _ _ t466 _ _ l5 t491 _ ?side1 ?side2 ?side3 ?side4 A71.out).mono ?_
              (case side1 => repeat (first | exact (Kd.R_reads' HO_470000.out).2.2 | (with_reducible refine Kd.C_alloc ?_ _) | (with_reducible refine Kd.C_drewN ?_ _) | (with_reducible refine Kd.C_drew ?_)))
              (case side2 => exact (Kd.R_reads' HO_470000.out).2.1)
              (case side3 => repeat (first | exact (Kd.C_below HR5.out HB.out) | (with_reducible refine Kd.C_alloc ?_ _) | (with_reducible refine Kd.C_drewN ?_ _) | (with_reducible refine Kd.C_drew ?_)))
              (case side4 => exact HC5.out)
              rintro e w102 ⟨v492, rfl, ho0, hb⟩
              refine ⟨_, rfl, ?_⟩
              have n0_ := am_ (Kd.R_elder' (ro_ HO_470000.out) (Kd.R_base ho0) hb)
              have n1_ := am_ (Kd.R_elder' (ro_ HO_475000.out) (Kd.R_base ho0) hb)
              have n2_ := am_ (Kd.R_below (ro_ HO_480000.out) hb)
              have n3_ := am_ (Kd.R_lower (Kd.R_new' (Kd.R_new' ho0 (Kd.R_lt (ro_ HO_470000.out))) (Kd.R_lt (ro_ HO_475000.out))) (below_size (be_ HB.out)))
              have n4_ := am_ (bb_ BK463.out hb)
              have n5_ := am_ (bb_ BK464.out hb)
              have n6_ := am_ (bb_ BK469.out hb)
              have n7_ := am_ (bb_ BK474.out hb)
              have n8_ := am_ (bb_ BK479.out hb)
              have n9_ := am_ (below_step (be_ HB.out) hb)
              clear HO_470000
              clear HO_475000
              clear HO_480000
              clear BK463
              clear BK464
              clear BK469
              clear BK474
              clear BK479
              clear HB
              have HO_470000 := n0_
              have HO_475000 := n1_
              have HO_480000 := n2_
              have HO493 := n3_
              have BK463 := n4_
              have BK464 := n5_
              have BK469 := n6_
              have BK474 := n7_
              have BK479 := n8_
              have HB := n9_
              clear n0_ n1_ n2_ n3_ n4_ n5_ n6_ n7_ n8_ n9_
              (try clear hb)
              (try clear hb2)
              (try clear hk)
              (try clear hi)
              (try clear ho0)
              obtain ⟨Ao103, co103, eo103⟩ := Kd.R_slice HO493.out
              (first | subst eo103 | (injection eo103 with f1_ f2_ f3_; have f4_ := f1_.symm; have f5_ := f3_.symm; clear f1_ f2_ f3_; subst f4_; subst f5_))
              refine hK.out _ _ ⟨(blk_cell BK469.out 0).trans rfl, (blk_cell BK463.out 0).trans rfl, (blk_cell BK464.out 0).trans rfl, (blk_cell BK464.out 1).trans rfl⟩ (fun hHeld => ?_)
              clear hK K
              refine norm_ (a' := ?_) ?_ ?_
              rotate_left
              ·show Act.put _ (some 107) _ = _
               simp only [Act.put, List.setIfInBounds_toArray, List.set_cons_zero, List.set_cons_succ, i64_w, i32_w]
               rfl
              refine pure_ (i := 15) (N := some 108) (v := ?_) (a' := ?_) #[true, true, true, true, true, true, true, true, true, true, true, true, true, true, true, true, false, true, true, false, false, false, false, false, false, false, false, false, false, false, false, false, false, false, false, false, false, false, false, false, false, false, false, false, false, false, false, false, false, false, false, false, false, false] rfl rfl (any_of HT_.out (by kernel_rfl)) (fun _ _ _ h => h) (Or.inl ⟨by rfl, ?_⟩) ?_ ?_
              rotate_left
              ·intro w'
               go_simp
               simp only [field26, field58, Result.andThen_ok]
               with_reducible rfl
              rotate_left
              ·simp only [Act.put, List.setIfInBounds_toArray, List.set_cons_zero, List.set_cons_succ, i64_w, i32_w]
               rfl
              refine one_ (i := 16) (N := some 109) #[true, true, true, true, true, true, true, true, true, true, true, true, true, true, true, true, true, true, true, false, false, false, false, false, false, false, false, false, false, false, false, false, false, false, false, false, false, false, false, false, false, false, false, false, false, false, false, false, false, false, false, false, false, false] rfl rfl (one_of HT_.out (by kernel_rfl)) (by decide) (fun K hK => ?_)
              refine goes_ Try.func14 (by kernel_rfl) rfl #[.slice Ao103 t491.length co103] (by rfl) rfl rfl ma_ ?_
              with_reducible refine (heronrylaw15_theirs.calls kj25 _ _ t491 t494 _ ?side1 ?side2 A72.out).mono ?_
              (case side1 => repeat (first | exact (Kd.R_reads' HO493.out).2.2 | (with_reducible refine Kd.C_alloc ?_ _) | (with_reducible refine Kd.C_drewN ?_ _) | (with_reducible refine Kd.C_drew ?_)))
              (case side2 => exact (Kd.R_reads' HO493.out).2.1)
              rintro e w104 ⟨v495, rfl, ho0, hb⟩
              refine ⟨_, rfl, ?_⟩
              have n0_ := am_ (Kd.R_below (ro_ HO_470000.out) hb)
              have n1_ := am_ (Kd.R_below (ro_ HO_475000.out) hb)
              have n2_ := am_ (Kd.R_elder' (ro_ HO_480000.out) (Kd.R_base ho0) hb)
              have n3_ := am_ (Kd.R_below (ro_ HO493.out) hb)
              have n4_ := am_ (Kd.R_lower (Kd.R_new' ho0 (Kd.R_lt (ro_ HO_480000.out))) (below_size (be_ HB.out)))
              have n5_ := am_ (bb_ BK463.out hb)
              have n6_ := am_ (bb_ BK464.out hb)
              have n7_ := am_ (bb_ BK469.out hb)
              have n8_ := am_ (bb_ BK474.out hb)
              have n9_ := am_ (bb_ BK479.out hb)
              have n10_ := am_ (below_step (be_ HB.out) hb)
              clear HO_470000
              clear HO_475000
              clear HO_480000
              clear HO493
              clear BK463
              clear BK464
              clear BK469
              clear BK474
              clear BK479
              clear HB
              have HO_470000 := n0_
              have HO_475000 := n1_
              have HO_480000 := n2_
              have HO493 := n3_
              have HO496 := n4_
              have BK463 := n5_
              have BK464 := n6_
              have BK469 := n7_
              have BK474 := n8_
              have BK479 := n9_
              have HB := n10_
              clear n0_ n1_ n2_ n3_ n4_ n5_ n6_ n7_ n8_ n9_ n10_
              (try clear hb)
              (try clear hb2)
              (try clear hk)
              (try clear hi)
              (try clear ho0)
              refine hK.out _ _ ⟨(blk_cell BK469.out 0).trans rfl, (blk_cell BK463.out 0).trans rfl, (blk_cell BK464.out 0).trans rfl, (blk_cell BK464.out 1).trans rfl⟩ (fun hHeld => ?_)
              clear hK K
              refine norm_ (a' := ?_) ?_ ?_
              rotate_left
              ·show Act.put _ (some 109) _ = _
               simp only [Act.put, List.setIfInBounds_toArray, List.set_cons_zero, List.set_cons_succ, i64_w, i32_w]
               rfl
              refine one_ (i := 19) (N := some 112) #[true, true, true, true, true, true, true, true, true, true, true, true, true, true, true, true, true, true, true, true, false, false, false, false, false, false, false, false, false, false, false, false, false, false, false, false, false, false, false, false, false, false, false, false, false, false, false, false, false, false, false, false, false, false] rfl rfl (one_of HT_.out (by kernel_rfl)) (by decide) (fun K hK => ?_)
              refine goes_ Try.func25 (by kernel_rfl) rfl #[.agg #[.slice A0_0 l0_0.length c0_0], .slice A5 l5.length c5] (by rfl) rfl rfl ma_ ?_
              with_reducible refine (heronryref15_Undo.calls kj25 _ _ l0_0 _ _ l5 t497 _ ?side1 ?side2 ?side3 ?side4 A73.out).mono ?_
              (case side1 => repeat (first | exact (Kd.C_below HR0_0.out HB.out) | (with_reducible refine Kd.C_alloc ?_ _) | (with_reducible refine Kd.C_drewN ?_ _) | (with_reducible refine Kd.C_drew ?_)))
              (case side2 => exact HC0_0.out)
              (case side3 => repeat (first | exact (Kd.C_below HR5.out HB.out) | (with_reducible refine Kd.C_alloc ?_ _) | (with_reducible refine Kd.C_drewN ?_ _) | (with_reducible refine Kd.C_drew ?_)))
              (case side4 => exact HC5.out)
              rintro e w105 ⟨v498, rfl, ho0, hb⟩
              refine ⟨_, rfl, ?_⟩
              have n0_ := am_ (Kd.R_below (ro_ HO_470000.out) hb)
              have n1_ := am_ (Kd.R_below (ro_ HO_475000.out) hb)
              have n2_ := am_ (Kd.R_elder' (ro_ HO_480000.out) (Kd.R_base ho0) hb)
              have n3_ := am_ (Kd.R_below (ro_ HO493.out) hb)
              have n4_ := am_ (Kd.R_elder' (ro_ HO496.out) (Kd.R_base ho0) hb)
              have n5_ := am_ (Kd.R_lower (Kd.R_new' (Kd.R_new' ho0 (Kd.R_lt (ro_ HO_480000.out))) (Kd.R_lt (ro_ HO496.out))) (below_size (be_ HB.out)))
              have n6_ := am_ (bb_ BK463.out hb)
              have n7_ := am_ (bb_ BK464.out hb)
              have n8_ := am_ (bb_ BK469.out hb)
              have n9_ := am_ (bb_ BK474.out hb)
              have n10_ := am_ (bb_ BK479.out hb)
              have n11_ := am_ (below_step (be_ HB.out) hb)
              clear HO_470000
              clear HO_475000
              clear HO_480000
              clear HO493
              clear HO496
              clear BK463
              clear BK464
              clear BK469
              clear BK474
              clear BK479
              clear HB
              have HO_470000 := n0_
              have HO_475000 := n1_
              have HO_480000 := n2_
              have HO493 := n3_
              have HO496 := n4_
              have HO499 := n5_
              have BK463 := n6_
              have BK464 := n7_
              have BK469 := n8_
              have BK474 := n9_
              have BK479 := n10_
              have HB := n11_
              clear n0_ n1_ n2_ n3_ n4_ n5_ n6_ n7_ n8_ n9_ n10_ n11_
              (try clear hb)
              (try clear hb2)
              (try clear hk)
              (try clear hi)
              (try clear ho0)
              obtain ⟨Ao106, co106, eo106⟩ := Kd.R_slice HO496.out
              (first | subst eo106 | (injection eo106 with f1_ f2_ f3_; have f4_ := f1_.symm; have f5_ := f3_.symm; clear f1_ f2_ f3_; subst f4_; subst f5_))
              obtain ⟨Ao107, co107, eo107⟩ := Kd.R_slice HO499.out
              (first | subst eo107 | (injection eo107 with f1_ f2_ f3_; have f4_ := f1_.symm; have f5_ := f3_.symm; clear f1_ f2_ f3_; subst f4_; subst f5_))
              refine hK.out _ _ ⟨(blk_cell BK469.out 0).trans rfl, (blk_cell BK463.out 0).trans rfl, (blk_cell BK464.out 0).trans rfl, (blk_cell BK464.out 1).trans rfl⟩ (fun hHeld => ?_)
              clear hK K
              refine norm_ (a' := ?_) ?_ ?_
              rotate_left
              ·show Act.put _ (some 112) _ = _
               simp only [Act.put, List.setIfInBounds_toArray, List.set_cons_zero, List.set_cons_succ, i64_w, i32_w]
               rfl
              refine pure_ (i := 20) (N := some 113) (v := ?_) (a' := ?_) #[true, true, true, true, true, true, true, true, true, true, true, true, true, true, true, true, true, true, true, true, true, false, false, false, false, false, false, false, false, false, false, false, false, false, false, false, false, false, false, false, false, false, false, false, false, false, false, false, false, false, false, false, false, false] rfl rfl (any_of HT_.out (by kernel_rfl)) (fun _ _ _ h => h) (Or.inl ⟨by rfl, ?_⟩) ?_ ?_
              rotate_left
              ·intro w'
               go_simp
               simp only [field26, field58, Result.andThen_ok]
               with_reducible rfl
              rotate_left
              ·simp only [Act.put, List.setIfInBounds_toArray, List.set_cons_zero, List.set_cons_succ, i64_w, i32_w]
               rfl
              refine one_ (i := 21) (N := some 114) #[true, true, true, true, true, true, true, true, true, true, true, true, true, true, true, true, true, true, true, true, true, true, false, false, false, false, false, false, false, false, false, false, false, false, false, false, false, false, false, false, false, false, false, false, false, false, false, false, false, false, false, false, false, false] rfl rfl (one_of HT_.out (by kernel_rfl)) (by decide) (fun K hK => ?_)
              refine goes_ Try.func13 (by kernel_rfl) rfl #[.slice Ao106 t494.length co106, .slice Ao107 t497.length co107] (by rfl) rfl rfl ma_ ?_
              with_reducible refine (heronryref15_Same.calls kj25 _ _ t494 _ _ t497 true _ ?side1 ?side2 ?side3 ?side4 A74.out).mono ?_
              (case side1 => repeat (first | exact (Kd.R_reads' HO496.out).2.2 | (with_reducible refine Kd.C_alloc ?_ _) | (with_reducible refine Kd.C_drewN ?_ _) | (with_reducible refine Kd.C_drew ?_)))
              (case side2 => exact (Kd.R_reads' HO496.out).2.1)
              (case side3 => repeat (first | exact (Kd.R_reads' HO499.out).2.2 | (with_reducible refine Kd.C_alloc ?_ _) | (with_reducible refine Kd.C_drewN ?_ _) | (with_reducible refine Kd.C_drew ?_)))
              (case side4 => exact (Kd.R_reads' HO499.out).2.1)
              rintro e w' ⟨rfl, ⟨nd, rfl⟩⟩
              refine ⟨_, rfl, ?_⟩
              refine hK.out _ _ ⟨(blk_cell BK469.out 0).trans rfl, (blk_cell BK463.out 0).trans rfl, (blk_cell BK464.out 0).trans rfl, (blk_cell BK464.out 1).trans rfl⟩ (fun hHeld => ?_)
              clear hK K
              refine norm_ (a' := ?_) ?_ ?_
              rotate_left
              ·show Act.put _ (some 114) _ = _
               simp only [Act.put, List.setIfInBounds_toArray, List.set_cons_zero, List.set_cons_succ, i64_w, i32_w]
               rfl
              refine pure_ (i := 22) (N := some 115) (v := ?_) (a' := ?_) #[true, true, true, true, true, true, true, true, true, true, true, true, true, true, true, true, true, true, true, true, true, true, true, false, false, false, false, false, false, false, false, false, false, false, false, false, false, false, false, false, false, false, false, false, false, false, false, false, false, false, false, false, false, false] rfl rfl (any_of HT_.out (by kernel_rfl)) (fun _ _ _ h => h) (Or.inl ⟨by rfl, ?_⟩) ?_ ?_
              rotate_left
              ·intro w'
               go_simp
               with_reducible rfl
              rotate_left
              ·simp only [Act.put, List.setIfInBounds_toArray, List.set_cons_zero, List.set_cons_succ, i64_w, i32_w]
               rfl
              refine pure_ (i := 23) (N := some 116) (v := ?_) (a' := ?_) #[true, true, true, true, true, true, true, true, true, true, true, true, true, true, true, true, true, true, true, true, true, true, true, true, false, false, false, false, false, false, false, false, false, false, false, false, false, false, false, false, false, false, false, false, false, false, false, false, false, false, false, false, false, false] rfl rfl (any_of HT_.out (by kernel_rfl)) (fun _ _ _ h => h) (Or.inl ⟨by rfl, ?_⟩) ?_ ?_
              rotate_left
              ·intro w'
               go_simp
               with_reducible rfl
              rotate_left
              ·simp only [Act.put, List.setIfInBounds_toArray, List.set_cons_zero, List.set_cons_succ, i64_w, i32_w]
               rfl
              refine pure_ (i := 25) (N := some 118) (v := ?_) (a' := ?_) #[true, true, true, true, true, true, true, true, true, true, true, true, true, true, true, true, true, true, true, true, true, true, true, true, false, true, false, false, false, false, false, false, false, false, false, false, false, false, false, false, false, false, false, false, false, false, false, false, false, false, false, false, false, false] rfl rfl (any_of HT_.out (by kernel_rfl)) (fun _ _ _ h => h) (Or.inl ⟨by rfl, ?_⟩) ?_ ?_
              rotate_left
              ·intro w'
               go_simp
               with_reducible rfl
              rotate_left
              ·simp only [Act.put, List.setIfInBounds_toArray, List.set_cons_zero, List.set_cons_succ, i64_w, i32_w]
               rfl
              refine pure_ (i := 29) (N := some 122) (v := ?_) (a' := ?_) #[true, true, true, true, true, true, true, true, true, true, true, true, true, true, true, true, true, true, true, true, true, true, true, true, false, true, false, false, false, true, false, false, false, false, false, false, false, false, false, false, false, false, false, false, false, false, false, false, false, false, false, false, false, false] rfl rfl (any_of HT_.out (by kernel_rfl)) (fun _ _ _ h => h) (Or.inl ⟨by rfl, ?_⟩) ?_ ?_
              rotate_left
              ·intro w'
               go_simp
               with_reducible rfl
              rotate_left
              ·simp only [Act.put, List.setIfInBounds_toArray, List.set_cons_zero, List.set_cons_succ, i64_w, i32_w]
               rfl
              refine take_ (i := 24) (N := some 117) (v := ?_) (a' := ?_) #[true, true, true, true, true, true, true, true, true, true, true, true, true, true, true, true, true, true, true, true, true, true, true, true, true, true, false, false, false, true, false, false, false, false, false, false, false, false, false, false, false, false, false, false, false, false, false, false, false, false, false, false, false, false] rfl rfl (take_ofW HT_.out HW_.out (by kernel_rfl)) (fun _ _ _ h => h) (Or.inl ⟨by rfl, ?_⟩) hHeld ?_ ?_
              rotate_left
              ·rintro w' ⟨s0, s1, s2, s3⟩
               go_simp
               with_reducible rfl
              rotate_left
              ·simp only [Act.put, List.setIfInBounds_toArray, List.set_cons_zero, List.set_cons_succ, i64_w, i32_w]
               rfl
              refine take_ (i := 28) (N := some 121) (v := ?_) (a' := ?_) #[true, true, true, true, true, true, true, true, true, true, true, true, true, true, true, true, true, true, true, true, true, true, true, true, true, true, false, false, true, true, false, false, false, false, false, false, false, false, false, false, false, false, false, false, false, false, false, false, false, false, false, false, false, false] rfl rfl (take_ofW HT_.out HW_.out (by kernel_rfl)) (fun _ _ _ h => h) (Or.inl ⟨by rfl, ?_⟩) hHeld ?_ ?_
              rotate_left
              ·rintro w' ⟨s0, s1, s2, s3⟩
               go_simp
               with_reducible rfl
              rotate_left
              ·simp only [Act.put, List.setIfInBounds_toArray, List.set_cons_zero, List.set_cons_succ, i64_w, i32_w]
               rfl
              refine one_ (i := 26) (N := some 119) #[true, true, true, true, true, true, true, true, true, true, true, true, true, true, true, true, true, true, true, true, true, true, true, true, true, true, true, false, true, true, false, false, false, false, false, false, false, false, false, false, false, false, false, false, false, false, false, false, false, false, false, false, false, false] rfl rfl (one_of HT_.out (by kernel_rfl)) (by decide) (fun K hK => ?_)
              refine goes_ Try.func11 (by kernel_rfl) rfl #[.agg #[.slice Ao31 t466.length co31], .int .i64 a2] (by rfl) rfl rfl ma_ ?_
              with_reducible refine (oplist_Open.calls _ _ t466 a2 t501 _ ?side1 ?side2 A76.out).mono ?_
              (case side1 => repeat (first | exact (Kd.R_reads' HO_470000.out).2.2 | (with_reducible refine Kd.C_alloc ?_ _) | (with_reducible refine Kd.C_drewN ?_ _) | (with_reducible refine Kd.C_drew ?_)))
              (case side2 => exact (Kd.R_reads' HO_470000.out).2.1)
              rintro e w108 ⟨v502, rfl, ho0, hb⟩
              refine ⟨_, rfl, ?_⟩
              have n0_ := am_ (Kd.R_elder' (ro_ HO_470000.out) (Kd.R_base ho0) hb)
              have n1_ := am_ (Kd.R_elder' (ro_ HO_475000.out) (Kd.R_base ho0) hb)
              have n2_ := am_ (Kd.R_below (ro_ HO_480000.out) hb)
              have n3_ := am_ (Kd.R_elder' (ro_ HO493.out) (Kd.R_base ho0) hb)
              have n4_ := am_ (Kd.R_below (ro_ HO496.out) hb)
              have n5_ := am_ (Kd.R_below (ro_ HO499.out) hb)
              have n6_ := am_ (Kd.R_lower (Kd.R_new' (Kd.R_new' (Kd.R_new' ho0 (Kd.R_lt (ro_ HO_470000.out))) (Kd.R_lt (ro_ HO_475000.out))) (Kd.R_lt (ro_ HO493.out))) (below_size (be_ HB.out)))
              have n7_ := am_ (bb_ BK463.out hb)
              have n8_ := am_ (bb_ BK464.out hb)
              have n9_ := am_ (bb_ BK469.out hb)
              have n10_ := am_ (bb_ BK474.out hb)
              have n11_ := am_ (bb_ BK479.out hb)
              have n12_ := am_ (below_step (be_ HB.out) hb)
              clear HO_470000
              clear HO_475000
              clear HO_480000
              clear HO493
              clear HO496
              clear HO499
              clear BK463
              clear BK464
              clear BK469
              clear BK474
              clear BK479
              clear HB
              have HO_470000 := n0_
              have HO_475000 := n1_
              have HO_480000 := n2_
              have HO493 := n3_
              have HO496 := n4_
              have HO499 := n5_
              have HO503 := n6_
              have BK463 := n7_
              have BK464 := n8_
              have BK469 := n9_
              have BK474 := n10_
              have BK479 := n11_
              have HB := n12_
              clear n0_ n1_ n2_ n3_ n4_ n5_ n6_ n7_ n8_ n9_ n10_ n11_ n12_
              (try clear hb)
              (try clear hb2)
              (try clear hk)
              (try clear hi)
              (try clear ho0)
              obtain ⟨Ao109, co109, eo109⟩ := Kd.R_slice HO503.out
              (first | subst eo109 | (injection eo109 with f1_ f2_ f3_; have f4_ := f1_.symm; have f5_ := f3_.symm; clear f1_ f2_ f3_; subst f4_; subst f5_))
              refine hK.out _ _ ⟨(blk_cell BK469.out 0).trans rfl, (blk_cell BK463.out 0).trans rfl, (blk_cell BK464.out 0).trans rfl, (blk_cell BK464.out 1).trans rfl⟩ (fun hHeld => ?_)
              clear hK K
              refine norm_ (a' := ?_) ?_ ?_
              rotate_left
              ·show Act.put _ (some 119) _ = _
               simp only [Act.put, List.setIfInBounds_toArray, List.set_cons_zero, List.set_cons_succ, i64_w, i32_w]
               rfl
              refine one_ (i := 27) (N := some 120) #[true, true, true, true, true, true, true, true, true, true, true, true, true, true, true, true, true, true, true, true, true, true, true, true, true, true, true, true, true, true, false, false, false, false, false, false, false, false, false, false, false, false, false, false, false, false, false, false, false, false, false, false, false, false] rfl rfl (one_of HT_.out (by kernel_rfl)) (by decide) (fun K hK => ?_)
              refine goes_ Try.func14 (by kernel_rfl) rfl #[.slice Ao109 t501.length co109] (by rfl) rfl rfl ma_ ?_
              with_reducible refine (heronrylaw15_theirs.calls kj25 _ _ t501 t504 _ ?side1 ?side2 A77.out).mono ?_
              (case side1 => repeat (first | exact (Kd.R_reads' HO503.out).2.2 | (with_reducible refine Kd.C_alloc ?_ _) | (with_reducible refine Kd.C_drewN ?_ _) | (with_reducible refine Kd.C_drew ?_)))
              (case side2 => exact (Kd.R_reads' HO503.out).2.1)
              rintro e w110 ⟨v505, rfl, ho0, hb⟩
              refine ⟨_, rfl, ?_⟩
              have n0_ := am_ (Kd.R_below (ro_ HO_470000.out) hb)
              have n1_ := am_ (Kd.R_below (ro_ HO_475000.out) hb)
              have n2_ := am_ (Kd.R_elder' (ro_ HO_480000.out) (Kd.R_base ho0) hb)
              have n3_ := am_ (Kd.R_below (ro_ HO493.out) hb)
              have n4_ := am_ (Kd.R_elder' (ro_ HO496.out) (Kd.R_base ho0) hb)
              have n5_ := am_ (Kd.R_elder' (ro_ HO499.out) (Kd.R_base ho0) hb)
              have n6_ := am_ (Kd.R_below (ro_ HO503.out) hb)
              have n7_ := am_ (Kd.R_lower (Kd.R_new' (Kd.R_new' (Kd.R_new' ho0 (Kd.R_lt (ro_ HO_480000.out))) (Kd.R_lt (ro_ HO496.out))) (Kd.R_lt (ro_ HO499.out))) (below_size (be_ HB.out)))
              have n8_ := am_ (bb_ BK463.out hb)
              have n9_ := am_ (bb_ BK464.out hb)
              have n10_ := am_ (bb_ BK469.out hb)
              have n11_ := am_ (bb_ BK474.out hb)
              have n12_ := am_ (bb_ BK479.out hb)
              have n13_ := am_ (below_step (be_ HB.out) hb)
              clear HO_470000
              clear HO_475000
              clear HO_480000
              clear HO493
              clear HO496
              clear HO499
              clear HO503
              clear BK463
              clear BK464
              clear BK469
              clear BK474
              clear BK479
              clear HB
              have HO_470000 := n0_
              have HO_475000 := n1_
              have HO_480000 := n2_
              have HO493 := n3_
              have HO496 := n4_
              have HO499 := n5_
              have HO503 := n6_
              have HO506 := n7_
              have BK463 := n8_
              have BK464 := n9_
              have BK469 := n10_
              have BK474 := n11_
              have BK479 := n12_
              have HB := n13_
              clear n0_ n1_ n2_ n3_ n4_ n5_ n6_ n7_ n8_ n9_ n10_ n11_ n12_ n13_
              (try clear hb)
              (try clear hb2)
              (try clear hk)
              (try clear hi)
              (try clear ho0)
              refine hK.out _ _ ⟨(blk_cell BK469.out 0).trans rfl, (blk_cell BK463.out 0).trans rfl, (blk_cell BK464.out 0).trans rfl, (blk_cell BK464.out 1).trans rfl⟩ (fun hHeld => ?_)
              clear hK K
              refine norm_ (a' := ?_) ?_ ?_
              rotate_left
              ·show Act.put _ (some 120) _ = _
               simp only [Act.put, List.setIfInBounds_toArray, List.set_cons_zero, List.set_cons_succ, i64_w, i32_w]
               rfl
              refine one_ (i := 30) (N := some 123) #[true, true, true, true, true, true, true, true, true, true, true, true, true, true, true, true, true, true, true, true, true, true, true, true, true, true, true, true, true, true, true, false, false, false, false, false, false, false, false, false, false, false, false, false, false, false, false, false, false, false, false, false, false, false] rfl rfl (one_of HT_.out (by kernel_rfl)) (by decide) (fun K hK => ?_)
              refine goes_ Try.func26 (by kernel_rfl) rfl #[.agg #[.slice A0_0 l0_0.length c0_0], .int .i64 a2] (by rfl) rfl rfl ma_ ?_
              with_reducible refine (heronryref15_Open.calls kj25 _ _ l0_0 a2 t507 _ ?side1 ?side2 A78.out).mono ?_
              (case side1 => repeat (first | exact (Kd.C_below HR0_0.out HB.out) | (with_reducible refine Kd.C_alloc ?_ _) | (with_reducible refine Kd.C_drewN ?_ _) | (with_reducible refine Kd.C_drew ?_)))
              (case side2 => exact HC0_0.out)
              rintro e w111 ⟨v508, rfl, ho0, hb⟩
              refine ⟨_, rfl, ?_⟩
              have n0_ := am_ (Kd.R_below (ro_ HO_470000.out) hb)
              have n1_ := am_ (Kd.R_below (ro_ HO_475000.out) hb)
              have n2_ := am_ (Kd.R_elder' (ro_ HO_480000.out) (Kd.R_base ho0) hb)
              have n3_ := am_ (Kd.R_below (ro_ HO493.out) hb)
              have n4_ := am_ (Kd.R_elder' (ro_ HO496.out) (Kd.R_base ho0) hb)
              have n5_ := am_ (Kd.R_elder' (ro_ HO499.out) (Kd.R_base ho0) hb)
              have n6_ := am_ (Kd.R_below (ro_ HO503.out) hb)
              have n7_ := am_ (Kd.R_elder' (ro_ HO506.out) (Kd.R_base ho0) hb)
              have n8_ := am_ (Kd.R_lower (Kd.R_new' (Kd.R_new' (Kd.R_new' (Kd.R_new' ho0 (Kd.R_lt (ro_ HO_480000.out))) (Kd.R_lt (ro_ HO496.out))) (Kd.R_lt (ro_ HO499.out))) (Kd.R_lt (ro_ HO506.out))) (below_size (be_ HB.out)))
              have n9_ := am_ (bb_ BK463.out hb)
              have n10_ := am_ (bb_ BK464.out hb)
              have n11_ := am_ (bb_ BK469.out hb)
              have n12_ := am_ (bb_ BK474.out hb)
              have n13_ := am_ (bb_ BK479.out hb)
              have n14_ := am_ (below_step (be_ HB.out) hb)
              clear HO_470000
              clear HO_475000
              clear HO_480000
              clear HO493
              clear HO496
              clear HO499
              clear HO503
              clear HO506
              clear BK463
              clear BK464
              clear BK469
              clear BK474
              clear BK479
              clear HB
              have HO_470000 := n0_
              have HO_475000 := n1_
              have HO_480000 := n2_
              have HO493 := n3_
              have HO496 := n4_
              have HO499 := n5_
              have HO503 := n6_
              have HO506 := n7_
              have HO509 := n8_
              have BK463 := n9_
              have BK464 := n10_
              have BK469 := n11_
              have BK474 := n12_
              have BK479 := n13_
              have HB := n14_
              clear n0_ n1_ n2_ n3_ n4_ n5_ n6_ n7_ n8_ n9_ n10_ n11_ n12_ n13_ n14_
              (try clear hb)
              (try clear hb2)
              (try clear hk)
              (try clear hi)
              (try clear ho0)
              obtain ⟨Ao112, co112, eo112⟩ := Kd.R_slice HO506.out
              (first | subst eo112 | (injection eo112 with f1_ f2_ f3_; have f4_ := f1_.symm; have f5_ := f3_.symm; clear f1_ f2_ f3_; subst f4_; subst f5_))
              obtain ⟨Ao113, co113, eo113⟩ := Kd.R_slice HO509.out
              (first | subst eo113 | (injection eo113 with f1_ f2_ f3_; have f4_ := f1_.symm; have f5_ := f3_.symm; clear f1_ f2_ f3_; subst f4_; subst f5_))
              refine hK.out _ _ ⟨(blk_cell BK469.out 0).trans rfl, (blk_cell BK463.out 0).trans rfl, (blk_cell BK464.out 0).trans rfl, (blk_cell BK464.out 1).trans rfl⟩ (fun hHeld => ?_)
              clear hK K
              refine norm_ (a' := ?_) ?_ ?_
              rotate_left
              ·show Act.put _ (some 123) _ = _
               simp only [Act.put, List.setIfInBounds_toArray, List.set_cons_zero, List.set_cons_succ, i64_w, i32_w]
               rfl
              refine one_ (i := 31) (N := some 124) #[true, true, true, true, true, true, true, true, true, true, true, true, true, true, true, true, true, true, true, true, true, true, true, true, true, true, true, true, true, true, true, true, false, false, false, false, false, false, false, false, false, false, false, false, false, false, false, false, false, false, false, false, false, false] rfl rfl (one_of HT_.out (by kernel_rfl)) (by decide) (fun K hK => ?_)
              refine goes_ Try.func13 (by kernel_rfl) rfl #[.slice Ao112 t504.length co112, .slice Ao113 t507.length co113] (by rfl) rfl rfl ma_ ?_
              with_reducible refine (heronryref15_Same.calls kj25 _ _ t504 _ _ t507 true _ ?side1 ?side2 ?side3 ?side4 A79.out).mono ?_
              (case side1 => repeat (first | exact (Kd.R_reads' HO506.out).2.2 | (with_reducible refine Kd.C_alloc ?_ _) | (with_reducible refine Kd.C_drewN ?_ _) | (with_reducible refine Kd.C_drew ?_)))
              (case side2 => exact (Kd.R_reads' HO506.out).2.1)
              (case side3 => repeat (first | exact (Kd.R_reads' HO509.out).2.2 | (with_reducible refine Kd.C_alloc ?_ _) | (with_reducible refine Kd.C_drewN ?_ _) | (with_reducible refine Kd.C_drew ?_)))
              (case side4 => exact (Kd.R_reads' HO509.out).2.1)
              rintro e w' ⟨rfl, ⟨nd, rfl⟩⟩
              refine ⟨_, rfl, ?_⟩
              refine hK.out _ _ ⟨(blk_cell BK469.out 0).trans rfl, (blk_cell BK463.out 0).trans rfl, (blk_cell BK464.out 0).trans rfl, (blk_cell BK464.out 1).trans rfl⟩ (fun hHeld => ?_)
              clear hK K
              refine norm_ (a' := ?_) ?_ ?_
              rotate_left
              ·show Act.put _ (some 124) _ = _
               simp only [Act.put, List.setIfInBounds_toArray, List.set_cons_zero, List.set_cons_succ, i64_w, i32_w]
               rfl
              refine pure_ (i := 32) (N := some 125) (v := ?_) (a' := ?_) #[true, true, true, true, true, true, true, true, true, true, true, true, true, true, true, true, true, true, true, true, true, true, true, true, true, true, true, true, true, true, true, true, true, false, false, false, false, false, false, false, false, false, false, false, false, false, false, false, false, false, false, false, false, false] rfl rfl (any_of HT_.out (by kernel_rfl)) (fun _ _ _ h => h) (Or.inl ⟨by rfl, ?_⟩) ?_ ?_
              rotate_left
              ·intro w'
               go_simp
               with_reducible rfl
              rotate_left
              ·simp only [Act.put, List.setIfInBounds_toArray, List.set_cons_zero, List.set_cons_succ, i64_w, i32_w]
               rfl
              refine pure_ (i := 33) (N := some 126) (v := ?_) (a' := ?_) #[true, true, true, true, true, true, true, true, true, true, true, true, true, true, true, true, true, true, true, true, true, true, true, true, true, true, true, true, true, true, true, true, true, true, false, false, false, false, false, false, false, false, false, false, false, false, false, false, false, false, false, false, false, false] rfl rfl (any_of HT_.out (by kernel_rfl)) (fun _ _ _ h => h) (Or.inl ⟨by rfl, ?_⟩) ?_ ?_
              rotate_left
              ·intro w'
               go_simp
               with_reducible rfl
              rotate_left
              ·simp only [Act.put, List.setIfInBounds_toArray, List.set_cons_zero, List.set_cons_succ, i64_w, i32_w]
               rfl
              refine pure_ (i := 37) (N := some 130) (v := ?_) (a' := ?_) #[true, true, true, true, true, true, true, true, true, true, true, true, true, true, true, true, true, true, true, true, true, true, true, true, true, true, true, true, true, true, true, true, true, true, false, false, false, true, false, false, false, false, false, false, false, false, false, false, false, false, false, false, false, false] rfl rfl (any_of HT_.out (by kernel_rfl)) (fun _ _ _ h => h) (Or.inl ⟨by rfl, ?_⟩) ?_ ?_
              rotate_left
              ·intro w'
               go_simp
               with_reducible rfl
              rotate_left
              ·simp only [Act.put, List.setIfInBounds_toArray, List.set_cons_zero, List.set_cons_succ, i64_w, i32_w]
               rfl
              refine pure_ (i := 41) (N := some 134) (v := ?_) (a' := ?_) #[true, true, true, true, true, true, true, true, true, true, true, true, true, true, true, true, true, true, true, true, true, true, true, true, true, true, true, true, true, true, true, true, true, true, false, false, false, true, false, false, false, true, false, false, false, false, false, false, false, false, false, false, false, false] rfl rfl (any_of HT_.out (by kernel_rfl)) (fun _ _ _ h => h) (Or.inl ⟨by rfl, ?_⟩) ?_ ?_
              rotate_left
              ·intro w'
               go_simp
               with_reducible rfl
              rotate_left
              ·simp only [Act.put, List.setIfInBounds_toArray, List.set_cons_zero, List.set_cons_succ, i64_w, i32_w]
               rfl
              refine take_ (i := 34) (N := some 127) (v := ?_) (a' := ?_) #[true, true, true, true, true, true, true, true, true, true, true, true, true, true, true, true, true, true, true, true, true, true, true, true, true, true, true, true, true, true, true, true, true, true, true, false, false, true, false, false, false, true, false, false, false, false, false, false, false, false, false, false, false, false] rfl rfl (take_ofW HT_.out HW_.out (by kernel_rfl)) (fun _ _ _ h => h) (Or.inl ⟨by rfl, ?_⟩) hHeld ?_ ?_
              rotate_left
              ·rintro w' ⟨s0, s1, s2, s3⟩
               go_simp
               with_reducible rfl
              rotate_left
              ·simp only [Act.put, List.setIfInBounds_toArray, List.set_cons_zero, List.set_cons_succ, i64_w, i32_w]
               rfl
              refine take_ (i := 35) (N := some 128) (v := ?_) (a' := ?_) #[true, true, true, true, true, true, true, true, true, true, true, true, true, true, true, true, true, true, true, true, true, true, true, true, true, true, true, true, true, true, true, true, true, true, true, true, false, true, false, false, false, true, false, false, false, false, false, false, false, false, false, false, false, false] rfl rfl (take_ofW HT_.out HW_.out (by kernel_rfl)) (fun _ _ _ h => h) (Or.inl ⟨by rfl, ?_⟩) hHeld ?_ ?_
              rotate_left
              ·rintro w' ⟨s0, s1, s2, s3⟩
               go_simp
               with_reducible rfl
              rotate_left
              ·simp only [Act.put, List.setIfInBounds_toArray, List.set_cons_zero, List.set_cons_succ, i64_w, i32_w]
               rfl
              refine take_ (i := 39) (N := some 132) (v := ?_) (a' := ?_) #[true, true, true, true, true, true, true, true, true, true, true, true, true, true, true, true, true, true, true, true, true, true, true, true, true, true, true, true, true, true, true, true, true, true, true, true, false, true, false, true, false, true, false, false, false, false, false, false, false, false, false, false, false, false] rfl rfl (take_ofW HT_.out HW_.out (by kernel_rfl)) (fun _ _ _ h => h) (Or.inl ⟨by rfl, ?_⟩) hHeld ?_ ?_
              rotate_left
              ·rintro w' ⟨s0, s1, s2, s3⟩
               go_simp
               with_reducible rfl
              rotate_left
              ·simp only [Act.put, List.setIfInBounds_toArray, List.set_cons_zero, List.set_cons_succ, i64_w, i32_w]
               rfl
              refine take_ (i := 40) (N := some 133) (v := ?_) (a' := ?_) #[true, true, true, true, true, true, true, true, true, true, true, true, true, true, true, true, true, true, true, true, true, true, true, true, true, true, true, true, true, true, true, true, true, true, true, true, false, true, false, true, true, true, false, false, false, false, false, false, false, false, false, false, false, false] rfl rfl (take_ofW HT_.out HW_.out (by kernel_rfl)) (fun _ _ _ h => h) (Or.inl ⟨by rfl, ?_⟩) hHeld ?_ ?_
              rotate_left
              ·rintro w' ⟨s0, s1, s2, s3⟩
               go_simp
               with_reducible rfl
              rotate_left
              ·simp only [Act.put, List.setIfInBounds_toArray, List.set_cons_zero, List.set_cons_succ, i64_w, i32_w]
               rfl
              refine one_ (i := 36) (N := some 129) #[true, true, true, true, true, true, true, true, true, true, true, true, true, true, true, true, true, true, true, true, true, true, true, true, true, true, true, true, true, true, true, true, true, true, true, true, true, true, false, true, true, true, false, false, false, false, false, false, false, false, false, false, false, false] rfl rfl (one_of HT_.out (by kernel_rfl)) (by decide) (fun K hK => ?_)
              refine goes_ Try.func28 (by kernel_rfl) rfl #[.agg #[.slice A1_0 l1_0.length c1_0, .int .i64 a1_1]] (by rfl) rfl rfl ma_ ?_
              with_reducible refine (heronrylaw15_grove.calls kj25 _ _ l1_0 a1_1 t511 t514 _ ?side1 ?side2 A81.out).mono ?_
              (case side1 => repeat (first | exact (Kd.C_below HR1_0.out (be_ HB.out)) | (with_reducible refine Kd.C_alloc ?_ _) | (with_reducible refine Kd.C_drewN ?_ _) | (with_reducible refine Kd.C_drew ?_)))
              (case side2 => exact HC1_0.out)
              rintro e w114 ⟨v512, rfl, ho0, hb⟩
              refine ⟨_, rfl, ?_⟩
              have n0_ := am_ (Kd.R_below (ro_ HO_470000.out) hb)
              have n1_ := am_ (Kd.R_below (ro_ HO_475000.out) hb)
              have n2_ := am_ (Kd.R_below (ro_ HO_480000.out) hb)
              have n3_ := am_ (Kd.R_below (ro_ HO493.out) hb)
              have n4_ := am_ (Kd.R_below (ro_ HO496.out) hb)
              have n5_ := am_ (Kd.R_below (ro_ HO499.out) hb)
              have n6_ := am_ (Kd.R_below (ro_ HO503.out) hb)
              have n7_ := am_ (Kd.R_below (ro_ HO506.out) hb)
              have n8_ := am_ (Kd.R_below (ro_ HO509.out) hb)
              have n9_ := am_ (Kd.R_lower ho0 (below_size (be_ HB.out)))
              have n10_ := am_ (bb_ BK463.out hb)
              have n11_ := am_ (bb_ BK464.out hb)
              have n12_ := am_ (bb_ BK469.out hb)
              have n13_ := am_ (bb_ BK474.out hb)
              have n14_ := am_ (bb_ BK479.out hb)
              have n15_ := am_ (below_step (be_ HB.out) hb)
              clear HO_470000
              clear HO_475000
              clear HO_480000
              clear HO493
              clear HO496
              clear HO499
              clear HO503
              clear HO506
              clear HO509
              clear BK463
              clear BK464
              clear BK469
              clear BK474
              clear BK479
              clear HB
              have HO_470000 := n0_
              have HO_475000 := n1_
              have HO_480000 := n2_
              have HO493 := n3_
              have HO496 := n4_
              have HO499 := n5_
              have HO503 := n6_
              have HO506 := n7_
              have HO509 := n8_
              have HO513 := n9_
              have BK463 := n10_
              have BK464 := n11_
              have BK469 := n12_
              have BK474 := n13_
              have BK479 := n14_
              have HB := n15_
              clear n0_ n1_ n2_ n3_ n4_ n5_ n6_ n7_ n8_ n9_ n10_ n11_ n12_ n13_ n14_ n15_
              (try clear hb)
              (try clear hb2)
              (try clear hk)
              (try clear hi)
              (try clear ho0)
              obtain ⟨Ao115, co115, eo115⟩ := Kd.R_slice HO513.out
              (first | subst eo115 | (injection eo115 with f1_ f2_ f3_; have f4_ := f1_.symm; have f5_ := f3_.symm; clear f1_ f2_ f3_; subst f4_; subst f5_))
              refine hK.out _ _ ⟨(blk_cell BK469.out 0).trans rfl, (blk_cell BK463.out 0).trans rfl, (blk_cell BK464.out 0).trans rfl, (blk_cell BK464.out 1).trans rfl⟩ (fun hHeld => ?_)
              clear hK K
              refine norm_ (a' := ?_) ?_ ?_
              rotate_left
              ·show Act.put _ (some 129) _ = _
               simp only [Act.put, List.setIfInBounds_toArray, List.set_cons_zero, List.set_cons_succ, i64_w, i32_w]
               rfl
              refine one_ (i := 38) (N := some 131) #[true, true, true, true, true, true, true, true, true, true, true, true, true, true, true, true, true, true, true, true, true, true, true, true, true, true, true, true, true, true, true, true, true, true, true, true, true, true, true, true, true, true, false, false, false, false, false, false, false, false, false, false, false, false] rfl rfl (one_of HT_.out (by kernel_rfl)) (by decide) (fun K hK => ?_)
              refine goes_ Try.func19 (by kernel_rfl) rfl #[.agg #[.slice Ao31 t466.length co31], .agg #[.slice Ao115 t511.length co115, .int .i64 t514], .int .i64 a2] (by rfl) rfl rfl ma_ ?_
              with_reducible refine (oplist_Ops.calls _ _ t466 _ _ t511 t514 a2 t515 _ ?side1 ?side2 ?side3 ?side4 A82.out).mono ?_
              (case side1 => repeat (first | exact (Kd.R_reads' HO_470000.out).2.2 | (with_reducible refine Kd.C_alloc ?_ _) | (with_reducible refine Kd.C_drewN ?_ _) | (with_reducible refine Kd.C_drew ?_)))
              (case side2 => exact (Kd.R_reads' HO_470000.out).2.1)
              (case side3 => repeat (first | exact (Kd.R_reads' HO513.out).2.2 | (with_reducible refine Kd.C_alloc ?_ _) | (with_reducible refine Kd.C_drewN ?_ _) | (with_reducible refine Kd.C_drew ?_)))
              (case side4 => exact (Kd.R_reads' HO513.out).2.1)
              rintro e w116 ⟨v516, rfl, ho0, hb⟩
              refine ⟨_, rfl, ?_⟩
              have n0_ := am_ (Kd.R_below (ro_ HO_470000.out) hb)
              have n1_ := am_ (Kd.R_below (ro_ HO_475000.out) hb)
              have n2_ := am_ (Kd.R_below (ro_ HO_480000.out) hb)
              have n3_ := am_ (Kd.R_below (ro_ HO493.out) hb)
              have n4_ := am_ (Kd.R_below (ro_ HO496.out) hb)
              have n5_ := am_ (Kd.R_below (ro_ HO499.out) hb)
              have n6_ := am_ (Kd.R_below (ro_ HO503.out) hb)
              have n7_ := am_ (Kd.R_below (ro_ HO506.out) hb)
              have n8_ := am_ (Kd.R_below (ro_ HO509.out) hb)
              have n9_ := am_ (Kd.R_below (ro_ HO513.out) hb)
              have n10_ := am_ (Kd.R_lower ho0 (below_size (be_ HB.out)))
              have n11_ := am_ (bb_ BK463.out hb)
              have n12_ := am_ (bb_ BK464.out hb)
              have n13_ := am_ (bb_ BK469.out hb)
              have n14_ := am_ (bb_ BK474.out hb)
              have n15_ := am_ (bb_ BK479.out hb)
              have n16_ := am_ (below_step (be_ HB.out) hb)
              clear HO_470000
              clear HO_475000
              clear HO_480000
              clear HO493
              clear HO496
              clear HO499
              clear HO503
              clear HO506
              clear HO509
              clear HO513
              clear BK463
              clear BK464
              clear BK469
              clear BK474
              clear BK479
              clear HB
              have HO_470000 := n0_
              have HO_475000 := n1_
              have HO_480000 := n2_
              have HO493 := n3_
              have HO496 := n4_
              have HO499 := n5_
              have HO503 := n6_
              have HO506 := n7_
              have HO509 := n8_
              have HO513 := n9_
              have HO517 := n10_
              have BK463 := n11_
              have BK464 := n12_
              have BK469 := n13_
              have BK474 := n14_
              have BK479 := n15_
              have HB := n16_
              clear n0_ n1_ n2_ n3_ n4_ n5_ n6_ n7_ n8_ n9_ n10_ n11_ n12_ n13_ n14_ n15_ n16_
              (try clear hb)
              (try clear hb2)
              (try clear hk)
              (try clear hi)
              (try clear ho0)
              refine hK.out _ _ ⟨(blk_cell BK469.out 0).trans rfl, (blk_cell BK463.out 0).trans rfl, (blk_cell BK464.out 0).trans rfl, (blk_cell BK464.out 1).trans rfl⟩ (fun hHeld => ?_)
              clear hK K
              refine norm_ (a' := ?_) ?_ ?_
              rotate_left
              ·show Act.put _ (some 131) _ = _
               simp only [Act.put, List.setIfInBounds_toArray, List.set_cons_zero, List.set_cons_succ, i64_w, i32_w]
               rfl
              refine one_ (i := 42) (N := some 135) #[true, true, true, true, true, true, true, true, true, true, true, true, true, true, true, true, true, true, true, true, true, true, true, true, true, true, true, true, true, true, true, true, true, true, true, true, true, true, true, true, true, true, true, false, false, false, false, false, false, false, false, false, false, false] rfl rfl (one_of HT_.out (by kernel_rfl)) (by decide) (fun K hK => ?_)
              refine goes_ Try.func29 (by kernel_rfl) rfl #[.agg #[.slice A0_0 l0_0.length c0_0], .agg #[.slice A1_0 l1_0.length c1_0, .int .i64 a1_1], .int .i64 a2] (by rfl) rfl rfl ma_ ?_
              with_reducible refine (heronryref15_Ops.calls kj25 _ _ l0_0 _ _ l1_0 a1_1 a2 t518 _ ?side1 ?side2 ?side3 ?side4 A83.out).mono ?_
              (case side1 => repeat (first | exact (Kd.C_below HR0_0.out HB.out) | (with_reducible refine Kd.C_alloc ?_ _) | (with_reducible refine Kd.C_drewN ?_ _) | (with_reducible refine Kd.C_drew ?_)))
              (case side2 => exact HC0_0.out)
              (case side3 => repeat (first | exact (Kd.C_below HR1_0.out HB.out) | (with_reducible refine Kd.C_alloc ?_ _) | (with_reducible refine Kd.C_drewN ?_ _) | (with_reducible refine Kd.C_drew ?_)))
              (case side4 => exact HC1_0.out)
              rintro e w117 ⟨v519, rfl, ho0, hb⟩
              refine ⟨_, rfl, ?_⟩
              have n0_ := am_ (Kd.R_below (ro_ HO_470000.out) hb)
              have n1_ := am_ (Kd.R_below (ro_ HO_475000.out) hb)
              have n2_ := am_ (Kd.R_below (ro_ HO_480000.out) hb)
              have n3_ := am_ (Kd.R_below (ro_ HO493.out) hb)
              have n4_ := am_ (Kd.R_below (ro_ HO496.out) hb)
              have n5_ := am_ (Kd.R_below (ro_ HO499.out) hb)
              have n6_ := am_ (Kd.R_below (ro_ HO503.out) hb)
              have n7_ := am_ (Kd.R_below (ro_ HO506.out) hb)
              have n8_ := am_ (Kd.R_below (ro_ HO509.out) hb)
              have n9_ := am_ (Kd.R_below (ro_ HO513.out) hb)
              have n10_ := am_ (Kd.R_elder' (ro_ HO517.out) (Kd.R_base ho0) hb)
              have n11_ := am_ (Kd.R_lower (Kd.R_new' ho0 (Kd.R_lt (ro_ HO517.out))) (below_size (be_ HB.out)))
              have n12_ := am_ (bb_ BK463.out hb)
              have n13_ := am_ (bb_ BK464.out hb)
              have n14_ := am_ (bb_ BK469.out hb)
              have n15_ := am_ (bb_ BK474.out hb)
              have n16_ := am_ (bb_ BK479.out hb)
              have n17_ := am_ (below_step (be_ HB.out) hb)
              clear HO_470000
              clear HO_475000
              clear HO_480000
              clear HO493
              clear HO496
              clear HO499
              clear HO503
              clear HO506
              clear HO509
              clear HO513
              clear HO517
              clear BK463
              clear BK464
              clear BK469
              clear BK474
              clear BK479
              clear HB
              have HO_470000 := n0_
              have HO_475000 := n1_
              have HO_480000 := n2_
              have HO493 := n3_
              have HO496 := n4_
              have HO499 := n5_
              have HO503 := n6_
              have HO506 := n7_
              have HO509 := n8_
              have HO513 := n9_
              have HO517 := n10_
              have HO520 := n11_
              have BK463 := n12_
              have BK464 := n13_
              have BK469 := n14_
              have BK474 := n15_
              have BK479 := n16_
              have HB := n17_
              clear n0_ n1_ n2_ n3_ n4_ n5_ n6_ n7_ n8_ n9_ n10_ n11_ n12_ n13_ n14_ n15_ n16_ n17_
              (try clear hb)
              (try clear hb2)
              (try clear hk)
              (try clear hi)
              (try clear ho0)
              obtain ⟨Ao118, co118, eo118⟩ := Kd.R_slice HO517.out
              (first | subst eo118 | (injection eo118 with f1_ f2_ f3_; have f4_ := f1_.symm; have f5_ := f3_.symm; clear f1_ f2_ f3_; subst f4_; subst f5_))
              obtain ⟨Ao119, co119, eo119⟩ := Kd.R_slice HO520.out
              (first | subst eo119 | (injection eo119 with f1_ f2_ f3_; have f4_ := f1_.symm; have f5_ := f3_.symm; clear f1_ f2_ f3_; subst f4_; subst f5_))
              refine hK.out _ _ ⟨(blk_cell BK469.out 0).trans rfl, (blk_cell BK463.out 0).trans rfl, (blk_cell BK464.out 0).trans rfl, (blk_cell BK464.out 1).trans rfl⟩ (fun hHeld => ?_)
              clear hK K
              refine norm_ (a' := ?_) ?_ ?_
              rotate_left
              ·show Act.put _ (some 135) _ = _
               simp only [Act.put, List.setIfInBounds_toArray, List.set_cons_zero, List.set_cons_succ, i64_w, i32_w]
               rfl
              refine one_ (i := 43) (N := some 136) #[true, true, true, true, true, true, true, true, true, true, true, true, true, true, true, true, true, true, true, true, true, true, true, true, true, true, true, true, true, true, true, true, true, true, true, true, true, true, true, true, true, true, true, true, false, false, false, false, false, false, false, false, false, false] rfl rfl (one_of HT_.out (by kernel_rfl)) (by decide) (fun K hK => ?_)
              refine goes_ Try.func27 (by kernel_rfl) rfl #[.slice Ao118 t515.length co118, .slice Ao119 t518.length co119] (by rfl) rfl rfl ma_ ?_
              with_reducible refine (heronryref15_SameOps.calls kj25 _ _ t515 _ _ t518 true _ ?side1 ?side2 ?side3 ?side4 A84.out).mono ?_
              (case side1 => repeat (first | exact (Kd.R_reads' HO517.out).2.2 | (with_reducible refine Kd.C_alloc ?_ _) | (with_reducible refine Kd.C_drewN ?_ _) | (with_reducible refine Kd.C_drew ?_)))
              (case side2 => exact (Kd.R_reads' HO517.out).2.1)
              (case side3 => repeat (first | exact (Kd.R_reads' HO520.out).2.2 | (with_reducible refine Kd.C_alloc ?_ _) | (with_reducible refine Kd.C_drewN ?_ _) | (with_reducible refine Kd.C_drew ?_)))
              (case side4 => exact (Kd.R_reads' HO520.out).2.1)
              rintro e w' ⟨rfl, ⟨nd, rfl⟩⟩
              refine ⟨_, rfl, ?_⟩
              refine hK.out _ _ ⟨(blk_cell BK469.out 0).trans rfl, (blk_cell BK463.out 0).trans rfl, (blk_cell BK464.out 0).trans rfl, (blk_cell BK464.out 1).trans rfl⟩ (fun hHeld => ?_)
              clear hK K
              refine norm_ (a' := ?_) ?_ ?_
              rotate_left
              ·show Act.put _ (some 136) _ = _
               simp only [Act.put, List.setIfInBounds_toArray, List.set_cons_zero, List.set_cons_succ, i64_w, i32_w]
               rfl
              refine pure_ (i := 44) (N := some 137) (v := ?_) (a' := ?_) #[true, true, true, true, true, true, true, true, true, true, true, true, true, true, true, true, true, true, true, true, true, true, true, true, true, true, true, true, true, true, true, true, true, true, true, true, true, true, true, true, true, true, true, true, true, false, false, false, false, false, false, false, false, false] rfl rfl (any_of HT_.out (by kernel_rfl)) (fun _ _ _ h => h) (Or.inl ⟨by rfl, ?_⟩) ?_ ?_
              rotate_left
              ·intro w'
               go_simp
               with_reducible rfl
              rotate_left
              ·simp only [Act.put, List.setIfInBounds_toArray, List.set_cons_zero, List.set_cons_succ, i64_w, i32_w]
               rfl
              refine pure_ (i := 45) (N := some 138) (v := ?_) (a' := ?_) #[true, true, true, true, true, true, true, true, true, true, true, true, true, true, true, true, true, true, true, true, true, true, true, true, true, true, true, true, true, true, true, true, true, true, true, true, true, true, true, true, true, true, true, true, true, true, false, false, false, false, false, false, false, false] rfl rfl (any_of HT_.out (by kernel_rfl)) (fun _ _ _ h => h) (Or.inl ⟨by rfl, ?_⟩) ?_ ?_
              rotate_left
              ·intro w'
               go_simp
               with_reducible rfl
              rotate_left
              ·simp only [Act.put, List.setIfInBounds_toArray, List.set_cons_zero, List.set_cons_succ, i64_w, i32_w]
               rfl
              refine pure_ (i := 46) (N := some 139) (v := ?_) (a' := ?_) #[true, true, true, true, true, true, true, true, true, true, true, true, true, true, true, true, true, true, true, true, true, true, true, true, true, true, true, true, true, true, true, true, true, true, true, true, true, true, true, true, true, true, true, true, true, true, true, false, false, false, false, false, false, false] rfl rfl (any_of HT_.out (by kernel_rfl)) (fun _ _ _ h => h) (Or.inl ⟨by rfl, ?_⟩) ?_ ?_
              rotate_left
              ·intro w'
               go_simp
               with_reducible rfl
              rotate_left
              ·simp only [Act.put, List.setIfInBounds_toArray, List.set_cons_zero, List.set_cons_succ, i64_w, i32_w]
               rfl
              refine pure_ (i := 49) (N := some 142) (v := ?_) (a' := ?_) #[true, true, true, true, true, true, true, true, true, true, true, true, true, true, true, true, true, true, true, true, true, true, true, true, true, true, true, true, true, true, true, true, true, true, true, true, true, true, true, true, true, true, true, true, true, true, true, false, false, true, false, false, false, false] rfl rfl (any_of HT_.out (by kernel_rfl)) (fun _ _ _ h => h) (Or.inl ⟨by rfl, ?_⟩) ?_ ?_
              rotate_left
              ·intro w'
               go_simp
               with_reducible rfl
              rotate_left
              ·simp only [Act.put, List.setIfInBounds_toArray, List.set_cons_zero, List.set_cons_succ, i64_w, i32_w]
               rfl
              refine take_ (i := 47) (N := some 140) (v := ?_) (a' := ?_) #[true, true, true, true, true, true, true, true, true, true, true, true, true, true, true, true, true, true, true, true, true, true, true, true, true, true, true, true, true, true, true, true, true, true, true, true, true, true, true, true, true, true, true, true, true, true, true, true, false, true, false, false, false, false] rfl rfl (take_ofW HT_.out HW_.out (by kernel_rfl)) (fun _ _ _ h => h) (Or.inl ⟨by rfl, ?_⟩) hHeld ?_ ?_
              rotate_left
              ·rintro w' ⟨s0, s1, s2, s3⟩
               go_simp
               with_reducible rfl
              rotate_left
              ·simp only [Act.put, List.setIfInBounds_toArray, List.set_cons_zero, List.set_cons_succ, i64_w, i32_w]
               rfl
              refine take_ (i := 50) (N := some 143) (v := ?_) (a' := ?_) #[true, true, true, true, true, true, true, true, true, true, true, true, true, true, true, true, true, true, true, true, true, true, true, true, true, true, true, true, true, true, true, true, true, true, true, true, true, true, true, true, true, true, true, true, true, true, true, true, false, true, true, false, false, false] rfl rfl (take_ofW HT_.out HW_.out (by kernel_rfl)) (fun _ _ _ h => h) (Or.inl ⟨by rfl, ?_⟩) hHeld ?_ ?_
              rotate_left
              ·rintro w' ⟨s0, s1, s2, s3⟩
               go_simp
               with_reducible rfl
              rotate_left
              ·simp only [Act.put, List.setIfInBounds_toArray, List.set_cons_zero, List.set_cons_succ, i64_w, i32_w]
               rfl
              refine one_ (i := 48) (N := some 141) #[true, true, true, true, true, true, true, true, true, true, true, true, true, true, true, true, true, true, true, true, true, true, true, true, true, true, true, true, true, true, true, true, true, true, true, true, true, true, true, true, true, true, true, true, true, true, true, true, true, true, true, false, false, false] rfl rfl (one_of HT_.out (by kernel_rfl)) (by decide) (fun K hK => ?_)
              refine goes_ Try.func14 (by kernel_rfl) rfl #[.slice Ao31 t466.length co31] (by rfl) rfl rfl ma_ ?_
              with_reducible refine (heronrylaw15_theirs.calls kj25 _ _ t466 t522 _ ?side1 ?side2 A86.out).mono ?_
              (case side1 => repeat (first | exact (Kd.R_reads' HO_470000.out).2.2 | (with_reducible refine Kd.C_alloc ?_ _) | (with_reducible refine Kd.C_drewN ?_ _) | (with_reducible refine Kd.C_drew ?_)))
              (case side2 => exact (Kd.R_reads' HO_470000.out).2.1)
              rintro e w120 ⟨v523, rfl, ho0, hb⟩
              refine ⟨_, rfl, ?_⟩
              have n0_ := am_ (Kd.R_below (ro_ HO_470000.out) hb)
              have n1_ := am_ (Kd.R_below (ro_ HO_475000.out) hb)
              have n2_ := am_ (Kd.R_elder' (ro_ HO_480000.out) (Kd.R_base ho0) hb)
              have n3_ := am_ (Kd.R_below (ro_ HO493.out) hb)
              have n4_ := am_ (Kd.R_elder' (ro_ HO496.out) (Kd.R_base ho0) hb)
              have n5_ := am_ (Kd.R_elder' (ro_ HO499.out) (Kd.R_base ho0) hb)
              have n6_ := am_ (Kd.R_below (ro_ HO503.out) hb)
              have n7_ := am_ (Kd.R_elder' (ro_ HO506.out) (Kd.R_base ho0) hb)
              have n8_ := am_ (Kd.R_elder' (ro_ HO509.out) (Kd.R_base ho0) hb)
              have n9_ := am_ (Kd.R_below (ro_ HO513.out) hb)
              have n10_ := am_ (Kd.R_below (ro_ HO517.out) hb)
              have n11_ := am_ (Kd.R_below (ro_ HO520.out) hb)
              have n12_ := am_ (Kd.R_lower (Kd.R_new' (Kd.R_new' (Kd.R_new' (Kd.R_new' (Kd.R_new' ho0 (Kd.R_lt (ro_ HO_480000.out))) (Kd.R_lt (ro_ HO496.out))) (Kd.R_lt (ro_ HO499.out))) (Kd.R_lt (ro_ HO506.out))) (Kd.R_lt (ro_ HO509.out))) (below_size (be_ HB.out)))
              have n13_ := am_ (bb_ BK463.out hb)
              have n14_ := am_ (bb_ BK464.out hb)
              have n15_ := am_ (bb_ BK469.out hb)
              have n16_ := am_ (bb_ BK474.out hb)
              have n17_ := am_ (bb_ BK479.out hb)
              have n18_ := am_ (below_step (be_ HB.out) hb)
              clear HO_470000
              clear HO_475000
              clear HO_480000
              clear HO493
              clear HO496
              clear HO499
              clear HO503
              clear HO506
              clear HO509
              clear HO513
              clear HO517
              clear HO520
              clear BK463
              clear BK464
              clear BK469
              clear BK474
              clear BK479
              clear HB
              have HO_470000 := n0_
              have HO_475000 := n1_
              have HO_480000 := n2_
              have HO493 := n3_
              have HO496 := n4_
              have HO499 := n5_
              have HO503 := n6_
              have HO506 := n7_
              have HO509 := n8_
              have HO513 := n9_
              have HO517 := n10_
              have HO520 := n11_
              have HO524 := n12_
              have BK463 := n13_
              have BK464 := n14_
              have BK469 := n15_
              have BK474 := n16_
              have BK479 := n17_
              have HB := n18_
              clear n0_ n1_ n2_ n3_ n4_ n5_ n6_ n7_ n8_ n9_ n10_ n11_ n12_ n13_ n14_ n15_ n16_ n17_ n18_
              (try clear hb)
              (try clear hb2)
              (try clear hk)
              (try clear hi)
              (try clear ho0)
              obtain ⟨Ao121, co121, eo121⟩ := Kd.R_slice HO524.out
              (first | subst eo121 | (injection eo121 with f1_ f2_ f3_; have f4_ := f1_.symm; have f5_ := f3_.symm; clear f1_ f2_ f3_; subst f4_; subst f5_))
              refine hK.out _ _ ⟨(blk_cell BK469.out 0).trans rfl, (blk_cell BK463.out 0).trans rfl, (blk_cell BK464.out 0).trans rfl, (blk_cell BK464.out 1).trans rfl⟩ (fun hHeld => ?_)
              clear hK K
              refine norm_ (a' := ?_) ?_ ?_
              rotate_left
              ·show Act.put _ (some 141) _ = _
               simp only [Act.put, List.setIfInBounds_toArray, List.set_cons_zero, List.set_cons_succ, i64_w, i32_w]
               rfl
              refine one_ (i := 51) (N := some 144) #[true, true, true, true, true, true, true, true, true, true, true, true, true, true, true, true, true, true, true, true, true, true, true, true, true, true, true, true, true, true, true, true, true, true, true, true, true, true, true, true, true, true, true, true, true, true, true, true, true, true, true, true, false, false] rfl rfl (one_of HT_.out (by kernel_rfl)) (by decide) (fun K hK => ?_)
              refine goes_ Try.func13 (by kernel_rfl) rfl #[.slice Ao121 t522.length co121, .slice A0_0 l0_0.length c0_0] (by rfl) rfl rfl ma_ ?_
              with_reducible refine (heronryref15_Same.calls kj25 _ _ t522 _ _ l0_0 t525 _ ?side1 ?side2 ?side3 ?side4 A87.out).mono ?_
              (case side1 => repeat (first | exact (Kd.R_reads' HO524.out).2.2 | (with_reducible refine Kd.C_alloc ?_ _) | (with_reducible refine Kd.C_drewN ?_ _) | (with_reducible refine Kd.C_drew ?_)))
              (case side2 => exact (Kd.R_reads' HO524.out).2.1)
              (case side3 => repeat (first | exact (Kd.C_below HR0_0.out HB.out) | (with_reducible refine Kd.C_alloc ?_ _) | (with_reducible refine Kd.C_drewN ?_ _) | (with_reducible refine Kd.C_drew ?_)))
              (case side4 => exact HC0_0.out)
              rintro e w' ⟨rfl, ⟨nd, rfl⟩⟩
              refine ⟨_, rfl, ?_⟩
              refine hK.out _ _ ⟨(blk_cell BK469.out 0).trans rfl, (blk_cell BK463.out 0).trans rfl, (blk_cell BK464.out 0).trans rfl, (blk_cell BK464.out 1).trans rfl⟩ (fun hHeld => ?_)
              clear hK K
              refine norm_ (a' := ?_) ?_ ?_
              rotate_left
              ·show Act.put _ (some 144) _ = _
               simp only [Act.put, List.setIfInBounds_toArray, List.set_cons_zero, List.set_cons_succ, i64_w, i32_w]
               rfl
              refine pure_ (i := 52) (N := some 145) (v := ?_) (a' := ?_) #[true, true, true, true, true, true, true, true, true, true, true, true, true, true, true, true, true, true, true, true, true, true, true, true, true, true, true, true, true, true, true, true, true, true, true, true, true, true, true, true, true, true, true, true, true, true, true, true, true, true, true, true, true, false] rfl rfl (any_of HT_.out (by kernel_rfl)) (fun _ _ _ h => h) (Or.inl ⟨by rfl, ?_⟩) ?_ ?_
              rotate_left
              ·intro w'
               go_simp
               with_reducible rfl
              rotate_left
              ·simp only [Act.put, List.setIfInBounds_toArray, List.set_cons_zero, List.set_cons_succ, i64_w, i32_w]
               rfl
              refine pure_ (i := 53) (N := some 12) (v := ?_) (a' := ?_) #[true, true, true, true, true, true, true, true, true, true, true, true, true, true, true, true, true, true, true, true, true, true, true, true, true, true, true, true, true, true, true, true, true, true, true, true, true, true, true, true, true, true, true, true, true, true, true, true, true, true, true, true, true, true] rfl rfl (any_of HT_.out (by kernel_rfl)) (fun _ _ _ h => h) (Or.inl ⟨by rfl, ?_⟩) ?_ ?_
              rotate_left
              ·intro w'
               go_simp
               with_reducible rfl
              rotate_left
              ·simp only [Act.put, List.setIfInBounds_toArray, List.set_cons_zero, List.set_cons_succ, i64_w, i32_w]
               rfl
              refine done_ (done_of HT_.out (by kernel_rfl)) ?_
              try go_wp2
              go_ret
              exact ⟨by first | rfl | (simp [errW_none, errW_some] <;> rfl) | (simp [*, errW_none, errW_some] <;> rfl), be_ HB.out⟩
             ·replace c85 := Bool.eq_false_iff.mpr c85
              subst c85
              have H1 : (none) = some r := by rw [if_neg (show ¬ (false = true) by decide)] at H; exact H
              clear H
              have H := H1
              clear H1
              exact absurd H (by simp)
            ·replace c80 := Bool.eq_false_iff.mpr c80
             subst c80
             have H1 : (none) = some r := by rw [if_neg (show ¬ (false = true) by decide)] at H; exact H
             clear H
             have H := H1
             clear H1
             exact absurd H (by simp)
           ·replace c75 := Bool.eq_false_iff.mpr c75
            subst c75
            have H1 : (none) = some r := by rw [if_neg (show ¬ (false = true) by decide)] at H; exact H
            clear H
            have H := H1
            clear H1
            exact absurd H (by simp)
          ·rw [if_neg c70] at H
           exact absurd H (by simp)
         ·rw [if_neg c69] at H
          exact absurd H (by simp)
        ·replace c68 := Bool.eq_false_iff.mpr c68
         subst c68
         have H1 : (none) = some r := by rw [if_neg (show ¬ (false = true) by decide)] at H; exact H
         clear H
         have H := H1
         clear H1
         exact absurd H (by simp)
       ·replace c65 := Bool.eq_false_iff.mpr c65
        subst c65
        have H1 : (some t465) = some r := by rw [if_neg (show ¬ (false = true) by decide)] at H; exact H
        clear H
        have H := H1
        clear H1
        obtain rfl := Option.some.inj H
        have hnb122 := NB463_464.out
        have hnc122 := NB464_463.out
        have hnb123 := NB463_469.out
        have hnc123 := NB469_463.out
        have hnb124 := NB463_474.out
        have hnc124 := NB474_463.out
        have hnb125 := NB463_479.out
        have hnc125 := NB479_463.out
        have hcz126_0 : wc.cell? ⟨gb463, 0, none⟩ = some (.slice A0_0 l0_0.length c0_0) := (blk_cell BK463.out 0).trans rfl
        have hfz126_0 := blk_frozen BK463.out 0
        go_wp2_with (first | ((with_reducible refine gate_callee (f := 23) rfl ?_); refine goesL_ (some 78) rfl rfl Try.func23 (by kernel_rfl) rfl #[.agg #[.slice A0_0 l0_0.length c0_0]] rfl ma_ ?_; (with_reducible refine (heronryref15_Sane.calls kj25 _ _ l0_0 false _ ?side1 ?side2 A64.out).mono ?_); (case side1 => repeat (first | exact (Kd.C_below HR0_0.out HB.out) | (with_reducible refine Kd.C_alloc ?_ _) | (with_reducible refine Kd.C_drewN ?_ _) | (with_reducible refine Kd.C_drew ?_))); (case side2 => exact HC0_0.out); rintro e w127 ⟨rfl, hb⟩; refine ⟨_, rfl, ?_⟩; have n0_ := am_ (Kd.R_below (ro_ HO_470000.out) hb); have n1_ := am_ (Kd.R_below (ro_ HO_475000.out) hb); have n2_ := am_ (Kd.R_below (ro_ HO_480000.out) hb); have n3_ := am_ (bb_ BK463.out hb); have n4_ := am_ (bb_ BK464.out hb); have n5_ := am_ (bb_ BK469.out hb); have n6_ := am_ (bb_ BK474.out hb); have n7_ := am_ (bb_ BK479.out hb); have n8_ := am_ (below_step (be_ HB.out) hb); clear HO_470000; clear HO_475000; clear HO_480000; clear BK463; clear BK464; clear BK469; clear BK474; clear BK479; clear HB; have HO_470000 := n0_; have HO_475000 := n1_; have HO_480000 := n2_; have BK463 := n3_; have BK464 := n4_; have BK469 := n5_; have BK474 := n6_; have BK479 := n7_; have HB := n8_; clear n0_ n1_ n2_ n3_ n4_ n5_ n6_ n7_ n8_; (try clear hb); (try clear hb2); (try clear hk); (try clear hi)))
        go_ret
        exact ⟨by first | rfl | (simp [errW_none, errW_some] <;> rfl) | (simp [*, errW_none, errW_some] <;> rfl), be_ HB.out⟩

end Go.Proofs.Ytjpoepiidmoegaa.Q
