-- Cut to what one claim reaches, out of what the kit's print laid for this seat (wip/tools/trim.py).
import Derived.Test.YtjpoepiidmoegaaQ0
import Derived.Test.YtjpoepiidmoegaaQS
namespace Go.Proofs.Ytjpoepiidmoegaa.Q
open Go.RowKit Go.Proofs.YtjpoepiidmoegaaW.PrintWords Go.Proofs.YtjpoepiidmoegaaW.PrintLast Go.Proofs.YtjpoepiidmoegaaW.PrintMore
attribute [local go_sem] max2_int min2_int max_two min_two max_three min_three max_four min_four   -- for this text's walks alone
set_option linter.unusedVariables false
set_option linter.unusedSimpArgs false

def heronryref09_is.f (l0_0 : List (S107)) (a0_1 : Int) (a1 : Int) : Option (Bool) := if a1 ≥ 0 then (some (decide (a1 < (l0_0.length : Int)))) else (some false)
set_option maxHeartbeats 8000000 in
set_option maxRecDepth 100000 in
theorem heronryref09_is.calls (A0_0 : Option Addr) (c0_0 : Nat) (l0_0 : List (S107)) (a0_1 : Int) (a1 : Int) (r : Bool) (w : World) (hr0_0 : Kd.C k107 w A0_0 l0_0.length l0_0) (hc0_0 : l0_0.length ≤ c0_0) (h : heronryref09_is.f l0_0 a0_1 a1 = some r) :
  Calls Try.prog 64 #[.agg #[.slice A0_0 l0_0.length c0_0, .int .i64 a0_1], .int .i64 a1] w fun e w' => e = .returned (.bool r) ∧ Below w.heap.size w w' := by
 have hu61 := Try.underlying61
 have HR0_0 := am_ hr0_0
 have HC0_0 := am_ hc0_0
 clear hr0_0 hc0_0
 have HB := am_ (Below.refl w.heap.size w)
 have H : (if a1 ≥ 0 then (some (decide (a1 < (l0_0.length : Int)))) else (some false)) = some r := h
 clear h
 by_cases c3 : a1 ≥ 0
 ·rw [if_pos c3] at H
  have c3b0 : decide (0 ≤ a1) = true := decide_eq_true c3
  clear c3
  obtain rfl := Option.some.inj H
  go_enter Try.func64, Try.ntmps64
  go_wp2_with (first | ((with_reducible refine gate_dst (N := 2) rfl ?_); (try (refine gate_guard (by rfl) ?_; dsimp only)); refine box_event ?hg (N := 2) ?hd (cs := #[.slice A0_0 l0_0.length c0_0, .int .i64 a0_1]) (t := 61) ?hr ?_; (case hd => rfl); (case hg => rfl); (case hr => first | (go_simp; done) | (go_simp; rfl)); intro gb444 hg w4 hbox hb; have n0_ := am_ (below_step (be_ HB.out) hb); have n1_ := am_ (hbox); have n2_ := am_ ((by rw [hg]; exact (below_size (be_ HB.out)) : w.heap.size ≤ gb444)); have n3_ := am_ ((by rw [hg]; exact (below_size (be_ HB.out)) : w.heap.size ≤ gb444)); clear HB; have HB := n0_; have BK444 := n1_; have GW444 := n2_; have GE444 := n3_; clear n0_ n1_ n2_ n3_; clear hb hbox hg; have hcz5_0 : w4.cell? ⟨gb444, 0, none⟩ = some (.slice A0_0 l0_0.length c0_0) := (blk_cell BK444.out 0).trans rfl; have hcz5_1 : w4.cell? ⟨gb444, 1, none⟩ = some (.int .i64 a0_1) := (blk_cell BK444.out 1).trans rfl; have hfz5_0 := blk_frozen BK444.out 0; have hfz5_1 := blk_frozen BK444.out 1))
  go_ret
  exact ⟨by first | rfl | (simp [errW_none, errW_some] <;> rfl) | (simp [*, errW_none, errW_some] <;> rfl), be_ HB.out⟩
 ·rw [if_neg c3] at H
  have c3b0 : decide (0 ≤ a1) = false := decide_eq_false c3
  clear c3
  obtain rfl := Option.some.inj H
  go_enter Try.func64, Try.ntmps64
  go_wp2_with (first | ((with_reducible refine gate_dst (N := 2) rfl ?_); (try (refine gate_guard (by rfl) ?_; dsimp only)); refine box_event ?hg (N := 2) ?hd (cs := #[.slice A0_0 l0_0.length c0_0, .int .i64 a0_1]) (t := 61) ?hr ?_; (case hd => rfl); (case hg => rfl); (case hr => first | (go_simp; done) | (go_simp; rfl)); intro gb444 hg w6 hbox hb; have n0_ := am_ (below_step (be_ HB.out) hb); have n1_ := am_ (hbox); have n2_ := am_ ((by rw [hg]; exact (below_size (be_ HB.out)) : w.heap.size ≤ gb444)); have n3_ := am_ ((by rw [hg]; exact (below_size (be_ HB.out)) : w.heap.size ≤ gb444)); clear HB; have HB := n0_; have BK444 := n1_; have GW444 := n2_; have GE444 := n3_; clear n0_ n1_ n2_ n3_; clear hb hbox hg))
  go_ret
  exact ⟨by first | rfl | (simp [errW_none, errW_some] <;> rfl) | (simp [*, errW_none, errW_some] <;> rfl), be_ HB.out⟩

mutual
def heronryref09_Within.j0 : Nat → Int → Int → Bool → List (S107) → Int → Option (Bool)
 | 0, _, _, _, _, _ => none
 | k + 1, x1, x2, x17, x446000, x446001 => if x17 = true then (some false) else (heronryref09_Within.l0 k x1 x2 0 x446000 x446001)
def heronryref09_Within.l0 : Nat → Int → Int → Int → List (S107) → Int → Option (Bool)
 | 0, _, _, _, _, _ => none
 | k + 1, x1, x2, x7, x446000, x446001 => if x7 ≤ (x446000.length : Int) then ((heronryref09_is.f x446000 x446001 x1).bind fun t448 => (heronryref09_Within.j2 k x1 x2 x7 t448 x446000 x446001)) else (heronryref09_Within.j2 k x1 x2 x7 false x446000 x446001)
def heronryref09_Within.j2 : Nat → Int → Int → Int → Bool → List (S107) → Int → Option (Bool)
 | 0, _, _, _, _, _, _ => none
 | k + 1, x1, x2, x7, x27, x446000, x446001 => if x27 = true then (if x1 = x2 then (some true) else (if 0 ≤ x1 then (if x1 < (x446000.length : Int) then (heronryref09_Within.l0 k ((rd_T107 x446000 x1).f0) x2 (wrap64 (x7 + 1)) x446000 x446001) else (none)) else (none))) else (some false)
end
def heronryref09_Within.f (k : Nat) (l0_0 : List (S107)) (a0_1 : Int) (a1 : Int) (a2 : Int) : Option (Bool) := (heronryref09_is.f l0_0 a0_1 a1).bind fun t446 => (if t446 = true then ((heronryref09_is.f l0_0 a0_1 a2).bind fun t447 => (heronryref09_Within.j0 k a1 a2 (!t447) l0_0 a0_1)) else (heronryref09_Within.j0 k a1 a2 true l0_0 a0_1))
set_option maxHeartbeats 8000000 in
set_option maxRecDepth 100000 in
theorem heronryref09_Within.calls (k : Nat) (A0_0 : Option Addr) (c0_0 : Nat) (l0_0 : List (S107)) (a0_1 : Int) (a1 : Int) (a2 : Int) (r : Bool) (w : World) (hr0_0 : Kd.C k107 w A0_0 l0_0.length l0_0) (hc0_0 : l0_0.length ≤ c0_0) (h : heronryref09_Within.f k l0_0 a0_1 a1 a2 = some r) :
  Calls Try.prog 54 #[.agg #[.slice A0_0 l0_0.length c0_0, .int .i64 a0_1], .int .i64 a1, .int .i64 a2] w fun e w' => e = .returned (.bool r) ∧ Below w.heap.size w w' := by
 have hu61 := Try.underlying61
 have HR0_0 := am_ hr0_0
 have HC0_0 := am_ hc0_0
 clear hr0_0 hc0_0
 have HB := am_ (Below.refl w.heap.size w)
 have H : ((heronryref09_is.f l0_0 a0_1 a1).bind fun t446 => (if t446 = true then ((heronryref09_is.f l0_0 a0_1 a2).bind fun t447 => (heronryref09_Within.j0 k a1 a2 (!t447) l0_0 a0_1)) else (heronryref09_Within.j0 k a1 a2 true l0_0 a0_1))) = some r := h
 clear h
 have HC4 := am_ H
 clear H
 go_enter Try.func54, Try.ntmps54
 go_upto_region 1 with (first | ((with_reducible refine gate_dst (N := 3) rfl ?_); refine box_event ?hg (N := 3) ?hd (cs := #[.slice A0_0 l0_0.length c0_0, .int .i64 a0_1]) (t := 61) ?hr ?_; (case hd => rfl); (case hg => rfl); (case hr => first | (go_simp; done) | (go_simp; rfl)); intro gb445 hg w5 hbox hb; have n0_ := am_ (below_step (be_ HB.out) hb); have n1_ := am_ (hbox); have n2_ := am_ ((by rw [hg]; exact (below_size (be_ HB.out)) : w.heap.size ≤ gb445)); have n3_ := am_ ((by rw [hg]; exact (below_size (be_ HB.out)) : w.heap.size ≤ gb445)); clear HB; have HB := n0_; have BK445 := n1_; have GW445 := n2_; have GE445 := n3_; clear n0_ n1_ n2_ n3_; clear hb hbox hg))
 (try simp only [Act.put, List.setIfInBounds_toArray, List.set_cons_zero, List.set_cons_succ])
 go_cut [17] (fun v17 wc => ∃ (kq : Nat) (x17_3 : Bool), v17 = .bool x17_3 ∧ Aside0 (heronryref09_Within.j0 kq a1 a2 x17_3 l0_0 a0_1 = some r) ∧ Aside0 (kq ≤ k) ∧ Aside0 (wc.heap[gb445]? = some (.cells #[(.slice A0_0 l0_0.length c0_0), .int .i64 a0_1] 61 (0, 0))) ∧ Aside0 (Below w.heap.size w wc))
 case first =>
  have H := HC4.out
  clear HC4
  replace H := Option.bind_eq_some_iff.mp H
  obtain ⟨t446, A60, H⟩ := H
  replace H : (if t446 = true then ((heronryref09_is.f l0_0 a0_1 a2).bind fun t447 => (heronryref09_Within.j0 k a1 a2 (!t447) l0_0 a0_1)) else (heronryref09_Within.j0 k a1 a2 true l0_0 a0_1)) = some r := H
  have A6 := am_ A60
  clear A60
  by_cases c7 : t446 = true
  ·subst c7
   have H1 : ((heronryref09_is.f l0_0 a0_1 a2).bind fun t447 => (heronryref09_Within.j0 k a1 a2 (!t447) l0_0 a0_1)) = some r := by rw [if_pos rfl] at H; exact H
   clear H
   have H := H1
   clear H1
   replace H := Option.bind_eq_some_iff.mp H
   obtain ⟨t447, A80, H⟩ := H
   replace H : (heronryref09_Within.j0 k a1 a2 (!t447) l0_0 a0_1) = some r := H
   have A8 := am_ A80
   clear A80
   have H' := am_ H
   clear H
   have hcz9_0 : w5.cell? ⟨gb445, 0, none⟩ = some (.slice A0_0 l0_0.length c0_0) := (blk_cell BK445.out 0).trans rfl
   have hcz9_1 : w5.cell? ⟨gb445, 1, none⟩ = some (.int .i64 a0_1) := (blk_cell BK445.out 1).trans rfl
   have hfz9_0 := blk_frozen BK445.out 0
   have hfz9_1 := blk_frozen BK445.out 1
   go_wp2_with (first | ((with_reducible refine gate_callee (f := 64) rfl ?_); refine goesL_ (some 10) rfl rfl Try.func64 (by kernel_rfl) rfl #[.agg #[.slice A0_0 l0_0.length c0_0, .int .i64 a0_1], .int .i64 a1] rfl ma_ ?_; (with_reducible refine (heronryref09_is.calls _ _ l0_0 a0_1 a1 true _ ?side1 ?side2 A6.out).mono ?_); (case side1 => repeat (first | exact (Kd.C_below HR0_0.out HB.out) | (with_reducible refine Kd.C_alloc ?_ _) | (with_reducible refine Kd.C_drewN ?_ _) | (with_reducible refine Kd.C_drew ?_))); (case side2 => exact HC0_0.out); rintro e w10 ⟨rfl, hb⟩; refine ⟨_, rfl, ?_⟩; have n0_ := am_ (bb_ BK445.out hb); have n1_ := am_ (below_step (be_ HB.out) hb); clear BK445; clear HB; have BK445 := n0_; have HB := n1_; clear n0_ n1_; (try clear hb); (try clear hb2); (try clear hk); (try clear hi); have hcz11_0 : w10.cell? ⟨gb445, 0, none⟩ = some (.slice A0_0 l0_0.length c0_0) := (blk_cell BK445.out 0).trans rfl; have hcz11_1 : w10.cell? ⟨gb445, 1, none⟩ = some (.int .i64 a0_1) := (blk_cell BK445.out 1).trans rfl; have hfz11_0 := blk_frozen BK445.out 0; have hfz11_1 := blk_frozen BK445.out 1) | (go_at_call 64; (with_reducible refine (heronryref09_is.calls _ _ l0_0 a0_1 a2 t447 _ ?side1 ?side2 A8.out).mono ?_); (case side1 => repeat (first | exact (Kd.C_below HR0_0.out HB.out) | (with_reducible refine Kd.C_alloc ?_ _) | (with_reducible refine Kd.C_drewN ?_ _) | (with_reducible refine Kd.C_drew ?_))); (case side2 => exact HC0_0.out); rintro e w12 ⟨rfl, hb⟩; have n0_ := am_ (bb_ BK445.out hb); have n1_ := am_ (below_step (be_ HB.out) hb); clear BK445; clear HB; have BK445 := n0_; have HB := n1_; clear n0_ n1_; (try clear hb); (try clear hb2); (try clear hk); (try clear hi)))
   go_meet
   case rel => exact ⟨_, (!t447), (by first | rfl | (simp; done) | (simp [*]; done)), H', ⟨by first | omega | exact Nat.le_refl _⟩, ⟨bk_ BK445.out⟩, ⟨be_ HB.out⟩⟩
  ·replace c7 := Bool.eq_false_iff.mpr c7
   subst c7
   have H1 : (heronryref09_Within.j0 k a1 a2 true l0_0 a0_1) = some r := by rw [if_neg (show ¬ (false = true) by decide)] at H; exact H
   clear H
   have H := H1
   clear H1
   have H' := am_ H
   clear H
   have hcz13_0 : w5.cell? ⟨gb445, 0, none⟩ = some (.slice A0_0 l0_0.length c0_0) := (blk_cell BK445.out 0).trans rfl
   have hcz13_1 : w5.cell? ⟨gb445, 1, none⟩ = some (.int .i64 a0_1) := (blk_cell BK445.out 1).trans rfl
   have hfz13_0 := blk_frozen BK445.out 0
   have hfz13_1 := blk_frozen BK445.out 1
   go_wp2_with (first | ((with_reducible refine gate_callee (f := 64) rfl ?_); refine goesL_ (some 10) rfl rfl Try.func64 (by kernel_rfl) rfl #[.agg #[.slice A0_0 l0_0.length c0_0, .int .i64 a0_1], .int .i64 a1] rfl ma_ ?_; (with_reducible refine (heronryref09_is.calls _ _ l0_0 a0_1 a1 false _ ?side1 ?side2 A6.out).mono ?_); (case side1 => repeat (first | exact (Kd.C_below HR0_0.out HB.out) | (with_reducible refine Kd.C_alloc ?_ _) | (with_reducible refine Kd.C_drewN ?_ _) | (with_reducible refine Kd.C_drew ?_))); (case side2 => exact HC0_0.out); rintro e w14 ⟨rfl, hb⟩; refine ⟨_, rfl, ?_⟩; have n0_ := am_ (bb_ BK445.out hb); have n1_ := am_ (below_step (be_ HB.out) hb); clear BK445; clear HB; have BK445 := n0_; have HB := n1_; clear n0_ n1_; (try clear hb); (try clear hb2); (try clear hk); (try clear hi)))
   go_meet
   case rel => exact ⟨_, (true), (by first | rfl | (simp; done) | (simp [*]; done)), H', ⟨by first | omega | exact Nat.le_refl _⟩, ⟨bk_ BK445.out⟩, ⟨be_ HB.out⟩⟩
 case rest =>
  clear HC4
  try clear p2
  try clear c5
  try clear c6
  try clear c7
  try clear hcz11_0
  try clear hcz11_1
  try clear hcz13_0
  try clear hcz13_1
  try clear hcz9_0
  try clear hcz9_1
  try clear hfz11_0
  try clear hfz11_1
  try clear hfz13_0
  try clear hfz13_1
  try clear hfz9_0
  try clear hfz9_1
  obtain ⟨kq, x17_3, rfl, HA, HJ3, BK445, HB⟩ := hcut
  cases kq with
  | zero => exact absurd HA.out (by simp [heronryref09_Within.j0])
  | succ kj3 =>
   have H := HA.out
   clear HA
   simp only [heronryref09_Within.j0] at H
   by_cases c15 : x17_3 = true
   ·subst c15
    have H1 : (some false) = some r := by rw [if_pos rfl] at H; exact H
    clear H
    have H := H1
    clear H1
    obtain rfl := Option.some.inj H
    go_wp2
    go_ret
    exact ⟨by first | rfl | (simp [errW_none, errW_some] <;> rfl) | (simp [*, errW_none, errW_some] <;> rfl), be_ HB.out⟩
   ·replace c15 := Bool.eq_false_iff.mpr c15
    subst c15
    have H1 : (heronryref09_Within.l0 kj3 a1 a2 0 l0_0 a0_1) = some r := by rw [if_neg (show ¬ (false = true) by decide)] at H; exact H
    clear H
    have H := H1
    clear H1
    have H' := am_ H
    clear H
    go_wp2
    go_loopg [1, 7] kj3 (fun kq v1 v7 w' => ∃ (x1_2 : Int) (x7_2 : Int), v1 = .int .i64 x1_2 ∧ v7 = .int .i64 x7_2 ∧ Aside0 (heronryref09_Within.l0 kq x1_2 a2 x7_2 l0_0 a0_1 = some r) ∧ Aside0 (kq ≤ kj3) ∧ Aside0 (w'.heap[gb445]? = some (.cells #[(.slice A0_0 l0_0.length c0_0), .int .i64 a0_1] 61 (0, 0))) ∧ Aside0 (Below w.heap.size w w'))
    case atStart => exact ⟨(a1), (0), (by first | rfl | (simp; done) | (simp [*]; done)), (by first | rfl | (simp; done) | (simp [*]; done)), H', ⟨Nat.le_refl _⟩, ⟨bk_ BK445.out⟩, ⟨be_ HB.out⟩⟩
    case round =>
     clear H'
     try clear c1
     try clear p2
     try clear c5
     try clear c6
     try clear c7
     try clear c15
     try clear hcz11_0
     try clear hcz11_1
     try clear hcz13_0
     try clear hcz13_1
     try clear hcz9_0
     try clear hcz9_1
     try clear hfz11_0
     try clear hfz11_1
     try clear hfz13_0
     try clear hfz13_1
     try clear hfz9_0
     try clear hfz9_1
     try clear p2
     obtain ⟨x1_2, x7_2, rfl, rfl, HA, HK2, BK445, HB⟩ := hrel
     cases gk with
     | zero => exact absurd HA.out (by simp [heronryref09_Within.l0])
     | succ k2 =>
      have H := HA.out
      clear HA
      simp only [heronryref09_Within.l0] at H
      have HC16 := am_ H
      clear H
      go_upto_region 4 with (fail)
      go_cut [27] (fun v27 wc => ∃ (kq : Nat) (x27_15 : Bool), v27 = .bool x27_15 ∧ Aside0 (heronryref09_Within.j2 kq x1_2 a2 x7_2 x27_15 l0_0 a0_1 = some r) ∧ Aside0 (kq ≤ k2) ∧ Aside0 (wc.heap[gb445]? = some (.cells #[(.slice A0_0 l0_0.length c0_0), .int .i64 a0_1] 61 (0, 0))) ∧ Aside0 (Below w.heap.size w wc))
      case first =>
       have H := HC16.out
       clear HC16
       by_cases c17 : x7_2 ≤ (l0_0.length : Int)
       ·rw [if_pos c17] at H
        have c17b0 : decide (x7_2 ≤ (l0_0.length : Int)) = true := decide_eq_true c17
        clear c17
        (first | rw [c17b0] | (simp only [i64_w, i32_w]; rw [c17b0]) | skip)
        replace H := Option.bind_eq_some_iff.mp H
        obtain ⟨t448, A180, H⟩ := H
        replace H : (heronryref09_Within.j2 k2 x1_2 a2 x7_2 t448 l0_0 a0_1) = some r := H
        have A18 := am_ A180
        clear A180
        have H' := am_ H
        clear H
        have hcz19_0 : wr.cell? ⟨gb445, 0, none⟩ = some (.slice A0_0 l0_0.length c0_0) := (blk_cell BK445.out 0).trans rfl
        have hcz19_1 : wr.cell? ⟨gb445, 1, none⟩ = some (.int .i64 a0_1) := (blk_cell BK445.out 1).trans rfl
        have hfz19_0 := blk_frozen BK445.out 0
        have hfz19_1 := blk_frozen BK445.out 1
        go_wp2_with (first | (go_at_call 64; (with_reducible refine (heronryref09_is.calls _ _ l0_0 a0_1 x1_2 t448 _ ?side1 ?side2 A18.out).mono ?_); (case side1 => repeat (first | exact (Kd.C_below HR0_0.out HB.out) | (with_reducible refine Kd.C_alloc ?_ _) | (with_reducible refine Kd.C_drewN ?_ _) | (with_reducible refine Kd.C_drew ?_))); (case side2 => exact HC0_0.out); rintro e w20 ⟨rfl, hb⟩; have n0_ := am_ (bb_ BK445.out hb); have n1_ := am_ (below_step (be_ HB.out) hb); clear BK445; clear HB; have BK445 := n0_; have HB := n1_; clear n0_ n1_; (try clear hb); (try clear hb2); (try clear hk); (try clear hi)))
        go_meet
        case rel => exact ⟨_, (t448), (by first | rfl | (simp; done) | (simp [*]; done)), H', ⟨by have := HJ3.out; have := HK2.out; first | omega | exact Nat.le_refl _⟩, ⟨bk_ BK445.out⟩, ⟨be_ HB.out⟩⟩
       ·rw [if_neg c17] at H
        have c17b0 : decide (x7_2 ≤ (l0_0.length : Int)) = false := decide_eq_false c17
        clear c17
        (first | rw [c17b0] | (simp only [i64_w, i32_w]; rw [c17b0]) | skip)
        have H' := am_ H
        clear H
        have hcz21_0 : wr.cell? ⟨gb445, 0, none⟩ = some (.slice A0_0 l0_0.length c0_0) := (blk_cell BK445.out 0).trans rfl
        have hcz21_1 : wr.cell? ⟨gb445, 1, none⟩ = some (.int .i64 a0_1) := (blk_cell BK445.out 1).trans rfl
        have hfz21_0 := blk_frozen BK445.out 0
        have hfz21_1 := blk_frozen BK445.out 1
        go_wp2
        go_meet
        case rel => exact ⟨_, (false), (by first | rfl | (simp; done) | (simp [*]; done)), H', ⟨by have := HJ3.out; have := HK2.out; first | omega | exact Nat.le_refl _⟩, ⟨bk_ BK445.out⟩, ⟨be_ HB.out⟩⟩
      case rest =>
       clear HC16
       try clear c1
       try clear p2
       try clear c5
       try clear c6
       try clear c7
       try clear c15
       try clear c17
       try clear c17b0
       try clear hcz11_0
       try clear hcz11_1
       try clear hcz13_0
       try clear hcz13_1
       try clear hcz19_0
       try clear hcz19_1
       try clear hcz21_0
       try clear hcz21_1
       try clear hcz9_0
       try clear hcz9_1
       try clear hfz11_0
       try clear hfz11_1
       try clear hfz13_0
       try clear hfz13_1
       try clear hfz19_0
       try clear hfz19_1
       try clear hfz21_0
       try clear hfz21_1
       try clear hfz9_0
       try clear hfz9_1
       try clear p2
       obtain ⟨kq, x27_15, rfl, HA, HJ15, BK445, HB⟩ := hcut
       cases kq with
       | zero => exact absurd HA.out (by simp [heronryref09_Within.j2])
       | succ kj15 =>
        have H := HA.out
        clear HA
        simp only [heronryref09_Within.j2] at H
        by_cases c22 : x27_15 = true
        ·subst c22
         have H1 : (if x1_2 = a2 then (some true) else (if 0 ≤ x1_2 then (if x1_2 < (l0_0.length : Int) then (heronryref09_Within.l0 kj15 ((rd_T107 l0_0 x1_2).f0) a2 (wrap64 (x7_2 + 1)) l0_0 a0_1) else (none)) else (none))) = some r := by rw [if_pos rfl] at H; exact H
         clear H
         have H := H1
         clear H1
         by_cases c23 : x1_2 = a2
         ·rw [if_pos c23] at H
          have c23b0 : (x1_2 == a2) = true := beq_iff_eq.mpr c23
          have c23b1 : (x1_2 != a2) = false := bne_eq_false_iff_eq.mpr c23
          clear c23
          obtain rfl := Option.some.inj H
          go_wp2
          go_ret
          exact ⟨by first | rfl | (simp [errW_none, errW_some] <;> rfl) | (simp [*, errW_none, errW_some] <;> rfl), be_ HB.out⟩
         ·rw [if_neg c23] at H
          have c23b0 : (x1_2 == a2) = false := beq_eq_false_iff_ne.mpr c23
          have c23b1 : (x1_2 != a2) = true := bne_iff_ne.mpr c23
          by_cases c24 : 0 ≤ x1_2
          ·rw [if_pos c24] at H
           have c24b0 : decide (0 ≤ x1_2) = true := decide_eq_true c24
           clear c24
           by_cases c25 : x1_2 < (l0_0.length : Int)
           ·rw [if_pos c25] at H
            have c25b0 : decide (x1_2 < (l0_0.length : Int)) = true := decide_eq_true c25
            clear c25
            have H' := am_ H
            clear H
            have hcz26_0 : wc.cell? ⟨gb445, 0, none⟩ = some (.slice A0_0 l0_0.length c0_0) := (blk_cell BK445.out 0).trans rfl
            have hcz26_1 : wc.cell? ⟨gb445, 1, none⟩ = some (.int .i64 a0_1) := (blk_cell BK445.out 1).trans rfl
            have hfz26_0 := blk_frozen BK445.out 0
            have hfz26_1 := blk_frozen BK445.out 1
            have p449 : 0 ≤ (x1_2 : Int) := of_decide_eq_true (by first | (with_reducible assumption) | assumption)
            have q449 : x1_2 < (l0_0.length : Int) := of_decide_eq_true (by first | (with_reducible assumption) | assumption)
            obtain ⟨ad449, e449, hx449_0, hx449_1, hx449_2, hx449_3⟩ := at_T107 HR0_0.out x1_2 p449 q449
            cases e449
            replace hx449_0 := (HB.out.cell (World.block_lt_of_cell? w _ hx449_0)).trans hx449_0
            replace hx449_1 := (HB.out.cell (World.block_lt_of_cell? w _ hx449_1)).trans hx449_1
            replace hx449_2 := (HB.out.cell (World.block_lt_of_cell? w _ hx449_2)).trans hx449_2
            replace hx449_3 := (HB.out.cell (World.block_lt_of_cell? w _ hx449_3)).trans hx449_3
            replace p449 := eq_true p449
            replace q449 := eq_true q449
            go_wp2
            go_roundg kj15
            case measure => have := HJ3.out; have := HK2.out; have := HJ15.out; omega
            case rel => exact ⟨((rd_T107 l0_0 x1_2).f0), (wrap64 (x7_2 + 1)), (by first | rfl | (simp; done) | (simp [*]; done)), (by first | rfl | (simp; done) | (simp [*]; done)), H', ⟨by have := HJ3.out; have := HK2.out; have := HJ15.out; omega⟩, ⟨bk_ BK445.out⟩, ⟨be_ HB.out⟩⟩
           ·rw [if_neg c25] at H
            exact absurd H (by simp)
          ·rw [if_neg c24] at H
           exact absurd H (by simp)
        ·replace c22 := Bool.eq_false_iff.mpr c22
         subst c22
         have H1 : (some false) = some r := by rw [if_neg (show ¬ (false = true) by decide)] at H; exact H
         clear H
         have H := H1
         clear H1
         obtain rfl := Option.some.inj H
         go_wp2
         go_ret
         exact ⟨by first | rfl | (simp [errW_none, errW_some] <;> rfl) | (simp [*, errW_none, errW_some] <;> rfl), be_ HB.out⟩

end Go.Proofs.Ytjpoepiidmoegaa.Q
