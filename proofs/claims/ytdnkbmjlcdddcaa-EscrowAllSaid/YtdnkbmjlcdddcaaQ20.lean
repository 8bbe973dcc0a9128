-- Cut to what one claim reaches, out of what the kit's print laid for this seat (wip/tools/trim.py).
import Derived.Test.YtdnkbmjlcdddcaaQ0
import Derived.Test.YtdnkbmjlcdddcaaQ5
import Derived.Test.YtdnkbmjlcdddcaaQ7
import Derived.Test.YtdnkbmjlcdddcaaQA
namespace Go.Proofs.Ytdnkbmjlcdddcaa.Q
open Go.RowKit Go.Proofs.YtdnkbmjlcdddcaaW.PrintWords Go.Proofs.YtdnkbmjlcdddcaaW.PrintLast Go.Proofs.YtdnkbmjlcdddcaaW.PrintMore
attribute [local go_sem] max2_int min2_int max_two min_two max_three min_three max_four min_four   -- for this text's walks alone
set_option linter.unusedVariables false
set_option linter.unusedSimpArgs false

def escrow_Table_may.j0 : Nat → Int → Bool → List (S74) → Int → Option (Int)
 | 0, _, _, _, _ => none
 | k + 1, x2, x9, x410000, x410001 => if x9 = true then (some 6) else (if 0 ≤ x2 then (if x2 < (x410000.length : Int) then (if ((rd_T74 x410000 x2).f1) = 1 then (some 0) else (some 7)) else (none)) else (none))
def escrow_Table_may.f (k : Nat) (l0_0 : List (S28)) (l0_1 : List (S83)) (l1_0 : List (S74)) (a1_1 : Int) (a2 : Int) (a3 : Int) : Option (Int) := (escrow_Sane.f k l0_0 l0_1).bind fun t410 => (if t410 = true then ((escrow_Table_is.f l0_0 l0_1 a3).bind fun t411 => (if t411 = true then (if a2 < 0 then (escrow_Table_may.j0 k a2 true l1_0 a1_1) else (if a2 ≥ (l1_0.length : Int) then (escrow_Table_may.j0 k a2 true l1_0 a1_1) else (escrow_Table_may.j0 k a2 (decide (a2 ≥ 64)) l1_0 a1_1))) else (escrow_Table_may.j0 k a2 true l1_0 a1_1))) else (escrow_Table_may.j0 k a2 true l1_0 a1_1))
theorem escrow_Table_may.mono_l : ∀ k, (∀ y0 y1 y2 y3, LeO (escrow_Table_may.j0 k y0 y1 y2 y3) (escrow_Table_may.j0 (k + 1) y0 y1 y2 y3))
 | 0 => fun _ _ _ _ r h => by simp [escrow_Table_may.j0] at h
 | k + 1 => by
  have ih0 := escrow_Table_may.mono_l k
  ·intro y0 y1 y2 y3
   unfold escrow_Table_may.j0
   repeat' first
   | (with_reducible exact ih0 _ _ _ _)
   | (with_reducible exact escrow_Sane.mono _ _ _)
   | (with_reducible exact LeO.refl _)
   | (with_reducible exact LeO.none _)
   | (with_reducible refine LeO.ite ?_ ?_)
   | (with_reducible refine LeO.bind ?_ (fun _ => ?_))
   | exact ih0 _ _ _ _
   | exact escrow_Sane.mono _ _ _
   | exact LeO.none _
   | refine LeO.ite ?_ ?_
   | refine LeO.bind ?_ (fun _ => ?_)
theorem escrow_Table_may.mono : ∀ a0 a1 a2 a3 a4 a5 k, LeO (escrow_Table_may.f k a0 a1 a2 a3 a4 a5) (escrow_Table_may.f (k + 1) a0 a1 a2 a3 a4 a5) := by
 intro a0 a1 a2 a3 a4 a5 k
 have ih0 := escrow_Table_may.mono_l k
 unfold escrow_Table_may.f
 repeat' first
   | (with_reducible exact ih0 _ _ _ _)
   | (with_reducible exact escrow_Sane.mono _ _ _)
   | (with_reducible exact LeO.refl _)
   | (with_reducible exact LeO.none _)
   | (with_reducible refine LeO.ite ?_ ?_)
   | (with_reducible refine LeO.bind ?_ (fun _ => ?_))
   | exact ih0 _ _ _ _
   | exact escrow_Sane.mono _ _ _
   | exact LeO.none _
   | refine LeO.ite ?_ ?_
   | refine LeO.bind ?_ (fun _ => ?_)
set_option maxHeartbeats 8000000 in
set_option maxRecDepth 100000 in
theorem escrow_Table_may.calls (k : Nat) (A0_0 : Option Addr) (c0_0 : Nat) (l0_0 : List (S28)) (A0_1 : Option Addr) (c0_1 : Nat) (l0_1 : List (S83)) (A1_0 : Option Addr) (c1_0 : Nat) (l1_0 : List (S74)) (a1_1 : Int) (a2 : Int) (a3 : Int) (r : Int) (w : World) (hr0_0 : Kd.C k28 w A0_0 l0_0.length l0_0) (hc0_0 : l0_0.length ≤ c0_0) (hr0_1 : Kd.C k83 w A0_1 l0_1.length l0_1) (hc0_1 : l0_1.length ≤ c0_1) (hr1_0 : Kd.C k74 w A1_0 l1_0.length l1_0) (hc1_0 : l1_0.length ≤ c1_0) (h : escrow_Table_may.f k l0_0 l0_1 l1_0 a1_1 a2 a3 = some r) :
  Calls Try.prog 31 #[.agg #[.slice A0_0 l0_0.length c0_0, .slice A0_1 l0_1.length c0_1], .agg #[.slice A1_0 l1_0.length c1_0, .int .i64 a1_1], .int .i64 a2, .int .i64 a3] w fun e w' => e = .returned (.int .i64 r) ∧ Below w.heap.size w w' := by
 have hu32 := Try.underlying32; have hu26 := Try.underlying26; have HR0_0 := am_ hr0_0; have HC0_0 := am_ hc0_0; clear hr0_0 hc0_0; have HR0_1 := am_ hr0_1; have HC0_1 := am_ hc0_1; clear hr0_1 hc0_1; have HR1_0 := am_ hr1_0; have HC1_0 := am_ hc1_0; clear hr1_0 hc1_0; have HB := am_ (Below.refl w.heap.size w); have H : ((escrow_Sane.f k l0_0 l0_1).bind fun t410 => (if t410 = true then ((escrow_Table_is.f l0_0 l0_1 a3).bind fun t411 => (if t411 = true then (if a2 < 0 then (escrow_Table_may.j0 k a2 true l1_0 a1_1) else (if a2 ≥ (l1_0.length : Int) then (escrow_Table_may.j0 k a2 true l1_0 a1_1) else (escrow_Table_may.j0 k a2 (decide (a2 ≥ 64)) l1_0 a1_1))) else (escrow_Table_may.j0 k a2 true l1_0 a1_1))) else (escrow_Table_may.j0 k a2 true l1_0 a1_1))) = some r := h; clear h; have HC5 := am_ H; clear H
 go_enter Try.func31, Try.ntmps31
 go_upto_region 1 with (first | ((with_reducible refine gate_dst (N := 4) rfl ?_); (try (refine gate_guard (by rfl) ?_; dsimp only)); refine box_event ?hg (N := 4) ?hd (cs := #[.slice A0_0 l0_0.length c0_0, .slice A0_1 l0_1.length c0_1]) (t := 32) ?hr ?_; (case hd => rfl); (case hg => rfl); (case hr => first | (go_simp; done) | (go_simp; rfl)); intro gb408 hg w6 hbox hb; have n0_ := am_ (below_step (be_ HB.out) hb); have n1_ := am_ (hbox); have n2_ := am_ ((by rw [hg]; exact (below_size (be_ HB.out)) : w.heap.size ≤ gb408)); have n3_ := am_ ((by rw [hg]; exact (below_size (be_ HB.out)) : w.heap.size ≤ gb408)); clear HB; have HB := n0_; have BK408 := n1_; have GW408 := n2_; have GE408 := n3_; clear n0_ n1_ n2_ n3_; clear hb hbox hg) | ((with_reducible refine gate_dst (N := 5) rfl ?_); (try (refine gate_guard (by rfl) ?_; dsimp only)); refine box_event ?hg (N := 5) ?hd (cs := #[.slice A1_0 l1_0.length c1_0, .int .i64 a1_1]) (t := 26) ?hr ?_; (case hd => rfl); (case hg => rfl); (case hr => first | (go_simp; done) | (go_simp; rfl)); intro gb409 hg w7 hbox hb; have n0_ := am_ (bb_ BK408.out hb); have n1_ := am_ (below_step (be_ HB.out) hb); have n2_ := am_ (hbox); have n3_ := am_ ((by rw [hg]; exact (below_size (be_ HB.out)) : w.heap.size ≤ gb409)); have n4_ := am_ ((by rw [hg]; exact (below_size (be_ HB.out)) : w.heap.size ≤ gb409)); have n5_ := am_ ((by rw [hg]; exact Nat.ne_of_lt (bl_ BK408.out) : gb408 ≠ gb409)); have n6_ := am_ ((by rw [hg]; exact Nat.ne_of_gt (bl_ BK408.out) : gb409 ≠ gb408)); clear BK408; clear HB; have BK408 := n0_; have HB := n1_; have BK409 := n2_; have GW409 := n3_; have GE409 := n4_; have NB408_409 := n5_; have NB409_408 := n6_; clear n0_ n1_ n2_ n3_ n4_ n5_ n6_; clear hb hbox hg))
 (try simp only [Act.put, List.setIfInBounds_toArray, List.set_cons_zero, List.set_cons_succ])
 go_cut [9] (fun v9 wc => ∃ (kq : Nat) (x9_4 : Bool), v9 = .bool x9_4 ∧ Aside0 (escrow_Table_may.j0 kq a2 x9_4 l1_0 a1_1 = some r) ∧ Aside0 (kq ≤ k) ∧ Aside0 (wc.heap[gb408]? = some (.cells #[(.slice A0_0 l0_0.length c0_0), (.slice A0_1 l0_1.length c0_1)] 32 (0, 0))) ∧ Aside0 (wc.heap[gb409]? = some (.cells #[(.slice A1_0 l1_0.length c1_0), .int .i64 a1_1] 26 (0, 0))) ∧ Aside0 (Below w.heap.size w wc))
 case first =>
  have H := HC5.out; clear HC5; replace H := Option.bind_eq_some_iff.mp H; obtain ⟨t410, A80, H⟩ := H; replace H : (if t410 = true then ((escrow_Table_is.f l0_0 l0_1 a3).bind fun t411 => (if t411 = true then (if a2 < 0 then (escrow_Table_may.j0 k a2 true l1_0 a1_1) else (if a2 ≥ (l1_0.length : Int) then (escrow_Table_may.j0 k a2 true l1_0 a1_1) else (escrow_Table_may.j0 k a2 (decide (a2 ≥ 64)) l1_0 a1_1))) else (escrow_Table_may.j0 k a2 true l1_0 a1_1))) else (escrow_Table_may.j0 k a2 true l1_0 a1_1)) = some r := H; have A8 := am_ A80; clear A80
  by_cases c9 : t410 = true
  ·subst c9
   have H1 : ((escrow_Table_is.f l0_0 l0_1 a3).bind fun t411 => (if t411 = true then (if a2 < 0 then (escrow_Table_may.j0 k a2 true l1_0 a1_1) else (if a2 ≥ (l1_0.length : Int) then (escrow_Table_may.j0 k a2 true l1_0 a1_1) else (escrow_Table_may.j0 k a2 (decide (a2 ≥ 64)) l1_0 a1_1))) else (escrow_Table_may.j0 k a2 true l1_0 a1_1))) = some r := by rw [if_pos rfl] at H; exact H
   clear H; have H := H1; clear H1; replace H := Option.bind_eq_some_iff.mp H; obtain ⟨t411, A100, H⟩ := H; replace H : (if t411 = true then (if a2 < 0 then (escrow_Table_may.j0 k a2 true l1_0 a1_1) else (if a2 ≥ (l1_0.length : Int) then (escrow_Table_may.j0 k a2 true l1_0 a1_1) else (escrow_Table_may.j0 k a2 (decide (a2 ≥ 64)) l1_0 a1_1))) else (escrow_Table_may.j0 k a2 true l1_0 a1_1)) = some r := H; have A10 := am_ A100; clear A100
   by_cases c11 : t411 = true
   ·subst c11
    have H1 : (if a2 < 0 then (escrow_Table_may.j0 k a2 true l1_0 a1_1) else (if a2 ≥ (l1_0.length : Int) then (escrow_Table_may.j0 k a2 true l1_0 a1_1) else (escrow_Table_may.j0 k a2 (decide (a2 ≥ 64)) l1_0 a1_1))) = some r := by rw [if_pos rfl] at H; exact H
    clear H; have H := H1; clear H1
    by_cases c12 : a2 < 0
    ·rw [if_pos c12] at H
     have c12b0 : decide (a2 < 0) = true := decide_eq_true c12; clear c12
     (first | rw [c12b0] | (simp only [i64_w, i32_w]; rw [c12b0]) | skip)
     have H' := am_ H; clear H; have hnb13 := NB408_409.out; have hnc13 := NB409_408.out; have hcz14_0 : w7.cell? ⟨gb408, 0, none⟩ = some (.slice A0_0 l0_0.length c0_0) := (blk_cell BK408.out 0).trans rfl; have hcz14_1 : w7.cell? ⟨gb408, 1, none⟩ = some (.slice A0_1 l0_1.length c0_1) := (blk_cell BK408.out 1).trans rfl; have hfz14_0 := blk_frozen BK408.out 0; have hfz14_1 := blk_frozen BK408.out 1
     go_wp2_with (first | ((with_reducible refine gate_callee (f := 10) rfl ?_); refine goesL_ (some 11) rfl rfl Try.func10 (by kernel_rfl) rfl #[.agg #[.slice A0_0 l0_0.length c0_0, .slice A0_1 l0_1.length c0_1]] rfl ma_ ?_; (with_reducible refine (escrow_Sane.calls k _ _ l0_0 _ _ l0_1 true _ ?side1 ?side2 ?side3 ?side4 A8.out).mono ?_); (case side1 => exact ks_ (Kd.C_below HR0_0.out HB.out)); (case side2 => exact HC0_0.out); (case side3 => exact ks_ (Kd.C_below HR0_1.out HB.out)); (case side4 => exact HC0_1.out); rintro e w15 ⟨rfl, hb⟩; refine ⟨_, rfl, ?_⟩; have n0_ := am_ (bb_ BK408.out hb); have n1_ := am_ (bb_ BK409.out hb); have n2_ := am_ (below_step (be_ HB.out) hb); clear BK408; clear BK409; clear HB; have BK408 := n0_; have BK409 := n1_; have HB := n2_; clear n0_ n1_ n2_; (try clear hb); (try clear hb2); (try clear hk); (try clear hi); have hcz16_0 : w15.cell? ⟨gb408, 0, none⟩ = some (.slice A0_0 l0_0.length c0_0) := (blk_cell BK408.out 0).trans rfl; have hcz16_1 : w15.cell? ⟨gb408, 1, none⟩ = some (.slice A0_1 l0_1.length c0_1) := (blk_cell BK408.out 1).trans rfl; have hfz16_0 := blk_frozen BK408.out 0; have hfz16_1 := blk_frozen BK408.out 1) | (go_at_call 36; (with_reducible refine (escrow_Table_is.calls _ _ l0_0 _ _ l0_1 a3 true _ ?side1 ?side2 ?side3 ?side4 A10.out).mono ?_); (case side1 => exact ks_ (Kd.C_below HR0_0.out HB.out)); (case side2 => exact HC0_0.out); (case side3 => exact ks_ (Kd.C_below HR0_1.out HB.out)); (case side4 => exact HC0_1.out); rintro e w17 ⟨rfl, hb⟩; have n0_ := am_ (bb_ BK408.out hb); have n1_ := am_ (bb_ BK409.out hb); have n2_ := am_ (below_step (be_ HB.out) hb); clear BK408; clear BK409; clear HB; have BK408 := n0_; have BK409 := n1_; have HB := n2_; clear n0_ n1_ n2_; (try clear hb); (try clear hb2); (try clear hk); (try clear hi)))
     go_meet
     case rel => exact ⟨_, (true), (by first | rfl | (simp; done) | (simp [*]; done)), H', ⟨by first | omega | exact Nat.le_refl _⟩, ⟨bk_ BK408.out⟩, ⟨bk_ BK409.out⟩, ⟨be_ HB.out⟩⟩
    ·rw [if_neg c12] at H
     have c12b0 : decide (a2 < 0) = false := decide_eq_false c12; clear c12
     (first | rw [c12b0] | (simp only [i64_w, i32_w]; rw [c12b0]) | skip)
     by_cases c18 : a2 ≥ (l1_0.length : Int)
     ·rw [if_pos c18] at H
      have c18b0 : decide ((l1_0.length : Int) ≤ a2) = true := decide_eq_true c18; clear c18; have H' := am_ H; clear H; have hnb19 := NB408_409.out; have hnc19 := NB409_408.out; have hcz20_0 : w7.cell? ⟨gb408, 0, none⟩ = some (.slice A0_0 l0_0.length c0_0) := (blk_cell BK408.out 0).trans rfl; have hcz20_1 : w7.cell? ⟨gb408, 1, none⟩ = some (.slice A0_1 l0_1.length c0_1) := (blk_cell BK408.out 1).trans rfl; have hfz20_0 := blk_frozen BK408.out 0; have hfz20_1 := blk_frozen BK408.out 1
      go_wp2_with (first | ((with_reducible refine gate_callee (f := 10) rfl ?_); refine goesL_ (some 11) rfl rfl Try.func10 (by kernel_rfl) rfl #[.agg #[.slice A0_0 l0_0.length c0_0, .slice A0_1 l0_1.length c0_1]] rfl ma_ ?_; (with_reducible refine (escrow_Sane.calls k _ _ l0_0 _ _ l0_1 true _ ?side1 ?side2 ?side3 ?side4 A8.out).mono ?_); (case side1 => exact ks_ (Kd.C_below HR0_0.out HB.out)); (case side2 => exact HC0_0.out); (case side3 => exact ks_ (Kd.C_below HR0_1.out HB.out)); (case side4 => exact HC0_1.out); rintro e w21 ⟨rfl, hb⟩; refine ⟨_, rfl, ?_⟩; have n0_ := am_ (bb_ BK408.out hb); have n1_ := am_ (bb_ BK409.out hb); have n2_ := am_ (below_step (be_ HB.out) hb); clear BK408; clear BK409; clear HB; have BK408 := n0_; have BK409 := n1_; have HB := n2_; clear n0_ n1_ n2_; (try clear hb); (try clear hb2); (try clear hk); (try clear hi); have hcz22_0 : w21.cell? ⟨gb408, 0, none⟩ = some (.slice A0_0 l0_0.length c0_0) := (blk_cell BK408.out 0).trans rfl; have hcz22_1 : w21.cell? ⟨gb408, 1, none⟩ = some (.slice A0_1 l0_1.length c0_1) := (blk_cell BK408.out 1).trans rfl; have hfz22_0 := blk_frozen BK408.out 0; have hfz22_1 := blk_frozen BK408.out 1) | (go_at_call 36; (with_reducible refine (escrow_Table_is.calls _ _ l0_0 _ _ l0_1 a3 true _ ?side1 ?side2 ?side3 ?side4 A10.out).mono ?_); (case side1 => exact ks_ (Kd.C_below HR0_0.out HB.out)); (case side2 => exact HC0_0.out); (case side3 => exact ks_ (Kd.C_below HR0_1.out HB.out)); (case side4 => exact HC0_1.out); rintro e w23 ⟨rfl, hb⟩; have n0_ := am_ (bb_ BK408.out hb); have n1_ := am_ (bb_ BK409.out hb); have n2_ := am_ (below_step (be_ HB.out) hb); clear BK408; clear BK409; clear HB; have BK408 := n0_; have BK409 := n1_; have HB := n2_; clear n0_ n1_ n2_; (try clear hb); (try clear hb2); (try clear hk); (try clear hi); have hcz24_0 : w23.cell? ⟨gb409, 0, none⟩ = some (.slice A1_0 l1_0.length c1_0) := (blk_cell BK409.out 0).trans rfl; have hcz24_1 : w23.cell? ⟨gb409, 1, none⟩ = some (.int .i64 a1_1) := (blk_cell BK409.out 1).trans rfl; have hfz24_0 := blk_frozen BK409.out 0; have hfz24_1 := blk_frozen BK409.out 1))
      go_meet
      case rel => exact ⟨_, (true), (by first | rfl | (simp; done) | (simp [*]; done)), H', ⟨by first | omega | exact Nat.le_refl _⟩, ⟨bk_ BK408.out⟩, ⟨bk_ BK409.out⟩, ⟨be_ HB.out⟩⟩
     ·rw [if_neg c18] at H
      have c18b0 : decide ((l1_0.length : Int) ≤ a2) = false := decide_eq_false c18; clear c18; have H' := am_ H; clear H; have hnb25 := NB408_409.out; have hnc25 := NB409_408.out; have hcz26_0 : w7.cell? ⟨gb408, 0, none⟩ = some (.slice A0_0 l0_0.length c0_0) := (blk_cell BK408.out 0).trans rfl; have hcz26_1 : w7.cell? ⟨gb408, 1, none⟩ = some (.slice A0_1 l0_1.length c0_1) := (blk_cell BK408.out 1).trans rfl; have hfz26_0 := blk_frozen BK408.out 0; have hfz26_1 := blk_frozen BK408.out 1
      go_wp2_with (first | ((with_reducible refine gate_callee (f := 10) rfl ?_); refine goesL_ (some 11) rfl rfl Try.func10 (by kernel_rfl) rfl #[.agg #[.slice A0_0 l0_0.length c0_0, .slice A0_1 l0_1.length c0_1]] rfl ma_ ?_; (with_reducible refine (escrow_Sane.calls k _ _ l0_0 _ _ l0_1 true _ ?side1 ?side2 ?side3 ?side4 A8.out).mono ?_); (case side1 => exact ks_ (Kd.C_below HR0_0.out HB.out)); (case side2 => exact HC0_0.out); (case side3 => exact ks_ (Kd.C_below HR0_1.out HB.out)); (case side4 => exact HC0_1.out); rintro e w27 ⟨rfl, hb⟩; refine ⟨_, rfl, ?_⟩; have n0_ := am_ (bb_ BK408.out hb); have n1_ := am_ (bb_ BK409.out hb); have n2_ := am_ (below_step (be_ HB.out) hb); clear BK408; clear BK409; clear HB; have BK408 := n0_; have BK409 := n1_; have HB := n2_; clear n0_ n1_ n2_; (try clear hb); (try clear hb2); (try clear hk); (try clear hi); have hcz28_0 : w27.cell? ⟨gb408, 0, none⟩ = some (.slice A0_0 l0_0.length c0_0) := (blk_cell BK408.out 0).trans rfl; have hcz28_1 : w27.cell? ⟨gb408, 1, none⟩ = some (.slice A0_1 l0_1.length c0_1) := (blk_cell BK408.out 1).trans rfl; have hfz28_0 := blk_frozen BK408.out 0; have hfz28_1 := blk_frozen BK408.out 1) | (go_at_call 36; (with_reducible refine (escrow_Table_is.calls _ _ l0_0 _ _ l0_1 a3 true _ ?side1 ?side2 ?side3 ?side4 A10.out).mono ?_); (case side1 => exact ks_ (Kd.C_below HR0_0.out HB.out)); (case side2 => exact HC0_0.out); (case side3 => exact ks_ (Kd.C_below HR0_1.out HB.out)); (case side4 => exact HC0_1.out); rintro e w29 ⟨rfl, hb⟩; have n0_ := am_ (bb_ BK408.out hb); have n1_ := am_ (bb_ BK409.out hb); have n2_ := am_ (below_step (be_ HB.out) hb); clear BK408; clear BK409; clear HB; have BK408 := n0_; have BK409 := n1_; have HB := n2_; clear n0_ n1_ n2_; (try clear hb); (try clear hb2); (try clear hk); (try clear hi); have hcz30_0 : w29.cell? ⟨gb409, 0, none⟩ = some (.slice A1_0 l1_0.length c1_0) := (blk_cell BK409.out 0).trans rfl; have hcz30_1 : w29.cell? ⟨gb409, 1, none⟩ = some (.int .i64 a1_1) := (blk_cell BK409.out 1).trans rfl; have hfz30_0 := blk_frozen BK409.out 0; have hfz30_1 := blk_frozen BK409.out 1))
      go_meet
      case rel => exact ⟨_, (decide (a2 ≥ 64)), (by first | rfl | (simp; done) | (simp [*]; done)), H', ⟨by first | omega | exact Nat.le_refl _⟩, ⟨bk_ BK408.out⟩, ⟨bk_ BK409.out⟩, ⟨be_ HB.out⟩⟩
   ·replace c11 := Bool.eq_false_iff.mpr c11
    subst c11; have H1 : (escrow_Table_may.j0 k a2 true l1_0 a1_1) = some r := by rw [if_neg (show ¬ (false = true) by decide)] at H; exact H
    clear H; have H := H1; clear H1; have H' := am_ H; clear H; have hnb31 := NB408_409.out; have hnc31 := NB409_408.out; have hcz32_0 : w7.cell? ⟨gb408, 0, none⟩ = some (.slice A0_0 l0_0.length c0_0) := (blk_cell BK408.out 0).trans rfl; have hcz32_1 : w7.cell? ⟨gb408, 1, none⟩ = some (.slice A0_1 l0_1.length c0_1) := (blk_cell BK408.out 1).trans rfl; have hfz32_0 := blk_frozen BK408.out 0; have hfz32_1 := blk_frozen BK408.out 1
    go_wp2_with (first | ((with_reducible refine gate_callee (f := 10) rfl ?_); refine goesL_ (some 11) rfl rfl Try.func10 (by kernel_rfl) rfl #[.agg #[.slice A0_0 l0_0.length c0_0, .slice A0_1 l0_1.length c0_1]] rfl ma_ ?_; (with_reducible refine (escrow_Sane.calls k _ _ l0_0 _ _ l0_1 true _ ?side1 ?side2 ?side3 ?side4 A8.out).mono ?_); (case side1 => exact ks_ (Kd.C_below HR0_0.out HB.out)); (case side2 => exact HC0_0.out); (case side3 => exact ks_ (Kd.C_below HR0_1.out HB.out)); (case side4 => exact HC0_1.out); rintro e w33 ⟨rfl, hb⟩; refine ⟨_, rfl, ?_⟩; have n0_ := am_ (bb_ BK408.out hb); have n1_ := am_ (bb_ BK409.out hb); have n2_ := am_ (below_step (be_ HB.out) hb); clear BK408; clear BK409; clear HB; have BK408 := n0_; have BK409 := n1_; have HB := n2_; clear n0_ n1_ n2_; (try clear hb); (try clear hb2); (try clear hk); (try clear hi); have hcz34_0 : w33.cell? ⟨gb408, 0, none⟩ = some (.slice A0_0 l0_0.length c0_0) := (blk_cell BK408.out 0).trans rfl; have hcz34_1 : w33.cell? ⟨gb408, 1, none⟩ = some (.slice A0_1 l0_1.length c0_1) := (blk_cell BK408.out 1).trans rfl; have hfz34_0 := blk_frozen BK408.out 0; have hfz34_1 := blk_frozen BK408.out 1) | (go_at_call 36; (with_reducible refine (escrow_Table_is.calls _ _ l0_0 _ _ l0_1 a3 false _ ?side1 ?side2 ?side3 ?side4 A10.out).mono ?_); (case side1 => exact ks_ (Kd.C_below HR0_0.out HB.out)); (case side2 => exact HC0_0.out); (case side3 => exact ks_ (Kd.C_below HR0_1.out HB.out)); (case side4 => exact HC0_1.out); rintro e w35 ⟨rfl, hb⟩; have n0_ := am_ (bb_ BK408.out hb); have n1_ := am_ (bb_ BK409.out hb); have n2_ := am_ (below_step (be_ HB.out) hb); clear BK408; clear BK409; clear HB; have BK408 := n0_; have BK409 := n1_; have HB := n2_; clear n0_ n1_ n2_; (try clear hb); (try clear hb2); (try clear hk); (try clear hi)))
    go_meet
    case rel => exact ⟨_, (true), (by first | rfl | (simp; done) | (simp [*]; done)), H', ⟨by first | omega | exact Nat.le_refl _⟩, ⟨bk_ BK408.out⟩, ⟨bk_ BK409.out⟩, ⟨be_ HB.out⟩⟩
  ·replace c9 := Bool.eq_false_iff.mpr c9
   subst c9; have H1 : (escrow_Table_may.j0 k a2 true l1_0 a1_1) = some r := by rw [if_neg (show ¬ (false = true) by decide)] at H; exact H
   clear H; have H := H1; clear H1; have H' := am_ H; clear H; have hnb36 := NB408_409.out; have hnc36 := NB409_408.out; have hcz37_0 : w7.cell? ⟨gb408, 0, none⟩ = some (.slice A0_0 l0_0.length c0_0) := (blk_cell BK408.out 0).trans rfl; have hcz37_1 : w7.cell? ⟨gb408, 1, none⟩ = some (.slice A0_1 l0_1.length c0_1) := (blk_cell BK408.out 1).trans rfl; have hfz37_0 := blk_frozen BK408.out 0; have hfz37_1 := blk_frozen BK408.out 1
   go_wp2_with (first | ((with_reducible refine gate_callee (f := 10) rfl ?_); refine goesL_ (some 11) rfl rfl Try.func10 (by kernel_rfl) rfl #[.agg #[.slice A0_0 l0_0.length c0_0, .slice A0_1 l0_1.length c0_1]] rfl ma_ ?_; (with_reducible refine (escrow_Sane.calls k _ _ l0_0 _ _ l0_1 false _ ?side1 ?side2 ?side3 ?side4 A8.out).mono ?_); (case side1 => exact ks_ (Kd.C_below HR0_0.out HB.out)); (case side2 => exact HC0_0.out); (case side3 => exact ks_ (Kd.C_below HR0_1.out HB.out)); (case side4 => exact HC0_1.out); rintro e w38 ⟨rfl, hb⟩; refine ⟨_, rfl, ?_⟩; have n0_ := am_ (bb_ BK408.out hb); have n1_ := am_ (bb_ BK409.out hb); have n2_ := am_ (below_step (be_ HB.out) hb); clear BK408; clear BK409; clear HB; have BK408 := n0_; have BK409 := n1_; have HB := n2_; clear n0_ n1_ n2_; (try clear hb); (try clear hb2); (try clear hk); (try clear hi)))
   go_meet
   case rel => exact ⟨_, (true), (by first | rfl | (simp; done) | (simp [*]; done)), H', ⟨by first | omega | exact Nat.le_refl _⟩, ⟨bk_ BK408.out⟩, ⟨bk_ BK409.out⟩, ⟨be_ HB.out⟩⟩
 case rest =>
  clear HC5
  try clear c1
  try clear c2
  try clear p2
  try clear c3
  try clear c9
  try clear c10
  try clear c11
  try clear c12
  try clear c12b0
  try clear c13
  try clear c18
  try clear c18b0
  try clear c19
  try clear c25
  try clear c31
  try clear c36
  try clear hcz14_0
  try clear hcz14_1
  try clear hcz16_0
  try clear hcz16_1
  try clear hcz20_0
  try clear hcz20_1
  try clear hcz22_0
  try clear hcz22_1
  try clear hcz24_0
  try clear hcz24_1
  try clear hcz26_0
  try clear hcz26_1
  try clear hcz28_0
  try clear hcz28_1
  try clear hcz30_0
  try clear hcz30_1
  try clear hcz32_0
  try clear hcz32_1
  try clear hcz34_0
  try clear hcz34_1
  try clear hcz37_0
  try clear hcz37_1
  try clear hfz14_0
  try clear hfz14_1
  try clear hfz16_0
  try clear hfz16_1
  try clear hfz20_0
  try clear hfz20_1
  try clear hfz22_0
  try clear hfz22_1
  try clear hfz24_0
  try clear hfz24_1
  try clear hfz26_0
  try clear hfz26_1
  try clear hfz28_0
  try clear hfz28_1
  try clear hfz30_0
  try clear hfz30_1
  try clear hfz32_0
  try clear hfz32_1
  try clear hfz34_0
  try clear hfz34_1
  try clear hfz37_0
  try clear hfz37_1
  obtain ⟨kq, x9_4, rfl, HA, HJ4, BK408, BK409, HB⟩ := hcut; cases kq with
  | zero => exact absurd HA.out (by simp [escrow_Table_may.j0])
  | succ kj4 =>
   have H := HA.out; clear HA; simp only [escrow_Table_may.j0] at H
   by_cases c39 : x9_4 = true
   ·subst c39
    have H1 : (some 6) = some r := by rw [if_pos rfl] at H; exact H
    clear H; have H := H1; clear H1; obtain rfl := Option.some.inj H
    go_wp2
    go_ret
    exact ⟨by first | rfl | (simp [errW_none, errW_some] <;> rfl) | (simp [*, errW_none, errW_some] <;> rfl), be_ HB.out⟩
   ·replace c39 := Bool.eq_false_iff.mpr c39
    subst c39; have H1 : (if 0 ≤ a2 then (if a2 < (l1_0.length : Int) then (if ((rd_T74 l1_0 a2).f1) = 1 then (some 0) else (some 7)) else (none)) else (none)) = some r := by rw [if_neg (show ¬ (false = true) by decide)] at H; exact H
    clear H; have H := H1; clear H1
    by_cases c40 : 0 ≤ a2
    ·rw [if_pos c40] at H
     have c40b0 : decide (0 ≤ a2) = true := decide_eq_true c40; clear c40
     by_cases c41 : a2 < (l1_0.length : Int)
     ·rw [if_pos c41] at H
      have c41b0 : decide (a2 < (l1_0.length : Int)) = true := decide_eq_true c41; clear c41
      by_cases c42 : ((rd_T74 l1_0 a2).f1) = 1
      ·rw [if_pos c42] at H
       have c42b0 : (((rd_T74 l1_0 a2).f1) == 1) = true := beq_iff_eq.mpr c42; have c42b1 : (((rd_T74 l1_0 a2).f1) != 1) = false := bne_eq_false_iff_eq.mpr c42; clear c42; obtain rfl := Option.some.inj H; have hnb43 := NB409_408.out; have hnc43 := NB408_409.out; have hcz44_0 : wc.cell? ⟨gb409, 0, none⟩ = some (.slice A1_0 l1_0.length c1_0) := (blk_cell BK409.out 0).trans rfl; have hcz44_1 : wc.cell? ⟨gb409, 1, none⟩ = some (.int .i64 a1_1) := (blk_cell BK409.out 1).trans rfl; have hfz44_0 := blk_frozen BK409.out 0; have hfz44_1 := blk_frozen BK409.out 1; have p412 : 0 ≤ (a2 : Int) := od_; have q412 : a2 < (l1_0.length : Int) := od_; obtain ⟨ad412, e412, hx412_0, hx412_1, hx412_2, hx412_3⟩ := at_T74 HR1_0.out a2 p412 q412; cases e412; replace hx412_0 := (HB.out.cell (World.block_lt_of_cell? w _ hx412_0)).trans hx412_0; replace hx412_1 := (HB.out.cell (World.block_lt_of_cell? w _ hx412_1)).trans hx412_1; replace hx412_2 := (HB.out.cell (World.block_lt_of_cell? w _ hx412_2)).trans hx412_2; replace hx412_3 := (HB.out.cell (World.block_lt_of_cell? w _ hx412_3)).trans hx412_3; replace p412 := eq_true p412; replace q412 := eq_true q412
       go_wp2
       go_ret
       exact ⟨by first | rfl | (simp [errW_none, errW_some] <;> rfl) | (simp [*, errW_none, errW_some] <;> rfl), be_ HB.out⟩
      ·rw [if_neg c42] at H
       have c42b0 : (((rd_T74 l1_0 a2).f1) == 1) = false := beq_eq_false_iff_ne.mpr c42; have c42b1 : (((rd_T74 l1_0 a2).f1) != 1) = true := bne_iff_ne.mpr c42; obtain rfl := Option.some.inj H; have hnb45 := NB409_408.out; have hnc45 := NB408_409.out; have hcz46_0 : wc.cell? ⟨gb409, 0, none⟩ = some (.slice A1_0 l1_0.length c1_0) := (blk_cell BK409.out 0).trans rfl; have hcz46_1 : wc.cell? ⟨gb409, 1, none⟩ = some (.int .i64 a1_1) := (blk_cell BK409.out 1).trans rfl; have hfz46_0 := blk_frozen BK409.out 0; have hfz46_1 := blk_frozen BK409.out 1; have p412 : 0 ≤ (a2 : Int) := od_; have q412 : a2 < (l1_0.length : Int) := od_; obtain ⟨ad412, e412, hx412_0, hx412_1, hx412_2, hx412_3⟩ := at_T74 HR1_0.out a2 p412 q412; cases e412; replace hx412_0 := (HB.out.cell (World.block_lt_of_cell? w _ hx412_0)).trans hx412_0; replace hx412_1 := (HB.out.cell (World.block_lt_of_cell? w _ hx412_1)).trans hx412_1; replace hx412_2 := (HB.out.cell (World.block_lt_of_cell? w _ hx412_2)).trans hx412_2; replace hx412_3 := (HB.out.cell (World.block_lt_of_cell? w _ hx412_3)).trans hx412_3; replace p412 := eq_true p412; replace q412 := eq_true q412
       go_wp2
       go_ret
       exact ⟨by first | rfl | (simp [errW_none, errW_some] <;> rfl) | (simp [*, errW_none, errW_some] <;> rfl), be_ HB.out⟩
     ·rw [if_neg c41] at H
      exact absurd H (by simp)
    ·rw [if_neg c40] at H
     exact absurd H (by simp)

end Go.Proofs.Ytdnkbmjlcdddcaa.Q
