import Derived.Test.YtajghkmjgedikaaS5
namespace Go.Proofs.Ytajghkmjgedikaa.Q
open Go.RowKit Go.Proofs.YtajghkmjgedikaaW Go.Proofs.YtajghkmjgedikaaW.PrintWords Go.Proofs.YtajghkmjgedikaaW.PrintLast Go.Proofs.YtajghkmjgedikaaW.PrintMore
set_option linter.unusedVariables false
set_option linter.unusedSimpArgs false
def z_st : Nat → Int := fun _ => 0
def z_op : Nat → Bool := fun _ => false
def z_ls : Nat → List Int := fun _ => []
theorem z_rows' (w : World) : Rows3 w z_ls (fun _ => .slice none 0 0) := z_rows w
set_option maxHeartbeats 3200000 in
theorem awake_ok (w : World) : Calls Try.prog 6 #[] w fun e w' => e = .returned (.bool true) ∧ Below w.heap.size w w' := by
  have c0 : Cells Z48 z_st z_op (fun _ => .slice none 0 0) := z_cells
  have s0 : SaneT z_st z_op z_ls := z_sane
  have C0 := Aside0.mk c0
  have S0 := Aside0.mk s0
  clear c0 s0
  go_enter Try.func6, Try.ntmps6
  go_upto_region 2 with (first | (go_at_call 7; refine (open_at Z48 z_st z_op z_ls _ C0.out S0.out _ (z_rows' _) 0 (by decide) ⟨rfl, by decide⟩ (fun j hj => by omega) 0 1 rfl rfl).mono ?_; rintro e w1 ⟨cs1, tx1, rfl, hc1, hr1, hs1, hb1⟩; have HC1 := Aside0.mk hc1; have HR1 := Aside0.mk hr1; have HS1 := Aside0.mk hs1; have HB1 := Aside0.mk hb1; clear hc1 hr1 hs1 hb1) | (refine st28 (.tmp 1) (.tmp 13) w1.heap.size cs1 Z48 (two_new w1).1 rfl HC1.out.size (rows_one HC1.out HR1.out) ?_; intro W2 hp2; have HP2 := Aside0.mk hp2; clear hp2) | (refine st31 (.tmp 2) (.tmp 14) (w1.heap.size + 1) 0 1 Z31 ((HP2.out.far _ (by omega)).trans (two_new w1).2.1) rfl ?_; intro W3 hp3; obtain ⟨t1, t2, t3⟩ := two_put HP2.out hp3; have T1 := Aside0.mk t1; have T2 := Aside0.mk t2; have HR := Aside0.mk (HR1.out.below t3); have HB := Aside0.mk (below_then HB1.out HB1.out.size t3); clear t1 t2 t3 hp3 HP2 HB1 HR1))
  generalize w1.heap.size = g1 at *
  clear w1 W2 C0 S0
  go_upto_region 3 with (first | (refine ld28 (.tmp 1) g1 cs1 T1.out HC1.out.size ?_) | (refine ld31 (.tmp 2) (g1 + 1) 0 1 T2.out ?_) | (go_at_call 8; refine (close_at cs1 _ _ _ _ HC1.out HS1.out _ HR.out 0 (by decide) rfl 0 1 rfl rfl).mono ?_; rintro e w4 ⟨cs2, tx2, v2, rfl, hc2, hr2, hv2, hs2, hb2⟩; have HC2 := Aside0.mk hc2; have HR2 := Aside0.mk hr2; have HS2 := Aside0.mk hs2; have HB2 := Aside0.mk (below_then HB.out HB.out.size hb2); have T3 := Aside0.mk (blk_below T1.out hb2); have T4 := Aside0.mk (blk_below T2.out hb2); clear hc2 hr2 hs2 hb2 hv2 T1 T2 HB HR HC1 HS1) | (refine st28 (.tmp 4) (.tmp 20) w4.heap.size cs2 Z48 (blk_new w4 _) rfl HC2.out.size (rows_one HC2.out HR2.out) ?_; intro W5 hp5; obtain ⟨t1, t3⟩ := one_put hp5; have T1 := Aside0.mk t1; have HR := Aside0.mk (HR2.out.below t3); have HB := Aside0.mk (below_then HB2.out HB2.out.size t3); have T2 := Aside0.mk (blk_below T4.out t3); clear t1 t3 hp5 HB2 HR2 T3 T4))
  generalize w4.heap.size = g2 at *
  clear w4
  go_upto_region 4 with (first | (refine ld28 (.tmp 4) g2 cs2 T1.out HC2.out.size ?_) | (go_at_call 7; refine (open_at cs2 _ _ _ _ HC2.out HS2.out _ HR.out 0 (by decide) ⟨rfl, by decide⟩ (fun j hj => by omega) 0 2 rfl rfl).mono ?_; rintro e w1 ⟨cs3, tx3, rfl, hc3, hr3, hs3, hb3⟩; have HC3 := Aside0.mk hc3; have HR3 := Aside0.mk hr3; have HB3 := Aside0.mk (below_then HB.out HB.out.size hb3); have T3 := Aside0.mk (blk_below T2.out hb3); clear hc3 hr3 hs3 hb3 HB HR T1 T2) | (refine st28 (.tmp 7) (.tmp 26) w1.heap.size cs3 Z48 (two_new w1).1 rfl HC3.out.size (rows_one HC3.out HR3.out) ?_; intro W2 hp2; have HP2 := Aside0.mk hp2; clear hp2) | (refine st31 (.tmp 8) (.tmp 27) (w1.heap.size + 1) 0 2 Z31 ((HP2.out.far _ (by omega)).trans (two_new w1).2.1) rfl ?_; intro W3 hp3; obtain ⟨t1, t2, t3⟩ := two_put HP2.out hp3; have T4 := Aside0.mk t1; have T5 := Aside0.mk t2; have HB := Aside0.mk (below_then HB3.out HB3.out.size t3); have T1 := Aside0.mk (blk_below T3.out t3); clear t1 t2 t3 hp3 HP2 HB3 HR3))
  generalize w1.heap.size = g3 at *
  clear T3 w1 W2 HS2 HC2
  have l1 : liveS (upd (upd z_st 0 1) 0 2) (upd (upd (upd z_op 0 true) 0 false) 0 true) 0 1 = false := by decide
  have l2 : liveS (upd (upd z_st 0 1) 0 2) (upd (upd (upd z_op 0 true) 0 false) 0 true) 0 2 = true := by decide
  have L1 := Aside0.mk (fun w => live_at cs3 _ _ _ HC3.out 0 1 w _ l1)
  have L2 := Aside0.mk (fun w => live_at cs3 _ _ _ HC3.out 0 2 w _ l2)
  clear l1 l2
  have c10 : W3.cell? ⟨g1 + 1, 0, none⟩ = some (.int .i64 0) := blk_cell T1.out 0
  have c11 : W3.cell? ⟨g1 + 1, 1, none⟩ = some (.int .i64 1) := blk_cell T1.out 1
  have c50 : W3.cell? ⟨g3 + 1, 0, none⟩ = some (.int .i64 0) := blk_cell T5.out 0
  have c51 : W3.cell? ⟨g3 + 1, 1, none⟩ = some (.int .i64 2) := blk_cell T5.out 1
  go_wp2_with (first | (refine ld28 (.tmp 7) g3 cs3 T4.out HC3.out.size ?_) | (go_at_call 9; refine (L1.out _).mono ?_; clear L1; rintro e w4 ⟨rfl, hb4⟩; clear c10 c11 c50 c51; have c50 : w4.cell? ⟨g3 + 1, 0, none⟩ = some (.int .i64 0) := blk_cell (blk_below T5.out hb4) 0; have c51 : w4.cell? ⟨g3 + 1, 1, none⟩ = some (.int .i64 2) := blk_cell (blk_below T5.out hb4) 1; have T4x := Aside0.mk (blk_below T4.out hb4); have HBx := Aside0.mk (below_then HB.out HB.out.size hb4); clear T1 T4 T5 HB hb4; have T4 := T4x; have HB := HBx; clear T4x HBx) | (go_at_call 9; refine (L2.out _).mono ?_; rintro e w4 ⟨rfl, hb4⟩; have HBx := Aside0.mk (below_then HB.out HB.out.size hb4); clear HB hb4; have HB := HBx; clear HBx))
  go_ret
  exact ⟨rfl, HB.out⟩
end Go.Proofs.Ytajghkmjgedikaa.Q
