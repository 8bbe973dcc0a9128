import Derived.Test.YtajghkmjgedikaaS12
import Derived.Test.YtajghkmjgedikaaS6
import Derived.Test.YtajghkmjgedikaaB
import Derived.Test.YtajghkmjgedikaaFSessionOwners
namespace Go.Proofs.Ytajghkmjgedikaa.Q
open Go.RowKit Go.Proofs.YtajghkmjgedikaaW Go.Proofs.YtajghkmjgedikaaW.PrintWords Go.Proofs.YtajghkmjgedikaaW.PrintLast Go.Proofs.YtajghkmjgedikaaW.PrintMore
set_option linter.unusedVariables false
set_option linter.unusedSimpArgs false
theorem whoseT_cases (ls : Nat → List Int) (x : Int) : (whoseT ls x = -1 ∧ ∀ j, j < 16 → x ∉ ls j) ∨ ∃ j : Nat, j < 16 ∧ whoseT ls x = (j : Int) ∧ x ∈ ls j := by
  by_cases h : ∃ j, j < 16 ∧ x ∈ ls j
  · right
    have hd : ∀ j, Decidable (j < 16 ∧ x ∈ ls j) := fun j => inferInstance
    obtain ⟨j, ⟨h1, h2⟩, h3⟩ : ∃ j, (j < 16 ∧ x ∈ ls j) ∧ ∀ i, i < j → ¬ (i < 16 ∧ x ∈ ls i) := by
      have key : ∀ n : Nat, (∃ j, j < n ∧ j < 16 ∧ x ∈ ls j) → ∃ j, (j < 16 ∧ x ∈ ls j) ∧ ∀ i, i < j → ¬ (i < 16 ∧ x ∈ ls i) := by
        intro n
        induction n with
        | zero => rintro ⟨j, hj, _⟩; omega
        | succ n ih =>
          rintro ⟨j, hj, hh⟩
          by_cases h2 : ∃ j, j < n ∧ j < 16 ∧ x ∈ ls j
          · exact ih h2
          · exact ⟨j, hh, fun i hi hc => h2 ⟨i, by omega, hc⟩⟩
      obtain ⟨j, hj⟩ := h
      exact key (j + 1) ⟨j, by omega, hj⟩
    exact ⟨j, h1, whoseT_at h1 h2 (fun i hi hx => h3 i hi ⟨by omega, hx⟩), h2⟩
  · left
    have h2 : ∀ j, j < 16 → x ∉ ls j := fun j hj hx => h ⟨j, hj, hx⟩
    exact ⟨whoseT_none h2, h2⟩
theorem ne_28 {W : World} {g h : Nat} {c d : Array Value} (h1 : W.heap[g]? = some (.cells c 31 (0, 0))) (h2 : W.heap[h]? = some (.cells d 28 (0, 0))) : g ≠ h := fun e => by
  rw [e, h2] at h1; simp at h1
theorem two_al (W : World) (x : Int) : Kd.C (Kd.int .i64) (W.alloc (.cells #[.int .i64 x] 3)) (some ⟨W.heap.size, 0, none⟩) [x].length [x] ∧ Below W.heap.size W (W.alloc (.cells #[.int .i64 x] 3)) :=
  ⟨(Kd.R_reads' (mk_row (base := W.heap.size) (c := 1) (l := [x]) (Nat.le_refl _) (blk_new W (.cells #[.int .i64 x] 3)) (Nat.le_refl 1) (by decide) rfl rfl)).2.2, (Below.refl _ _).alloc (Nat.le_refl _) _⟩
def o_st : Nat → Int := upd (upd z_st 0 1) 1 1
def o_op : Nat → Bool := upd (upd z_op 0 true) 1 true
def Ow (w : World) (g4 g5 g7 : Nat) (wr : World) : Prop :=
  Below w.heap.size w wr ∧ w.heap.size ≤ g4 ∧ wr.heap[g5]? = some (.cells #[.int .i64 0, .int .i64 1] 31 (0, 0)) ∧ wr.heap[g7]? = some (.cells #[.int .i64 1, .int .i64 1] 31 (0, 0)) ∧ ∃ cs tx ls, wr.heap[g4]? = some (.cells cs 28 (0, 0)) ∧ Cells cs o_st o_op tx ∧ Rows3 wr ls tx ∧ SaneT o_st o_op ls
set_option maxRecDepth 100000 in
set_option maxHeartbeats 3200000 in
theorem owners_walk (A : Option Addr) (c : Nat) (l : List Int) (w : World) (hr : Kd.C (Kd.int .i64) w A l.length l) (hc : l.length ≤ c) :
    Calls Try.prog 5 #[.slice A l.length c] w fun e w' => e = .returned (.bool true) ∧ Below w.heap.size w w' := by
  have HR := Aside0.mk hr
  have HCC := Aside0.mk hc
  have hmax : l.length ≤ 9223372036854775807 := hr.2.1
  clear hr hc
  by_cases hlen : (l.length : Int) > 60
  · go_enter Try.func5, Try.ntmps5
    go_wp2_with (go_at_call 6; refine (awake_ok _).mono ?_; rintro e w1 ⟨rfl, hb1⟩; have HB1 := Aside0.mk hb1; clear hb1)
    go_ret
    exact ⟨rfl, HB1.out⟩
  have c0 : Cells Z48 z_st z_op (fun _ => .slice none 0 0) := z_cells
  have s0 : SaneT z_st z_op z_ls := z_sane
  have C0 := Aside0.mk c0
  have S0 := Aside0.mk s0
  clear c0 s0
  go_enter Try.func5, Try.ntmps5
  go_upto_region 5 with (first | (go_at_call 6; refine (awake_ok _).mono ?_; rintro e w1 ⟨rfl, hb1⟩; have HB1 := Aside0.mk hb1; clear hb1) | (go_at_call 7; refine (open_at Z48 z_st z_op z_ls _ C0.out S0.out _ (z_rows' _) 0 (by decide) ⟨rfl, by decide⟩ (fun j hj => by omega) 0 1 rfl rfl).mono ?_; rintro e w2 ⟨cs1, tx1, rfl, hc1, hr1, hs1, hb1⟩; have HC1 := Aside0.mk hc1; have HR1 := Aside0.mk hr1; have HS1 := Aside0.mk hs1; have HB2 := Aside0.mk (below_then HB1.out HB1.out.size hb1); clear hc1 hr1 hs1 hb1 HB1) | (refine st28 (.tmp 4) (.tmp 25) w2.heap.size cs1 Z48 (two_new w2).1 rfl HC1.out.size (rows_one HC1.out HR1.out) ?_; intro W2 hp2; have HP2 := Aside0.mk hp2; clear hp2) | (refine st31 (.tmp 5) (.tmp 26) (w2.heap.size + 1) 0 1 Z31 ((HP2.out.far _ (by omega)).trans (two_new w2).2.1) rfl ?_; intro W3 hp3; obtain ⟨t1, t2, t3⟩ := two_put HP2.out hp3; have T1 := Aside0.mk t1; have T2 := Aside0.mk t2; have HRR := Aside0.mk (HR1.out.below t3); have G4 := Aside0.mk HB2.out.size; have HB := Aside0.mk (below_then HB2.out HB2.out.size t3); clear t1 t2 t3 hp3 HP2 HB2 HR1))
  generalize w2.heap.size = g4 at *
  clear w1 w2 W2 C0 S0
  go_wp2_with (first | (refine ld28 (.tmp 4) g4 cs1 T1.out HC1.out.size ?_) | (go_at_call 7; refine (open_at cs1 _ _ _ _ HC1.out HS1.out _ HRR.out 1 (by decide) ⟨rfl, by decide⟩ (fun j hj hf => by (have e : j = 0 := (by omega)); subst e; exact absurd hf.1 (by decide)) 1 1 rfl rfl).mono ?_; rintro e w4 ⟨cs2, tx2, rfl, hc2, hr2, hs2, hb2⟩; have HC2 := Aside0.mk hc2; have HR2 := Aside0.mk hr2; have HS2 := Aside0.mk hs2; have HB2 := Aside0.mk (below_then HB.out HB.out.size hb2); have X1 := Aside0.mk (blk_alloc (blk_below T1.out hb2) (Obj.cells Z31 31)); have X2 := Aside0.mk (blk_alloc (blk_below T2.out hb2) (Obj.cells Z31 31)); have X3 := Aside0.mk (blk_new w4 (Obj.cells Z31 31)); have XB := Aside0.mk (HB2.out.alloc HB2.out.size (Obj.cells Z31 31)); have XR := Aside0.mk (hr2.below (below_alloc (Below.refl _ w4) (Obj.cells Z31 31))); have XG := Aside0.mk (Nat.lt_of_lt_of_le (blk_lt T2.out) hb2.size); clear hc2 hr2 hs2 hb2 HB2 T1 T2 HB HR2) | (refine st28 (.tmp 4) (.tmp 31) g4 cs2 cs1 X1.out HC1.out.size HC2.out.size (rows_one HC2.out XR.out) ?_; intro W5 hp5; have HP5 := Aside0.mk hp5; clear hp5) | (refine st31 (.tmp 7) (.tmp 32) w4.heap.size 1 1 Z31 ((HP5.out.far _ (by have := XG.out; omega)).trans X3.out) rfl ?_; intro W6 hp6; have hgg := XG.out; have HO := Aside0.mk (show Ow w g4 (g4 + 1) w4.heap.size W6 from ⟨hp6.below _ _ (by have := G4.out; omega) (HP5.out.below _ _ G4.out XB.out), G4.out, (hp6.far _ (by omega)).trans ((HP5.out.far _ (by omega)).trans X2.out), hp6.at_, cs2, tx2, _, (hp6.far _ (by omega)).trans HP5.out.at_, HC2.out, (XR.out.put X1.out (by decide) HP5.out).put ((HP5.out.far _ (by omega)).trans X3.out) (by decide) hp6, HS2.out⟩); clear hp6 hgg))
  generalize w4.heap.size = g7 at *
  generalize g4 + 1 = g5 at *
  clear X1 X2 X3 XB XR XG HP5 HC2 HS2 HC1 HS1 HRR w4 W5
  go_loopg [9] l.length (fun gg s9 wr => ∃ i : Nat, i ≤ l.length ∧ l.length - i ≤ gg ∧ s9 = .int .i64 i ∧ Aside0 (Ow w g4 g5 g7 wr))
  case atStart =>
    exact ⟨0, Nat.zero_le _, by omega, rfl, HO⟩
  case round =>
    obtain ⟨i, hi, hgi, rfl, HI⟩ := hrel
    clear HO
    by_cases hlt : i < l.length
    · obtain ⟨i1, i2, i3, i4, cs, tx, ls, i5, i6, i7, i8⟩ := HI.out
      obtain ⟨ad, rfl, hcl⟩ := Kd.at_int (Kd.C_below HR.out i1) (i : Int) (by omega) (by omega)
      rw [Int.toNat_natCast] at hcl
      have h63 := and_63 (rd l i)
      obtain ⟨x, hx⟩ : ∃ x, rd l i % 64 = x := ⟨_, rfl⟩
      have hx0 : 0 ≤ x ∧ x < 64 := by omega
      rw [hx] at h63
      clear hx
      generalize rd l i = y at hcl h63
      have I1 := Aside0.mk i1
      have I3 := Aside0.mk i3
      have I4 := Aside0.mk i4
      have I5 := Aside0.mk i5
      have HC := Aside0.mk i6
      have I7 := Aside0.mk i7
      have HS := Aside0.mk i8
      rcases whoseT_cases ls x with ⟨hw, hno⟩ | ⟨j, hj, hw, hin⟩
      · have HWH := Aside0.mk (fun w (hr : Rows3 w ls tx) => whose_at x cs _ _ ls tx i6 w hr _ hw)
        clear i1 i3 i4 i5 i6 i7 i8 HI hw
        go_upto_region 18 with (first | (refine ld28 (.tmp 4) g4 cs I5.out HC.out.size ?_) | (go_at_call 13; refine (HWH.out _ I7.out).mono ?_; clear HWH; rintro e w1 ⟨rfl, hb1⟩; have U1 := Aside0.mk (below_then I1.out I1.out.size hb1); have U3 := Aside0.mk (blk_below I3.out hb1); have U4 := Aside0.mk (blk_below I4.out hb1); have U5 := Aside0.mk (blk_below I5.out hb1); have U7 := Aside0.mk (I7.out.below hb1); clear hb1 I1 I3 I4 I5 I7 hcl))
        have c70 : ∀ {W : World}, W.heap[g7]? = some (.cells #[.int .i64 1, .int .i64 1] 31 (0, 0)) → W.cell? ⟨g7, 0, none⟩ = some (.int .i64 1) ∧ W.cell? ⟨g7, 1, none⟩ = some (.int .i64 1) := fun h => ⟨blk_cell h 0, blk_cell h 1⟩
        have C7 := Aside0.mk (fun W h => @c70 W h)
        clear c70
        have HOW := Aside0.mk (fun w (hr : Rows3 w ls tx) => own_at cs o_st o_op ls tx HC.out HS.out w hr 0 (by decide) rfl x hx0 hno 0 1 rfl rfl)
        have HNO := Aside0.mk hno
        clear hno
        go_upto_region 19 with (first | (refine ld28 (.tmp 4) g4 cs U5.out HC.out.size ?_) | (refine ld31 (.tmp 5) g5 0 1 U3.out ?_) | (go_at_call 14; refine (HOW.out _ U7.out).mono ?_; clear HOW; rintro e w2 ⟨cs2, tx2, rfl, hc2, hr2, hs2, hb2⟩; have HC2 := Aside0.mk hc2; have HR2 := Aside0.mk hr2; have HS2 := Aside0.mk hs2; have HB2 := Aside0.mk hb2; clear hc2 hr2 hs2 hb2) | (refine st28 (.tmp 15) (.tmp 89) w2.heap.size cs2 Z48 (blk_new w2 _) rfl HC2.out.size (rows_one HC2.out HR2.out) ?_; intro W3 hp3; obtain ⟨t1, t3⟩ := one_put hp3; have bb := below_then HB2.out HB2.out.size t3; have VN := Aside0.mk t1; have VR := Aside0.mk (HR2.out.below t3); have V1 := Aside0.mk (below_then U1.out U1.out.size bb); have V3 := Aside0.mk (blk_below U3.out bb); have V4 := Aside0.mk (blk_below U4.out bb); have V5 := Aside0.mk (blk_below U5.out bb); clear t1 t3 bb hp3 U1 U3 U4 U5 U7 HB2 HR2))
        generalize w2.heap.size = gn at *
        clear w1 w2
        have hwn : whoseT (upd ls 0 (insT x (ls 0))) x = 0 := whoseT_at (k := 0) (by decide) (by unfold upd; rw [if_pos rfl]; exact insT_mem.2 (.inl rfl)) (fun j hj => by omega)
        have hhn : decide (x ∈ upd ls 0 (insT x (ls 0)) 1) = false := decide_eq_false (HNO.out 1 (by decide))
        have HW2 := Aside0.mk (fun w (hr : Rows3 w (upd ls 0 (insT x (ls 0))) tx2) => whose_at x cs2 _ _ _ tx2 HC2.out w hr 0 hwn)
        have HH2 := Aside0.mk (fun w (hr : Rows3 w (upd ls 0 (insT x (ls 0))) tx2) => has_live cs2 _ _ _ tx2 HC2.out w hr 1 (by decide) rfl 1 1 x rfl rfl false hhn)
        clear hwn hhn
        generalize upd ls 0 (insT x (ls 0)) = ls2 at *
        go_upto_region 21 with (first | (refine ld28 (.tmp 15) gn cs2 VN.out HC2.out.size ?_) | (go_at_call 13; refine (HW2.out _ VR.out).mono ?_; clear HW2; rintro e w3 ⟨rfl, hb3⟩; have WN := Aside0.mk (blk_below VN.out hb3); have WR := Aside0.mk (VR.out.below hb3); have W1_ := Aside0.mk (below_then V1.out V1.out.size hb3); have W3_ := Aside0.mk (blk_below V3.out hb3); have W4_ := Aside0.mk (blk_below V4.out hb3); have W5_ := Aside0.mk (blk_below V5.out hb3); have d70 := (C7.out _ W4_.out).1; have d71 := (C7.out _ W4_.out).2; clear hb3 VN VR V1 V3 V4 V5; have VN := WN; have VR := WR; have V1 := W1_; have V3 := W3_; have V4 := W4_; have V5 := W5_; clear WN WR W1_ W3_ W4_ W5_) | (go_at_call 12; refine (HH2.out _ VR.out).mono ?_; clear HH2; rintro e w4 ⟨rfl, hb3⟩; have WN := Aside0.mk (blk_below VN.out hb3); have WR := Aside0.mk (VR.out.below hb3); have W1_ := Aside0.mk (below_then V1.out V1.out.size hb3); have W3_ := Aside0.mk (blk_below V3.out hb3); have W4_ := Aside0.mk (blk_below V4.out hb3); have W5_ := Aside0.mk (blk_below V5.out hb3); clear hb3 VN VR V1 V3 V4 V5 d70 d71; have VN := WN; have VR := WR; have V1 := W1_; have V3 := W3_; have V4 := W4_; have V5 := W5_; clear WN WR W1_ W3_ W4_ W5_))
        go_wp2_with (first | (refine ld28 (.tmp 15) gn cs2 VN.out HC2.out.size ?_) | (refine st28 (.tmp 4) (.tmp 105) g4 cs2 cs V5.out HC.out.size HC2.out.size (rows_one HC2.out VR.out) ?_; intro W9 hp9; have HO := Aside0.mk (show Ow w g4 g5 g7 W9 from ⟨hp9.below _ _ G4.out V1.out, G4.out, (hp9.far _ (ne_28 V3.out V5.out)).trans V3.out, (hp9.far _ (ne_28 V4.out V5.out)).trans V4.out, cs2, tx2, ls2, hp9.at_, HC2.out, VR.out.put V5.out (by decide) hp9, HS2.out⟩); clear hp9))
        go_roundg (l.length - (i + 1))
        case measure => omega
        case rel => exact ⟨i + 1, by omega, by omega, by go_num, HO⟩
      · have HWH := Aside0.mk (fun w (hr : Rows3 w ls tx) => whose_at x cs _ _ ls tx i6 w hr _ hw)
        have HOH := Aside0.mk (fun w (hr : Rows3 w ls tx) => own_had cs o_st o_op ls tx i6 i8 w hr 1 1 x hx0 (by decide) j hw)
        have hj0 : (0 : Int) ≤ (j : Int) := by omega
        have C7 := Aside0.mk (fun (W : World) (h : W.heap[g7]? = some (.cells #[.int .i64 1, .int .i64 1] 31 (0, 0))) => (⟨blk_cell h 0, blk_cell h 1⟩ : W.cell? ⟨g7, 0, none⟩ = some (.int .i64 1) ∧ W.cell? ⟨g7, 1, none⟩ = some (.int .i64 1)))
        have C5 := Aside0.mk (fun (W : World) (h : W.heap[g5]? = some (.cells #[.int .i64 0, .int .i64 1] 31 (0, 0))) => (⟨blk_cell h 0, blk_cell h 1⟩ : W.cell? ⟨g5, 0, none⟩ = some (.int .i64 0) ∧ W.cell? ⟨g5, 1, none⟩ = some (.int .i64 1)))
        have HLO := Aside0.mk (fun w (hr : Rows3 w ls tx) A c hc hts => lose_at cs o_st o_op ls tx i6 i8 w hr [x] A c hc hts)
        clear i1 i3 i4 i5 i6 i7 i8 HI hw hin
        go_upto_region 14 with (first | (refine ld28 (.tmp 4) g4 cs I5.out HC.out.size ?_) | (refine ld31 (.tmp 7) g7 1 1 I4.out ?_) | (go_at_call 13; refine (HWH.out _ I7.out).mono ?_; clear HWH; rintro e w1 ⟨rfl, hb1⟩; have U1 := Aside0.mk (below_then I1.out I1.out.size hb1); have U3 := Aside0.mk (blk_below I3.out hb1); have U4 := Aside0.mk (blk_below I4.out hb1); have U5 := Aside0.mk (blk_below I5.out hb1); have U7 := Aside0.mk (I7.out.below hb1); clear hb1 I1 I3 I4 I5 I7 hcl; have I1 := U1; have I3 := U3; have I4 := U4; have I5 := U5; have I7 := U7; clear U1 U3 U4 U5 U7) | (go_at_call 14; refine (HOH.out _ I7.out).mono ?_; clear HOH; rintro e w2 ⟨rfl, hb1⟩; have hbo := Aside0.mk hb1; clear hb1) | (refine st28 (.tmp 11) (.tmp 54) w2.heap.size Z48 Z48 (blk_new w2 _) rfl rfl z48_one ?_; intro W3 hp3; obtain ⟨t1, t3⟩ := one_put hp3; have bb := below_then hbo.out hbo.out.size t3; have V1 := Aside0.mk (below_then I1.out I1.out.size bb); have V3 := Aside0.mk (blk_below I3.out bb); have V4 := Aside0.mk (blk_below I4.out bb); have V5 := Aside0.mk (blk_below I5.out bb); have V7 := Aside0.mk (I7.out.below bb); clear t1 t3 bb hp3 I1 I3 I4 I5 I7 hbo))
        clear w1
        generalize w2.heap.size = gq at *
        clear w2
        have hal := two_al W3 x
        have HAL := Aside0.mk hal
        clear hal
        go_upto_region 15 with (first | (refine ld28 (.tmp 4) g4 cs V5.out HC.out.size ?_) | (go_at_call 15; refine (HLO.out _ (V7.out.below HAL.out.2) (some ⟨W3.heap.size, 0, none⟩) 1 (Nat.le_refl _) HAL.out.1).mono ?_; clear HLO; rintro e w4 ⟨cs3, tx3, rfl, hc3, hr3, hs3, hb3⟩; have bb := below_then HAL.out.2 HAL.out.2.size hb3; have HC3 := Aside0.mk hc3; have HR3 := Aside0.mk hr3; have HS3 := Aside0.mk hs3; have I1 := Aside0.mk (below_then V1.out V1.out.size bb); have I3 := Aside0.mk (blk_below V3.out bb); have I4 := Aside0.mk (blk_below V4.out bb); have I5 := Aside0.mk (blk_below V5.out bb); clear hc3 hr3 hs3 hb3 bb V1 V3 V4 V5 V7 HAL) | (refine st28 (.tmp 4) (.tmp 61) g4 cs3 cs I5.out HC.out.size HC3.out.size (rows_one HC3.out HR3.out) ?_; intro W5 hp5; have V1 := Aside0.mk (hp5.below _ _ G4.out I1.out); have V3 := Aside0.mk ((hp5.far _ (ne_28 I3.out I5.out)).trans I3.out); have V4 := Aside0.mk ((hp5.far _ (ne_28 I4.out I5.out)).trans I4.out); have V5 := Aside0.mk hp5.at_; have V7 := Aside0.mk (HR3.out.put I5.out (by decide) hp5); clear hp5 I1 I3 I4 I5 HR3))
        have hno : ∀ j, j < 16 → x ∉ cutT [x] ls 16 j := fun j hj h => by
          unfold cutT at h
          rw [if_pos hj] at h
          have := (List.mem_filter.1 h).2
          simp at this
        obtain ⟨ls3, hl3⟩ : ∃ ls3, cutT [x] ls 16 = ls3 := ⟨_, rfl⟩
        rw [hl3] at hno V7 HS3
        clear hl3
        have HOW := Aside0.mk (fun w (hr : Rows3 w ls3 tx3) => own_at cs3 o_st o_op ls3 tx3 HC3.out HS3.out w hr 1 (by decide) rfl x hx0 hno 1 1 rfl rfl)
        have HNO := Aside0.mk hno
        clear hno
        go_upto_region 16 with (first | (refine ld28 (.tmp 4) g4 cs3 V5.out HC3.out.size ?_) | (refine ld31 (.tmp 7) g7 1 1 V4.out ?_) | (go_at_call 14; refine (HOW.out _ V7.out).mono ?_; clear HOW; rintro e w6 ⟨cs6, tx6, rfl, hc6, hr6, hs6, hb6⟩; have HC6 := Aside0.mk hc6; have HR6 := Aside0.mk hr6; have HB6 := Aside0.mk hb6; clear hc6 hr6 hs6 hb6) | (refine st28 (.tmp 13) (.tmp 67) w6.heap.size cs6 Z48 (blk_new w6 _) rfl HC6.out.size (rows_one HC6.out HR6.out) ?_; intro W7 hp7; obtain ⟨t1, t3⟩ := one_put hp7; have bb := below_then HB6.out HB6.out.size t3; have I1 := Aside0.mk (below_then V1.out V1.out.size bb); have I3 := Aside0.mk (blk_below V3.out bb); have I4 := Aside0.mk (blk_below V4.out bb); have I5 := Aside0.mk (blk_below V5.out bb); have I7 := Aside0.mk (V7.out.below bb); have IN := Aside0.mk t1; have IR := Aside0.mk (HR6.out.below t3); clear t1 t3 bb hp7 V1 V3 V4 V5 V7 HR6 HB6))
        generalize w6.heap.size = gn at *
        clear w6 w4
        have h1 : decide (x ∈ upd ls3 1 (insT x (ls3 1)) 1) = true := decide_eq_true (by unfold upd; rw [if_pos rfl]; exact insT_mem.2 (.inl rfl))
        have h2 : decide (x ∈ upd ls3 1 (insT x (ls3 1)) 0) = false := decide_eq_false (HNO.out 0 (by decide))
        have HH1 := Aside0.mk (fun w (hr : Rows3 w (upd ls3 1 (insT x (ls3 1))) tx6) => has_live cs6 _ _ _ tx6 HC6.out w hr 1 (by decide) rfl 1 1 x rfl rfl true h1)
        have HH2 := Aside0.mk (fun w (hr : Rows3 w (upd ls3 1 (insT x (ls3 1))) tx6) => has_live cs6 _ _ _ tx6 HC6.out w hr 0 (by decide) rfl 0 1 x rfl rfl false h2)
        clear h1 h2
        generalize upd ls3 1 (insT x (ls3 1)) = ls6 at *
        have d70 := (C7.out _ I4.out).1
        have d71 := (C7.out _ I4.out).2
        go_wp2_with (first | (refine ld28 (.tmp 13) gn cs6 IN.out HC6.out.size ?_) | (go_at_call 12; refine (HH1.out _ IR.out).mono ?_; clear HH1; rintro e w8 ⟨rfl, hb8⟩; have V1 := Aside0.mk (below_then I1.out I1.out.size hb8); have V3 := Aside0.mk (blk_below I3.out hb8); have V4 := Aside0.mk (blk_below I4.out hb8); have V5 := Aside0.mk (blk_below I5.out hb8); have V7 := Aside0.mk (I7.out.below hb8); have VN := Aside0.mk (blk_below IN.out hb8); have VR := Aside0.mk (IR.out.below hb8); clear I1 I3 I4 I5 I7 IN IR hb8 d70 d71; have I1 := V1; have I3 := V3; have I4 := V4; have I5 := V5; have I7 := V7; have IN := VN; have IR := VR; clear V1 V3 V4 V5 V7 VN VR; have d50 := (C5.out _ I3.out).1; have d51 := (C5.out _ I3.out).2) | (go_at_call 12; refine (HH2.out _ IR.out).mono ?_; clear HH2; rintro e w9 ⟨rfl, hb8⟩; have HO := Aside0.mk (show Ow w g4 g5 g7 w9 from ⟨below_then I1.out I1.out.size hb8, G4.out, blk_below I3.out hb8, blk_below I4.out hb8, cs3, tx3, ls3, blk_below I5.out hb8, HC3.out, I7.out.below hb8, HS3.out⟩); clear I1 I3 I4 I5 I7 IN IR hb8))
        go_roundg (l.length - (i + 1))
        case measure => omega
        case rel => exact ⟨i + 1, by omega, by omega, by go_num, HO⟩
    · have : i = l.length := by omega
      subst this
      obtain ⟨i1, i2, i3, i4, cs, tx, ls, i5, i6, i7, i8⟩ := HI.out
      have I1 := Aside0.mk i1
      have I5 := Aside0.mk i5
      have I7 := Aside0.mk i7
      have HC := Aside0.mk i6
      have HSN := Aside0.mk (fun w (hr : Rows3 w ls tx) => sane_ok cs _ _ ls tx i6 i8 w hr)
      clear i1 i2 i3 i4 i5 i6 i7 i8 HI
      go_wp2_with (first | (refine ld28 (.tmp 4) g4 cs I5.out HC.out.size ?_) | (go_at_call 10; refine (HSN.out _ I7.out).mono ?_; clear HSN; rintro e w9 ⟨rfl, hb9⟩; have HB := Aside0.mk (below_then I1.out I1.out.size hb9); clear hb9))
      go_ret
      exact ⟨rfl, HB.out⟩
end Go.Proofs.Ytajghkmjgedikaa.Q
