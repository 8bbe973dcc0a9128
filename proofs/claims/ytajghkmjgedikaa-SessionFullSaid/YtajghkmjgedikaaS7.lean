import Derived.Test.YtajghkmjgedikaaS6
import Derived.Test.YtajghkmjgedikaaB
import Derived.Test.YtajghkmjgedikaaFSessionFull
namespace Go.Proofs.Ytajghkmjgedikaa.Q
open Go.RowKit Go.Proofs.YtajghkmjgedikaaW Go.Proofs.YtajghkmjgedikaaW.PrintWords Go.Proofs.YtajghkmjgedikaaW.PrintLast Go.Proofs.YtajghkmjgedikaaW.PrintMore
set_option linter.unusedVariables false
set_option linter.unusedSimpArgs false
def f_st (i : Nat) : Nat → Int := fun j => if j < i then 1 else 0
def f_op (i : Nat) : Nat → Bool := fun j => decide (j < i)
theorem f_st_succ (i : Nat) : upd (f_st i) i 1 = f_st (i + 1) := by
  funext j; unfold upd f_st; split
  · next e => subst e; simp
  · next e => split <;> split <;> first | rfl | omega
theorem f_op_succ (i : Nat) : upd (f_op i) i true = f_op (i + 1) := by
  funext j; unfold upd f_op; split
  · next e => subst e; simp
  · next e => rw [decide_eq_decide]; omega
def f_l (i : Nat) : List S31 := (List.range i).map (fun (j : Nat) => (⟨(j : Int), 1⟩ : S31))
theorem f_l_succ (i : Nat) : f_l i ++ [(⟨(i : Int), 1⟩ : S31)] = f_l (i + 1) := by unfold f_l; rw [List.range_succ, List.map_append]; rfl
theorem f_l_len (i : Nat) : (f_l i).length = i := by simp [f_l]
theorem R_put28 {w W : World} {base g : Nat} {ok : Nat → Prop} {v : Value} {l : List S31} {c cs : Array Value} (h : k31.R 31 w base ok v l) (hb : w.heap[g]? = some (.cells c 28 (0, 0))) (hp : Put w g cs 28 W) : k31.R 31 W base ok v l := by
  have h2 := Kd.R_types h hb (fun q hq => by
    have hq' : q ∈ [31] := hq
    have : q = 31 := by simpa using hq'
    omega)
  exact Kd.R_mono (Kd.R_step h2 (fun k hk _ => hp.far k hk.2)) (fun k hk => hk.1)
theorem Rows3.grown {ls : Nat → List Int} {tx : Nat → Value} {w W : World} {base : Nat} {ok : Nat → Prop} {v : Value} {l : List S31} (h : Rows3 w ls tx) (hv : k31.R 31 w base ok v l) (hg : w.grownBy W v.ownBlock) : Rows3 W ls tx := fun j hj =>
  Kd.R_over' (h j hj) (Kd.R_typed hv) (fun q hq => by
    have hq' : q ∈ [3] := hq
    have : q = 3 := by simpa using hq'
    rw [this]; decide) hg
def Ok7 (w : World) (g : Nat) (i : Nat) (v7 : Value) (wr : World) : Prop :=
  Below w.heap.size w wr ∧ w.heap.size ≤ g ∧ k31.R 31 wr w.heap.size (fun _ => True) v7 (f_l i) ∧ ∃ cs tx, wr.heap[g]? = some (.cells cs 28 (0, 0)) ∧ Cells cs (f_st i) (f_op i) tx ∧ Rows3 wr z_ls tx ∧ SaneT (f_st i) (f_op i) z_ls
theorem info31 : (Try.prog.info? 31).map (fun i => (i.zero, i.size, i.bytes)) = some (some (.agg #[(.int .i64 0), (.int .i64 0)]), 2, 16) := by kernel_rfl
theorem f_free (i : Nat) : freeAt (f_st i) (f_op i) i := ⟨by simp [f_op], by simp [f_st]⟩
theorem f_busy (i j : Nat) (h : j < i) : ¬ freeAt (f_st i) (f_op i) j := by
  rintro ⟨h1, _⟩
  simp [f_op] at h1
  omega
def Ok8 (w : World) (g gx q : Nat) (s : Int) (wr : World) : Prop :=
  Below w.heap.size w wr ∧ w.heap.size ≤ g ∧ w.heap.size ≤ gx ∧ wr.heap[gx]? = some (.cells #[.int .i64 (q : Int), .int .i64 s] 31 (0, 0)) ∧ ∃ cs tx st op ls, wr.heap[g]? = some (.cells cs 28 (0, 0)) ∧ Cells cs st op tx ∧ Rows3 wr ls tx ∧ SaneT st op ls ∧ (∀ j, j < 16 → op j = true) ∧ st q = s
set_option maxRecDepth 100000 in
set_option maxHeartbeats 3200000 in
theorem full_walk : sessionFull.Walk := by
  intro a0 a1 w hw0 hw1
  have W0 := Aside0.mk hw0
  have W1 := Aside0.mk hw1
  clear hw0 hw1
  go_enter Try.func3, Try.ntmps3
  go_wp2_with (first | (go_at_call 6; refine (awake_ok _).mono ?_; rintro e w1 ⟨rfl, hb1⟩; have HB1 := Aside0.mk hb1; clear hb1) | (refine st28 (.tmp 6) (.tmp 24) w1.heap.size Z48 Z48 (blk_new w1 _) rfl rfl z48_one ?_; intro W2 hp2; obtain ⟨t1, t3⟩ := one_put hp2; have hst : Ok7 w w1.heap.size 0 (.slice none 0 0) W2 := ⟨below_then HB1.out HB1.out.size t3, HB1.out.size, Kd.R_nil _ _ _ _ _, Z48, _, t1, z_cells, z_rows' _, z_sane⟩; have HST := Aside0.mk hst; clear hst t1 t3 hp2 HB1))
  generalize w1.heap.size = g6 at *
  clear w1
  go_loopg [7, 8] 16 (fun gg s7 s8 wr => ∃ i : Nat, i ≤ 16 ∧ 16 - i ≤ gg ∧ s8 = .int .i64 i ∧ Aside0 (Ok7 w g6 i s7 wr))
  case atStart =>
    exact ⟨0, Nat.zero_le _, by omega, rfl, HST⟩
  case round =>
    obtain ⟨i, hi, hgi, rfl, HI⟩ := hrel
    by_cases hlt : i < 16
    · obtain ⟨i1, i2, i3, cs, tx, i4, i5, i6, i7⟩ := HI.out
      have I1 := Aside0.mk i1
      have I2 := Aside0.mk i2
      have I3 := Aside0.mk i3
      have I4 := Aside0.mk i4
      have hop := Aside0.mk (fun w (hr : Rows3 w z_ls tx) => open_at cs _ _ _ tx i5 i7 w hr i hlt (f_free i) (fun j hj => f_busy i j hj) (i : Int) 1 rfl (by simp [f_st]))
      rw [f_st_succ, f_op_succ] at hop
      have I6 := Aside0.mk i6
      have hsz := Aside0.mk i5.size
      clear i1 i2 i3 i4 i5 i6 i7 HI
      go_upto_region 8 with (first | (refine ld28 (.tmp 6) g6 cs I4.out hsz.out ?_) | (go_at_call 7; refine (hop.out _ I6.out).mono ?_; rintro e w1 ⟨cs1, tx1, rfl, hc1, hr1, hs1, hb1⟩; have HC1 := Aside0.mk hc1; have HR1 := Aside0.mk hr1; have HS1 := Aside0.mk hs1; have HB1 := Aside0.mk hb1; clear hc1 hr1 hs1 hb1 hop) | (refine st28 (.tmp 9) (.tmp 32) w1.heap.size cs1 Z48 (two_new w1).1 rfl HC1.out.size (rows_one HC1.out HR1.out) ?_; intro W2 hp2; have HP2 := Aside0.mk hp2; clear hp2) | (refine st31 (.tmp 10) (.tmp 33) (w1.heap.size + 1) (i : Int) 1 Z31 ((HP2.out.far _ (by omega)).trans (two_new w1).2.1) rfl ?_; intro W3 hp3; obtain ⟨t1, t2, t3⟩ := two_put HP2.out hp3; have T1 := Aside0.mk t1; have T2 := Aside0.mk t2; have bb := below_then HB1.out HB1.out.size t3; have T6 := Aside0.mk (blk_below I4.out bb); have HR := Aside0.mk (HR1.out.below t3); have HB := Aside0.mk (below_then I1.out I1.out.size bb); have HV := Aside0.mk (Kd.R_below I3.out bb); have HG := Aside0.mk (show g6 < w1.heap.size from Nat.lt_of_lt_of_le (blk_lt I4.out) HB1.out.size); clear t1 t2 t3 bb hp3 HP2 HB1 HR1 I1 I3 I4 I6))
      generalize w1.heap.size = g1 at *
      clear w1 W2
      have c10 : W3.cell? ⟨g1 + 1, 0, none⟩ = some (.int .i64 (i : Int)) := blk_cell T2.out 0
      have c11 : W3.cell? ⟨g1 + 1, 1, none⟩ = some (.int .i64 1) := blk_cell T2.out 1
      go_upto_region 11 with (first | (refine ld28 (.tmp 9) g1 cs1 T1.out HC1.out.size ?_) | (refine st28 (.tmp 6) (.tmp 48) g6 cs1 cs T6.out hsz.out HC1.out.size (rows_one HC1.out HR.out) ?_; intro W4 hp4; have HP4 := Aside0.mk hp4; clear hp4 c10 c11; have c10 : W4.cell? ⟨g1 + 1, 0, none⟩ = some (.int .i64 (i : Int)) := blk_cell ((HP4.out.far _ (by have := HG.out; omega)).trans T2.out) 0; have c11 : W4.cell? ⟨g1 + 1, 1, none⟩ = some (.int .i64 1) := blk_cell ((HP4.out.far _ (by have := HG.out; omega)).trans T2.out) 1))
      have V4 := Aside0.mk (R_put28 HV.out T6.out HP4.out)
      have R4 := Aside0.mk (HR.out.put T6.out (by decide) HP4.out)
      have B4 := Aside0.mk (HP4.out.below _ _ I2.out HB.out)
      have G4 := Aside0.mk HP4.out.at_
      clear HP4 HV HR HB T6 T1 T2 HG hsz
      go_wp2_with (at_builtin; refine Kd.R_append k31 (w0 := w) w.heap.size rfl (.tmp 49) (.tmp 51) 29 31 (.agg #[(.int .i64 0), (.int .i64 0)]) 16 rfl Try.underlying29 info31 rfl (by decide) (by omega) u7 (f_l i) (⟨(i : Int), 1⟩ : S31) [.int .i64 (i : Int), .int .i64 1] (fun _ => True) (fun _ => False) rfl rfl ?aP (fun _ hk => hk.elim) ?aF ?aO ?aB ?aS ?aL ?_; (case aP => exact k31_mkM _ _ _ (⟨(i : Int), 1⟩ : S31)); (case aF => exact (fun _ _ => trivial)); (case aO => exact V4.out); (case aB => exact B4.out); (case aS => exact B4.out.size); (case aL => rw [f_l_len]; omega); intro v5 w5 ho hb hg hat; rw [f_l_succ] at ho; have hne := Kd.R_ne V4.out G4.out (by decide); have HX := Aside0.mk (show Ok7 w g6 (i + 1) v5 w5 from ⟨hb, I2.out, ho, cs1, tx1, (hg.block _ (blk_lt G4.out) hne).trans G4.out, HC1.out, Rows3.grown R4.out V4.out hg, HS1.out⟩); clear ho hb hg hat hne)
      go_roundg (16 - (i + 1))
      case measure => omega
      case rel => exact ⟨i + 1, by omega, by omega, by go_num, HX⟩
    · have : i = 16 := by omega
      subst this
      obtain ⟨i1, i2, i3, cs, tx, i4, i5, i6, i7⟩ := HI.out
      have I1 := Aside0.mk i1
      have I2 := Aside0.mk i2
      have I3 := Aside0.mk i3
      have I4 := Aside0.mk i4
      have hop := Aside0.mk (fun w (hr : Rows3 w z_ls tx) => open_full cs _ _ _ tx i5 i7 w hr (fun j hj => f_busy 16 j hj))
      have I6 := Aside0.mk i6
      have HC := Aside0.mk i5
      have HS := Aside0.mk i7
      clear i1 i2 i3 i4 i5 i6 i7 HI
      go_upto_region 13 with (first | (refine ld28 (.tmp 6) g6 cs I4.out HC.out.size ?_) | (go_at_call 7; refine (hop.out _ I6.out).mono ?_; rintro e w1 ⟨rfl, hb1⟩; have HB1 := Aside0.mk hb1; clear hb1 hop) | (refine st28 (.tmp 12) (.tmp 56) w1.heap.size Z48 Z48 (two_new w1).1 rfl rfl z48_one ?_; intro W2 hp2; have HP2 := Aside0.mk hp2; clear hp2) | (refine st31 (.tmp 13) (.tmp 57) (w1.heap.size + 1) 0 0 Z31 ((HP2.out.far _ (by omega)).trans (two_new w1).2.1) rfl ?_; intro W3 hp3; obtain ⟨t1, t2, t3⟩ := two_put HP2.out hp3; have bb := below_then HB1.out HB1.out.size t3; have T6 := Aside0.mk (blk_below I4.out bb); have HR := Aside0.mk (I6.out.below bb); have HB := Aside0.mk (below_then I1.out I1.out.size bb); have HV := Aside0.mk (Kd.R_below I3.out bb); clear t1 t2 t3 bb hp3 HP2 HB1 I1 I3 I4 I6))
      generalize w1.heap.size = g1 at *
      clear w1 W2
      have hq0 := and_15 a1
      have hq1 : 0 ≤ a1 % 16 ∧ a1 % 16 < 16 := by omega
      obtain ⟨q, hq⟩ : ∃ q : Nat, a1 % 16 = (q : Int) := ⟨(a1 % 16).toNat, by omega⟩
      rw [hq] at hq0 hq1
      have hq16 : q < 16 := by omega
      clear hq
      obtain ⟨A, c, rfl, hc16, hc⟩ := Kd.R_reads HV.out
      obtain ⟨ad, rfl, e1, e2⟩ := at_T31 hc (q : Int) (by omega) (by rw [f_l_len]; omega)
      have hrd : rd_T31 (f_l 16) (q : Int) = ⟨(q : Int), 1⟩ := by
        unfold rd_T31 f_l
        rw [Int.toNat_natCast, List.getD_eq_getElem?_getD, List.getElem?_map, List.getElem?_range hq16]
        rfl
      rw [hrd, Int.toNat_natCast] at e1 e2
      rw [f_l_len] at hc16 ⊢
      clear hrd hc HV
      simp only at e1 e2
      go_wp2_with (refine st31 (.tmp 15) (.tmp 63) W3.heap.size (q : Int) 1 Z31 (blk_new W3 _) rfl ?_; intro W4 hp4; have HP4 := Aside0.mk hp4; clear hp4 e1 e2)
      have hu : Ok8 w g6 W3.heap.size q 1 W4 := by
        have hal : Below W3.heap.size W3 (W3.alloc (Obj.cells Z31 31)) := (Below.refl _ _).alloc (Nat.le_refl _) _
        have hbb : Below W3.heap.size W3 W4 := HP4.out.below _ _ (Nat.le_refl _) hal
        refine ⟨below_then HB.out HB.out.size hbb, I2.out, HB.out.size, HP4.out.at_, cs, tx, _, _, _, blk_below T6.out hbb, HC.out, HR.out.below hbb, HS.out, fun j hj => by simp [f_op]; omega, by simp [f_st]; omega⟩
      have HU := Aside0.mk hu
      generalize W3.heap.size = gx at *
      have hm0 := and_7 a0
      obtain ⟨m, hm, hm8⟩ : ∃ m : Nat, a0 % 8 = (m : Int) ∧ m < 8 := ⟨(a0 % 8).toNat, by omega, by omega⟩
      rw [hm] at hm0
      clear hu hm HP4 HC HS HR HB T6 I2 hq0 hc16 W0 W1 hlt hi hgi HST
      go_loopg [16] 9 (fun gg s16 wr => ∃ (i : Nat) (s : Int), i ≤ 1 + m ∧ 9 - i ≤ gg ∧ s16 = .int .i64 i ∧ s = (i : Int) + 1 ∧ Aside0 (Ok8 w g6 gx q s wr))
      case atStart =>
        exact ⟨0, 1, by omega, by omega, rfl, by omega, HU⟩
      case round =>
        obtain ⟨i, s, hi, hgi, rfl, hs, HI⟩ := hrel
        have hw1 : IntKind.i64.wrap (1 + (m : Int)) = 1 + (m : Int) := by rw [IntKind.wrap_i64]; omega
        by_cases hlt : (i : Int) < 1 + (m : Int)
        · obtain ⟨i1, i2, i2', i3, cs, tx, st, op, ls, i4, i5, i6, i7, i8, i9⟩ := HI.out
          have I1 := Aside0.mk i1
          have I2 := Aside0.mk i2
          have I2' := Aside0.mk i2'
          have I3 := Aside0.mk i3
          have I4 := Aside0.mk i4
          have I6 := Aside0.mk i6
          have HC := Aside0.mk i5
          have I8 := Aside0.mk i8
          have I9 := Aside0.mk i9
          have hcl := Aside0.mk (fun w (hr : Rows3 w ls tx) => close_at cs st op ls tx i5 i7 w hr q hq16 (i8 q hq16) (q : Int) s rfl i9)
          have hss := Aside0.mk hs
          have hne : gx ≠ g6 := fun e => by rw [e, i4] at i3; simp at i3
          have c15 : wr.cell? ⟨gx, 0, none⟩ = some (.int .i64 (q : Int)) := blk_cell i3 0
          have c16 : wr.cell? ⟨gx, 1, none⟩ = some (.int .i64 s) := blk_cell i3 1
          have hs9 : 1 ≤ s ∧ s ≤ 9 := by omega
          have NE := Aside0.mk hne
          clear i1 i2 i2' i3 i4 i5 i6 i7 i8 i9 HI hs hne HU
          go_upto_region 18 with (first | (refine ld28 (.tmp 6) g6 cs I4.out HC.out.size ?_) | (go_at_call 8; refine (hcl.out _ I6.out).mono ?_; clear hcl; rintro e w1 ⟨cs1, tx1, v1, rfl, hc1, hr1, hrv, hs1, hb1⟩; have HC1 := Aside0.mk hc1; have HR1 := Aside0.mk hr1; have HS1 := Aside0.mk hs1; have HB1 := Aside0.mk hb1; clear hc1 hr1 hrv hs1 hb1 c15 c16) | (refine st28 (.tmp 17) (.tmp 75) w1.heap.size cs1 Z48 (blk_new w1 _) rfl HC1.out.size (rows_one HC1.out HR1.out) ?_; intro W2 hp2; obtain ⟨t1, t3⟩ := one_put hp2; have bb := below_then HB1.out HB1.out.size t3; have T1 := Aside0.mk t1; have HR := Aside0.mk (HR1.out.below t3); have HB := Aside0.mk (below_then I1.out I1.out.size bb); have T6 := Aside0.mk (blk_below I4.out bb); have TX := Aside0.mk (blk_below I3.out bb); clear t1 t3 hp2 bb HB1 HR1 I1 I4 I3 I6))
          generalize w1.heap.size = g1 at *
          clear w1
          have hop := Aside0.mk (fun w (hr : Rows3 w (upd ls q []) tx1) => open_at cs1 st (upd op q false) _ tx1 HC1.out HS1.out w hr q hq16 ⟨by simp [upd], by rw [I9.out]; omega⟩ (fun j hj hf => by
            have h1 := hf.1
            unfold upd at h1
            rw [if_neg (by omega), I8.out j (by omega)] at h1
            cases h1) (q : Int) (s + 1) rfl (by rw [I9.out]))
          go_upto_region 19 with (first | (refine ld28 (.tmp 17) g1 cs1 T1.out HC1.out.size ?_) | (go_at_call 7; refine (hop.out _ HR.out).mono ?_; clear hop; rintro e w1 ⟨cs2, tx2, rfl, hc1, hr1, hs1, hb1⟩; have HC2 := Aside0.mk hc1; have HR1 := Aside0.mk hr1; have HS2 := Aside0.mk hs1; have HB1 := Aside0.mk hb1; clear hc1 hr1 hs1 hb1) | (refine st28 (.tmp 20) (.tmp 81) w1.heap.size cs2 Z48 (two_new w1).1 rfl HC2.out.size (rows_one HC2.out HR1.out) ?_; intro W5 hp2; have HP2 := Aside0.mk hp2; clear hp2) | (refine st31 (.tmp 21) (.tmp 82) (w1.heap.size + 1) (q : Int) (s + 1) Z31 ((HP2.out.far _ (by omega)).trans (two_new w1).2.1) rfl ?_; intro W6 hp3; obtain ⟨t1, t2, t3⟩ := two_put HP2.out hp3; have bb := below_then HB1.out HB1.out.size t3; have U1 := Aside0.mk t1; have U2 := Aside0.mk t2; have U6 := Aside0.mk (blk_below T6.out bb); have UX := Aside0.mk (blk_below TX.out bb); have UR := Aside0.mk (HR1.out.below t3); have UB := Aside0.mk (below_then HB.out HB.out.size bb); have G1 := Aside0.mk (show g6 < w1.heap.size from Nat.lt_of_lt_of_le (blk_lt T6.out) HB1.out.size); have G2 := Aside0.mk (show gx < w1.heap.size from Nat.lt_of_lt_of_le (blk_lt TX.out) HB1.out.size); clear t1 t2 t3 bb hp3 HP2 HB1 HR1 HR HB T6 TX T1))
          generalize w1.heap.size = g2 at *
          clear w1 W5 W2 HC1 HS1
          have hlv : liveS (upd st q (s + 1)) (upd (upd op q false) q true) (q : Int) s = false := by
            unfold liveS
            have : upd st q (s + 1) q = s + 1 := by simp [upd]
            simp only [Int.toNat_natCast, this]
            have h2 : decide (s + 1 = s) = false := by rw [decide_eq_false_iff_not]; omega
            rw [h2, Bool.and_false]
          have hl := Aside0.mk (fun w => live_at cs2 _ _ _ HC2.out (q : Int) s w _ hlv)
          clear hlv
          have c15 : W6.cell? ⟨gx, 0, none⟩ = some (.int .i64 (q : Int)) := blk_cell UX.out 0
          have c16 : W6.cell? ⟨gx, 1, none⟩ = some (.int .i64 s) := blk_cell UX.out 1
          have c21 : W6.cell? ⟨g2 + 1, 0, none⟩ = some (.int .i64 (q : Int)) := blk_cell U2.out 0
          have c22 : W6.cell? ⟨g2 + 1, 1, none⟩ = some (.int .i64 (s + 1)) := blk_cell U2.out 1
          go_upto_region 21 with (first | (refine ld28 (.tmp 20) g2 cs2 U1.out HC2.out.size ?_) | (go_at_call 9; refine (hl.out _).mono ?_; clear hl; rintro e w7 ⟨rfl, hb7⟩; have V1 := Aside0.mk (blk_below U1.out hb7); have V2 := Aside0.mk (blk_below U2.out hb7); have V6 := Aside0.mk (blk_below U6.out hb7); have VX := Aside0.mk (blk_below UX.out hb7); have VR := Aside0.mk (UR.out.below hb7); have VB := Aside0.mk (below_then UB.out UB.out.size hb7); clear c15 c16 c21 c22 U1 U2 U6 UX UR UB hb7))
          have hu5 : (upd (upd op q false) q true) = op := by
            funext j; unfold upd; split
            · next e => subst e; exact (I8.out j hq16).symm
            · rfl
          rw [hu5] at HC2 HS2
          clear hu5
          go_wp2_with (first | (refine ld28 (.tmp 20) g2 cs2 V1.out HC2.out.size ?_) | (refine st28 (.tmp 6) (.tmp 110) g6 cs2 cs V6.out HC.out.size HC2.out.size (rows_one HC2.out VR.out) ?_; intro W8 hp8; have hg1 := G1.out; have hg2 := G2.out; have d21 : W8.cell? ⟨g2 + 1, 0, none⟩ = some (.int .i64 (q : Int)) := blk_cell ((hp8.far _ (by omega)).trans V2.out) 0; have d22 : W8.cell? ⟨g2 + 1, 1, none⟩ = some (.int .i64 (s + 1)) := blk_cell ((hp8.far _ (by omega)).trans V2.out) 1; have X1 := Aside0.mk (hp8.at_); have XX := Aside0.mk ((hp8.far _ NE.out).trans VX.out); have XR := Aside0.mk (VR.out.put V6.out (by decide) hp8); have XB := Aside0.mk (hp8.below _ _ I2.out VB.out); clear hp8 hg1 hg2 V1 V2 V6 VX VR VB) | (refine st31 (.tmp 15) (.tmp 111) gx (q : Int) (s + 1) _ XX.out rfl ?_; intro W9 hp9; have HX := Aside0.mk (show Ok8 w g6 gx q (s + 1) W9 from ⟨hp9.below _ _ I2'.out XB.out, I2.out, I2'.out, hp9.at_, cs2, tx2, _, _, _, (hp9.far _ (fun e => NE.out e.symm)).trans X1.out, HC2.out, XR.out.put XX.out (by decide) hp9, HS2.out, I8.out, by simp [upd]⟩); clear hp9 XB XR XX X1 d21 d22))
          go_roundg (9 - (i + 1))
          case measure => omega
          case rel => exact ⟨i + 1, s + 1, by omega, by omega, by go_num, by have := hss.out; omega, HX⟩
        · have : i = 1 + m := by omega
          subst this
          obtain ⟨i1, i2, i2', i3, cs, tx, st, op, ls, i4, i5, i6, i7, i8, i9⟩ := HI.out
          have I1 := Aside0.mk i1
          have I4 := Aside0.mk i4
          have I6 := Aside0.mk i6
          have HC := Aside0.mk i5
          have hlv : liveS st op (q : Int) s = true := by rw [← i9]; exact liveS_true hq16 (i8 q hq16)
          have hl := Aside0.mk (fun w => live_at cs _ _ _ i5 (q : Int) s w _ hlv)
          have hsn := Aside0.mk (fun w (hr : Rows3 w ls tx) => sane_ok cs st op ls tx i5 i7 w hr)
          have c15 : wr.cell? ⟨gx, 0, none⟩ = some (.int .i64 (q : Int)) := blk_cell i3 0
          have c16 : wr.cell? ⟨gx, 1, none⟩ = some (.int .i64 s) := blk_cell i3 1
          clear i1 i2 i2' i3 i4 i5 i6 i7 i8 i9 HI HU hlv hs
          go_wp2_with (first | (refine ld28 (.tmp 6) g6 cs I4.out HC.out.size ?_) | (go_at_call 9; refine (hl.out _).mono ?_; clear hl; rintro e w7 ⟨rfl, hb7⟩; have V4 := Aside0.mk (blk_below I4.out hb7); have V6 := Aside0.mk (I6.out.below hb7); have VB := Aside0.mk (below_then I1.out I1.out.size hb7); clear hb7 I1 I4 I6 c15 c16; have I1 := VB; have I4 := V4; have I6 := V6; clear V4 VB V6) | (go_at_call 10; refine (hsn.out _ I6.out).mono ?_; clear hsn; rintro e w8 ⟨rfl, hb8⟩; have VB := Aside0.mk (below_then I1.out I1.out.size hb8); clear hb8))
          go_ret
          exact ⟨rfl, VB.out⟩
end Go.Proofs.Ytajghkmjgedikaa.Q
