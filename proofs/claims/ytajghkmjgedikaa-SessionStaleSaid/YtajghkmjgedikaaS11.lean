import Derived.Test.YtajghkmjgedikaaS10
namespace Go.Proofs.Ytajghkmjgedikaa.Q
open Go.RowKit Go.Proofs.YtajghkmjgedikaaW Go.Proofs.YtajghkmjgedikaaW.PrintWords Go.Proofs.YtajghkmjgedikaaW.PrintLast Go.Proofs.YtajghkmjgedikaaW.PrintMore
set_option linter.unusedVariables false
set_option linter.unusedSimpArgs false
theorem SaneT.owned {st : Nat → Int} {op : Nat → Bool} {ls : Nat → List Int} (h : SaneT st op ls) {k : Nat} (hk : k < 16) (ho : op k = true) {x : Int} (h0 : 0 ≤ x ∧ x < 64) (hx : ∀ j, j < 16 → x ∉ ls j) : SaneT st op (upd ls k (insT x (ls k))) := by
  refine ⟨h.stamp, fun i hi hs => ?_, fun i hi => ?_, fun i j y hi hj h1 h2 => ?_⟩
  · unfold upd
    split
    · next e => subst e; rw [ho] at hs; cases hs
    · exact h.shut i hi hs
  · unfold upd
    split
    · exact insT_ok (h.rows k hk) (hx k hk) h0
    · exact h.rows i hi
  · unfold upd at h1 h2
    have hm : ∀ i, i < 16 → y ∈ (if i = k then insT x (ls k) else ls i) → (y = x ∧ i = k) ∨ y ∈ ls i := by
      intro i hi h
      split at h
      · next e =>
        rcases insT_mem.1 h with h | h
        · exact .inl ⟨h, e⟩
        · exact .inr (e ▸ h)
      · exact .inr h
    rcases hm i hi h1 with ⟨e1, e2⟩ | m1
    · rcases hm j hj h2 with ⟨e3, e4⟩ | m2
      · omega
      · subst e1; exact absurd m2 (hx j hj)
    · rcases hm j hj h2 with ⟨e3, e4⟩ | m2
      · subst e3; exact absurd m1 (hx i hi)
      · exact h.one i j y hi hj m1 m2
theorem cells_tx {cs : Array Value} {st : Nat → Int} {op : Nat → Bool} {tx : Nat → Value} (h : Cells cs st op tx) {k : Nat} (hk : k < 16) (v : Value) : Cells (cs.setIfInBounds (k * 3 + 2) v) st op (upd tx k v) := by
  have hs := h.size
  refine ⟨by simp [hs], fun i hi => ?_, fun i hi => ?_, fun i hi => ?_⟩
  · rw [Array.getElem?_setIfInBounds, if_neg (by omega)]; exact h.stamp i hi
  · rw [Array.getElem?_setIfInBounds, if_neg (by omega)]; exact h.opened i hi
  · rw [Array.getElem?_setIfInBounds]
    unfold upd
    by_cases e : i = k
    · subst e; rw [if_pos rfl, if_pos (by omega), if_pos rfl]
    · rw [if_neg (by omega), if_neg e]; exact h.txs i hi
theorem By.tx {w : World} {cs Z : Array Value} {a b : Int} {W : World} (h : By w cs a b Z W) (j : Nat) (v : Value) : By w (cs.setIfInBounds j v) a b Z (W.setCell ⟨w.heap.size, j, none⟩ v) :=
  ⟨blk_set h.b0 j v, blk_far h.b1 (by show _ ≠ w.heap.size; omega) v, blk_far h.b2 (by show _ ≠ w.heap.size; omega) v, h.be.setCell (Nat.le_refl _) v⟩
set_option maxRecDepth 100000 in
set_option maxHeartbeats 3200000 in
theorem own_ok (cs : Array Value) (st : Nat → Int) (op : Nat → Bool) (ls : Nat → List Int) (tx : Nat → Value) (h : Cells cs st op tx) (hsn : SaneT st op ls) (w : World) (hrow : Rows3 w ls tx) (k : Nat) (hk : k < 16) (ho : op k = true) (x : Int) (h0 : 0 ≤ x ∧ x < 64) (hx : ∀ j, j < 16 → x ∉ ls j) :
    Calls Try.prog 14 #[.agg cs, .agg #[.int .i64 (k : Int), .int .i64 (st k)], .int .i64 x] w fun e w' => ∃ cs' tx', e = .returned (.tuple #[.agg cs', .int .i64 0]) ∧ Cells cs' st op tx' ∧ Rows3 w' (upd ls k (insT x (ls k))) tx' ∧ NewT w tx tx' ∧ Below w.heap.size w w' := by
  have hlive := fun w => live_any cs st op tx h (k : Int) (st k) w
  rw [liveS_true hk ho] at hlive
  have hkl := okL_short (hsn.rows k hk)
  obtain ⟨A, c, e5, e6, e7⟩ := (hrow k hk).reads
  have HRK := Aside0.mk e7
  have HC1 := Aside0.mk (fun w (hr : Kd.C (Kd.int .i64) w A (ls k).length (ls k)) => clone_int A c (ls k) w hr e6 (by omega))
  have hsr := Aside0.mk (fun w v A c hc hr => search_int (ls k) x v w (hsn.rows k hk).1 (by omega) A c hc hr)
  have HRW := Aside0.mk hrow
  have HCEL := Aside0.mk h
  have HN := Aside0.mk (fun w (hr : Rows3 w ls tx) => sane_ok cs st op ls tx h hsn w hr)
  have HWH := Aside0.mk (fun w (hr : Rows3 w ls tx) => whose_at x cs st op ls tx h w hr _ (whoseT_none hx))
  have HL := Aside0.mk hlive
  have e2 := h.txs k hk
  rw [e5] at e2
  have E0 := Aside0.mk (h.stamp k hk)
  have E1 := Aside0.mk (h.opened k hk)
  have E2 := Aside0.mk e2
  have HZ := Aside0.mk h.size
  clear e7 e6 hrow hsn h hlive ho e2 e5
  obtain ⟨b, hb⟩ : ∃ b, st k = b := ⟨_, rfl⟩
  rw [hb] at HL E0 ⊢
  have HX := Aside0.mk (By.start w cs Z48 (k : Int) b)
  have HBB := Aside0.mk hb
  obtain ⟨l, hl⟩ : ∃ l, ls k = l := ⟨_, rfl⟩
  rw [hl] at HC1 E2 HRK hsr hkl ⊢
  have HLL := Aside0.mk hl
  clear hl hb
  have HX0 := Aside0.mk hx
  clear hx
  go_enter Try.func14, Try.ntmps14
  go_upto_region 8 with (first | (refine ld28 (.tmp 3) w.heap.size cs HX.out.b0 HZ.out ?_) | (refine ld31 (.tmp 4) (w.heap.size + 1) (k : Int) b HX.out.b1 ?_) | (go_at_call 10; refine (HN.out _ (HRW.out.below HX.out.be)).mono ?_; clear HN; rintro e w1 ⟨rfl, hb1⟩; have HX1 := Aside0.mk (HX.out.step hb1); clear hb1 HX; have HX := HX1; clear HX1) | (go_at_call 9; refine (HL.out _).mono ?_; clear HL; rintro e w2 ⟨rfl, hb1⟩; have HX1 := Aside0.mk (HX.out.step hb1); clear hb1 HX; have HX := HX1; clear HX1) | (go_at_call 13; refine (HWH.out _ (HRW.out.below HX.out.be)).mono ?_; clear HWH; rintro e w3 ⟨rfl, hb1⟩; have HX1 := Aside0.mk (HX.out.step hb1); clear hb1 HX; have HX := HX1; clear HX1; have f1 : w3.cell? ⟨w.heap.size + 1, 0, none⟩ = some (.int .i64 (k : Int)) := blk_cell HX.out.b1 0; have f2 : w3.cell? ⟨w.heap.size, k * 3 + 2, none⟩ = some (.slice A l.length c) := (blk_cell HX.out.b0 _).trans E2.out) | (go_at_call 16; refine (HC1.out _ (Kd.C_below HRK.out HX.out.be)).mono ?_; rintro e w4 ⟨v4, rfl, ho4, hb4⟩; have HO := Aside0.mk ho4; have HG := Aside0.mk (blk_lt HX.out.b2); clear ho4 f1 f2; have HX3 := HX; have HX1 := Aside0.mk (HX.out.step hb4); have HB4 := Aside0.mk hb4; clear hb4 HX; have HX := HX1; clear HX1))
  obtain ⟨A4, c4, rfl, hc4, hr4⟩ := Kd.R_reads HO.out
  obtain ⟨i, bb, hi, hins, hcall⟩ := hsr.out w4 (.slice A4 l.length c4) A4 c4 hc4 hr4
  have HINS := Aside0.mk hins
  have HCALL := Aside0.mk hcall
  have HIL := Aside0.mk hi
  clear hins hcall hi hr4 hc4 hsr
  go_upto_region 9 with (go_at_call 22; refine HCALL.out.mono ?_; clear HCALL; rintro e w5 ⟨rfl, hd5⟩; have hb5 := hd5.below; have HX1 := Aside0.mk (HX.out.step hb5); have HO1 := Aside0.mk (Kd.R_below HO.out hb5); have HB5 := Aside0.mk (below_then HB4.out HB4.out.size hb5); clear hb5 hd5 HX HO HB4; have HX := HX1; have HO := HO1; clear HX1 HO1)
  have hbx := HX.out.b0
  have HXD := Aside0.mk (HX.out.step (below_drew1 (Below.refl _ _)))
  have HOD := Aside0.mk (Kd.R_drew HO.out)
  have HBD := Aside0.mk (below_drew1 HB5.out)
  refine start_ (n := 11) (S := fun w' => w'.cell? ⟨w.heap.size + 1, 0, none⟩ = some (.int .i64 (k : Int))) (ds := [10]) #[false, false, false, false, false, false, false, false, false, false, false] rfl rfl rfl (blk_cell HXD.out.b1 0) (fun hHeld => ?_)
  refine with_tabW reg14.tab9 reg14.bits9 (fun HT_ HW_ => ?_)
  clear HX HO HB5 hbx
  generalize w5.drew = w6 at HXD HOD HBD hHeld ⊢
  have q1 : (0 ≤ (k : Int)) = True := eq_true (by omega)
  have q2 : ((k : Int) < 16) = True := eq_true (by omega)
  refine pz_ 0 49 HT_ ?_
  refine tz_ 1 50 HT_ HW_ hHeld ?_
  refine pz_ 2 51 HT_ ?_
  refine pz_ 3 52 HT_ ?_
  refine pz_ 4 53 HT_ ?_
  refine pz_ 7 56 HT_ ?_
  refine oz_ 5 54 HT_ (fun K hK => ?_)
  refine value_ rfl rfl (v := .slice (some ⟨w6.heap.size, 0, none⟩) 1 1) (w1 := w6.alloc (.cells #[.int .i64 x] 3)) (by go_simp) ?_
  have hlt6 := blk_lt HXD.out.b1
  have hst : (w6.alloc (.cells #[.int .i64 x] 3)).cell? ⟨w.heap.size + 1, 0, none⟩ = some (.int .i64 (k : Int)) := blk_cell (blk_alloc HXD.out.b1 _) 0
  refine hK.out _ _ hst (fun hHeld => ?_)
  clear hK K hst
  refine norm_ (a' := ?_) ?_ ?_
  rotate_left
  · show Act.put _ (some 54) _ = _
    simp only [Act.put, List.setIfInBounds_toArray, List.set_cons_zero, List.set_cons_succ]
    rfl
  refine oz_ 6 55 HT_ (fun K hK => ?_)
  refine goes_ Try.func23 (by kernel_rfl) rfl #[.slice A4 l.length c4, .int .i64 (i : Int), .slice (some ⟨w6.heap.size, 0, none⟩) 1 1] (by rfl) rfl rfl ma_ ?_
  have hb7 := HBD.out.alloc HBD.out.size (.cells #[.int .i64 x] 3)
  refine (insert_int l x i HIL.out _ w3.heap.size _ w3 (w6.alloc (.cells #[.int .i64 x] 3)) (Kd.R_alloc HOD.out _) hb7 hb7.size w6.heap.size 1 #[.int .i64 x] (blk_new w6 _) rfl (fun e => by have := Kd.R_lt HOD.out _ e.symm; omega) (by omega)).mono ?_
  rintro e w8 ⟨v8, rfl, ho8, hb8⟩
  rw [HINS.out] at ho8
  refine ⟨_, rfl, ?_⟩
  obtain ⟨A8, c8, rfl⟩ := Kd.R_slice ho8
  have HO8 := Aside0.mk ho8
  have HB8 := Aside0.mk hb8
  have HX8 := Aside0.mk (HX3.out.step hb8)
  clear ho8 hb8 hb7 hHeld HOD HBD HXD hlt6
  refine hK.out _ _ (blk_cell HX8.out.b1 0) (fun hHeld => ?_)
  clear hK K hHeld
  refine norm_ (a' := ?_) ?_ ?_
  rotate_left
  · show Act.put _ (some 55) _ = _
    simp only [Act.put, List.setIfInBounds_toArray, List.set_cons_zero, List.set_cons_succ]
    rfl
  refine pz_ 8 57 HT_ ?_
  refine pz_ 9 58 HT_ ?_
  have g1 : w8.cell? ⟨w.heap.size, k * 3 + 2, none⟩ = some (.slice A l.length c) := (blk_cell HX8.out.b0 _).trans E2.out
  have g2 : w8.frozen? ⟨w.heap.size, k * 3 + 2, none⟩ = false := blk_frozen HX8.out.b0 _
  refine last_ (i := 10) (N := none) #[true, true, true, true, true, true, true, true, true, true, true] rfl rfl (one_of HT_.out (by kernel_rfl)) (by decide) (fun K hK => ?_)
  refine skip_ (w1 := w8.setCell ⟨w.heap.size, k * 3 + 2, none⟩ (.slice A8 (insT x l).length c8)) rfl rfl (by go_simp) ?_
  refine hK.out _ _ ?_
  clear hK K
  have HX9 := Aside0.mk (HX8.out.tx (k * 3 + 2) (.slice A8 (insT x l).length c8))
  have HF := Aside0.mk (fun j (hj : w3.heap.size ≤ j) => (Below.heap_setCell w8 ⟨w.heap.size, k * 3 + 2, none⟩ (.slice A8 (insT x l).length c8) j (by have := HG.out; show j ≠ w.heap.size; omega) : (w8.setCell ⟨w.heap.size, k * 3 + 2, none⟩ (.slice A8 (insT x l).length c8)).heap[j]? = w8.heap[j]?))
  clear g1 g2 HX8
  refine done_ (done_of HT_.out (by kernel_rfl)) ?_
  clear HT_ HW_
  generalize w8.setCell ⟨w.heap.size, k * 3 + 2, none⟩ (.slice A8 (insT x l).length c8) = W9 at HX9 HF ⊢
  have HCC := Aside0.mk (cells_tx HCEL.out hk (.slice A8 (insT x l).length c8))
  generalize cs.setIfInBounds (k * 3 + 2) (.slice A8 (insT x l).length c8) = cs' at HX9 HCC
  have hone : cs'.all (·.oneCell') = true := cells_one2 HCC.out (fun i hi => by
    unfold upd
    split
    · rfl
    · exact (HRW.out i hi).one)
  have HONE := Aside0.mk hone
  clear hone q1 q2
  simp only [Exit.inBlock, Exit.then]
  go_wp2_with (first | (refine ld28 (.tmp 3) w.heap.size cs' HX9.out.b0 HCC.out.size ?_) | (refine st28 (.tmp 6) (.tmp 59) (w.heap.size + 1 + 1) cs' Z48 HX9.out.b2 rfl HCC.out.size HONE.out ?_; intro W10 hp; have HP := Aside0.mk hp; clear hp))
  have hgg := HG.out
  have d3 := HP.out.below w.heap.size w (by omega) HX9.out.be
  have hrow := row_of_R (W := W10) HO8.out (fun j hj => by rw [HP.out.far j (by omega), HF.out j hj])
  refine bodyPost_ret (results_list (rs := [.cell 6 28, .tmp 7]) rfl (by simp) (.cell _ 28 cs' (0, 0) _ rfl HP.out.at_ Try.underlying28 rfl (by rw [HCC.out.size]; kernel_rfl) (.tmp .nil))) rfl ?_
  exact ⟨cs', _, rfl, HCC.out, (HRW.out.below d3).upd hrow, (NewT.same w tx).upd k (fun g hg => by have := Kd.R_base HO8.out g hg; have h3 := HX3.out.be.size; omega), d3⟩
end Go.Proofs.Ytajghkmjgedikaa.Q
