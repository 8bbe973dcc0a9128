import Derived.Test.YtajghkmjgedikaaS11
import Derived.Test.YtajghkmjgedikaaDGI
namespace Go.Proofs.Ytajghkmjgedikaa.Q
open Go.RowKit Go.Proofs.YtajghkmjgedikaaW Go.Proofs.YtajghkmjgedikaaW.PrintWords Go.Proofs.YtajghkmjgedikaaW.PrintLast Go.Proofs.YtajghkmjgedikaaW.PrintMore
set_option linter.unusedVariables false
set_option linter.unusedSimpArgs false
set_option maxHeartbeats 1600000 in
theorem in_txs (x : Int) (ts : List Int) (A : Option Addr) (c B : Nat) (w : World) (hc : ts.length ≤ c) (hr : Kd.C (Kd.int .i64) w A ts.length ts) (hB : w.cell? ⟨B, 0, none⟩ = some (.slice A ts.length c)) :
    Calls Try.prog 25 #[.int .i64 x, .pointer (some ⟨B, 0, none⟩)] w fun e w' => e = .returned (.bool (decide (x ∈ ts))) ∧ Below w.heap.size w w' := by
  have HC := Aside0.mk (contains_int x A c ts w hr)
  clear hr
  go_enter Try.func25, Try.ntmps25
  go_wp2_with (go_at_call 19; refine HC.out.mono ?_; clear HC; rintro e w1 ⟨rfl, hb1⟩; have HB := Aside0.mk hb1; clear hb1)
  go_ret
  exact ⟨rfl, HB.out⟩
def cutL (ts l : List Int) : List Int := l.filter (fun x => !decide (x ∈ ts))
def cutT (ts : List Int) (ls : Nat → List Int) (k : Nat) : Nat → List Int := fun i => if i < k then cutL ts (ls i) else ls i
theorem cutT_succ (ts : List Int) (ls : Nat → List Int) (k : Nat) : upd (cutT ts ls k) k (cutL ts (ls k)) = cutT ts ls (k + 1) := by
  funext i; unfold upd cutT
  by_cases e : i = k
  · subst e; rw [if_pos rfl, if_pos (by omega)]
  · rw [if_neg e]
    by_cases h : i < k
    · rw [if_pos h, if_pos (by omega)]
    · rw [if_neg h, if_neg (by omega)]
theorem cutT_zero (ts : List Int) (ls : Nat → List Int) : cutT ts ls 0 = ls := by
  funext i; unfold cutT; rw [if_neg (by omega)]
theorem cutT_at (ts : List Int) (ls : Nat → List Int) (k : Nat) : cutT ts ls k k = ls k := by unfold cutT; rw [if_neg (by omega)]
theorem SaneT.lost {st : Nat → Int} {op : Nat → Bool} {ls : Nat → List Int} (h : SaneT st op ls) (ts : List Int) : SaneT st op (cutT ts ls 16) := by
  refine ⟨h.stamp, fun i hi ho => ?_, fun i hi => ?_, fun i j x hi hj h1 h2 => ?_⟩
  · unfold cutT; rw [if_pos hi, h.shut i hi ho]; rfl
  · unfold cutT; rw [if_pos hi]
    exact ⟨(h.rows i hi).1.filter _, fun x hx => (h.rows i hi).2 x (List.mem_filter.1 hx).1⟩
  · unfold cutT at h1 h2
    rw [if_pos hi] at h1
    rw [if_pos hj] at h2
    exact h.one i j x hi hj (List.mem_filter.1 h1).1 (List.mem_filter.1 h2).1
/-- Three boxes: a table, a row, a table. -/
structure Bz (w : World) (cs : Array Value) (T : Value) (W : World) : Prop where
  b0 : W.heap[w.heap.size]? = some (.cells cs 28 (0, 0))
  b1 : W.heap[w.heap.size + 1]? = some (.cells #[T] 23 (0, 0))
  b2 : W.heap[w.heap.size + 1 + 1]? = some (.cells Z48 28 (0, 0))
  be : Below w.heap.size w W
theorem Bz.step {w : World} {cs : Array Value} {T : Value} {W W' : World} (h : Bz w cs T W) (hb : Below W.heap.size W W') : Bz w cs T W' :=
  ⟨blk_below h.b0 hb, blk_below h.b1 hb, blk_below h.b2 hb, below_then h.be h.be.size hb⟩
theorem Bz.start (w : World) (cs : Array Value) (T : Value) : Bz w cs T (((w.alloc (Obj.cells cs 28)).alloc (Obj.cells #[T] 23)).alloc (Obj.cells Z48 28)) :=
  ⟨(three_boxes _ _ _ _).1, (three_boxes _ _ _ _).2.1, (three_boxes _ _ _ _).2.2.1, (three_boxes _ _ _ _).2.2.2⟩
theorem Bz.tx {w : World} {cs : Array Value} {T : Value} {W : World} (h : Bz w cs T W) (j : Nat) (v : Value) : Bz w (cs.setIfInBounds j v) T (W.setCell ⟨w.heap.size, j, none⟩ v) :=
  ⟨blk_set h.b0 j v, blk_far h.b1 (by show _ ≠ w.heap.size; omega) v, blk_far h.b2 (by show _ ≠ w.heap.size; omega) v, h.be.setCell (Nat.le_refl _) v⟩
theorem RowOf.cell {l : List Int} {v u : Value} {w : World} {g j : Nat} {c : Array Value} {t : TypeId} (h : RowOf w l v) (hb : w.heap[g]? = some (.cells c t (0, 0))) (ht : t ≠ 3) : RowOf (w.setCell ⟨g, j, none⟩ u) l v := by
  have h2 := Kd.R_types h hb (fun q hq => by
    have hq' : q ∈ [3] := hq
    have : q = 3 := by simpa using hq'
    rw [this]; exact fun e => ht e.symm)
  exact Kd.R_mono (Kd.R_step h2 (fun k hk _ => Below.heap_setCell w ⟨g, j, none⟩ u k hk.2)) (fun k hk => hk.1)
set_option maxRecDepth 100000 in
set_option maxHeartbeats 3200000 in
theorem lose_new (cs : Array Value) (st : Nat → Int) (op : Nat → Bool) (ls : Nat → List Int) (tx : Nat → Value) (h : Cells cs st op tx) (hsn : SaneT st op ls) (w : World) (hrow : Rows3 w ls tx) (ts : List Int) (At : Option Addr) (ct : Nat) (hct : ts.length ≤ ct) (hts : Kd.C (Kd.int .i64) w At ts.length ts) :
    Calls Try.prog 15 #[.agg cs, .slice At ts.length ct] w fun e w' => ∃ cs' tx', e = .returned (.agg cs') ∧ Cells cs' st op tx' ∧ Rows3 w' (cutT ts ls 16) tx' ∧ SaneT st op (cutT ts ls 16) ∧ NewT w tx tx' ∧ Below w.heap.size w w' := by
  have HS := Aside0.mk hsn
  have HR := Aside0.mk hrow
  have HC := Aside0.mk h
  have HT := Aside0.mk hts
  have HCT := Aside0.mk hct
  have HX := Aside0.mk (Bz.start w cs (.slice At ts.length ct))
  clear h hsn hrow hts hct
  go_enter Try.func15, Try.ntmps15
  go_wp2
  have HR0 := Aside0.mk (HR.out.below HX.out.be)
  have hlen := Aside0.mk (fun i (hi : i < 16) => okL_short (HS.out.rows i hi))
  go_loopg [6] 16 (fun gg s6 wr => ∃ (k : Nat) (cs1 : Array Value) (tx1 : Nat → Value), k ≤ 16 ∧ 16 - k ≤ gg ∧ s6 = .int .i64 k ∧ Aside0 (Bz w cs1 (.slice At ts.length ct) wr) ∧ Aside0 (Cells cs1 st op tx1) ∧ Aside0 (Rows3 wr (cutT ts ls k) tx1) ∧ Aside0 (NewT w tx tx1))
  case atStart =>
    exact ⟨0, cs, tx, Nat.zero_le _, by omega, rfl, HX, HC, ⟨by rw [cutT_zero]; exact HR0.out⟩, ⟨NewT.same w tx⟩⟩
  case round =>
    obtain ⟨k, cs1, tx1, hk, hgk, rfl, HX1, HC1, HR1, HNW⟩ := hrel
    by_cases hlt : k < 16
    · obtain ⟨A, c, e5, e6, e7⟩ := (HR1.out k hlt).reads
      rw [cutT_at] at e5 e6 e7
      have hl := hlen.out k hlt
      have e2 := HC1.out.txs k hlt
      rw [e5] at e2
      have f2 : wr.cell? ⟨w.heap.size, k * 3 + 2, none⟩ = some (.slice A (ls k).length c) := (blk_cell HX1.out.b0 _).trans e2
      have hcl := Aside0.mk (clone_int A c (ls k) wr e7 e6 (by omega))
      have hcb := Aside0.mk (blk_cell HX1.out.b1 0 : wr.cell? ⟨w.heap.size + 1, 0, none⟩ = _)
      have htw := Aside0.mk (Kd.C_below HT.out HX1.out.be)
      have hpr : PredI 25 (w.heap.size + 1) (fun x => decide (x ∈ ts)) (fun W => Below wr.heap.size wr W) :=
        ⟨fun W x hK => in_txs x ts At ct _ W HCT.out (Kd.C_below htw.out hK) ((hK.cell (blk_lt HX1.out.b1)).trans hcb.out), fun W W' h1 h2 => below_then h1 h1.size h2⟩
      have HPR := Aside0.mk hpr
      have E2 := Aside0.mk e2
      have HLS := Aside0.mk (cutT_succ ts ls k)
      clear hpr e5 e6 e7 e2 hl
      obtain ⟨l, hll⟩ : ∃ l, ls k = l := ⟨_, rfl⟩
      rw [hll] at f2 hcl HLS E2
      clear hll
      go_wp2_with (first | (go_at_call 16; refine hcl.out.mono ?_; clear hcl f2; rintro e w1 ⟨v1, rfl, ho1, hb1⟩; have HO1 := Aside0.mk ho1; have HB1 := Aside0.mk hb1; clear ho1 hb1) | (go_at_call 24; refine (dfI_25 (w.heap.size + 1) (fun x => decide (x ∈ ts)) (fun W => Below wr.heap.size wr W) HPR.out v1 (fun g W W' hg hK hgr => hK.grown hgr hK.size (fun j hj => by injection hj with hj; subst hj; exact Kd.R_base HO1.out _ hg)) l wr.heap.size (fun _ => True) wr w1 HO1.out HB1.out HB1.out.size HB1.out).mono ?_; rintro e w2 ⟨v2, rfl, ho2, hb2, _, _⟩; obtain ⟨A2, c2, rfl⟩ := Kd.R_slice ho2; have HO2 := Aside0.mk ho2; have HX2 := Aside0.mk (HX1.out.step hb2); have HR2 := Aside0.mk (HR1.out.below hb2); have HG2 := Aside0.mk (blk_lt HX1.out.b2); have g1 : w2.cell? ⟨w.heap.size, k * 3 + 2, none⟩ = some (.slice A l.length c) := (blk_cell HX2.out.b0 _).trans E2.out; have g2 : w2.frozen? ⟨w.heap.size, k * 3 + 2, none⟩ = false := blk_frozen HX2.out.b0 _; clear ho2 hb2))
      go_roundg (16 - (k + 1))
      case measure => omega
      case rel =>
        refine ⟨k + 1, cs1.setIfInBounds (k * 3 + 2) (.slice A2 (cutL ts l).length c2), upd tx1 k (.slice A2 (cutL ts l).length c2), by omega, by omega, by go_num, ⟨HX2.out.tx _ _⟩, ⟨cells_tx HC1.out hlt _⟩, ⟨?_⟩, ⟨HNW.out.upd k (fun g hg => by have := Kd.R_base HO2.out g hg; have h3 := HX1.out.be.size; omega)⟩⟩
        have hrow := row_of_R (W := w2.setCell ⟨w.heap.size, k * 3 + 2, none⟩ (.slice A2 (cutL ts l).length c2)) HO2.out (fun j hj => Below.heap_setCell w2 ⟨w.heap.size, k * 3 + 2, none⟩ _ j (by have := HG2.out; show j ≠ w.heap.size; omega))
        have := Rows3.upd (k := k) (fun i hi => (HR2.out i hi).cell (j := k * 3 + 2) (u := .slice A2 (cutL ts l).length c2) HX2.out.b0 (by decide)) hrow
        rw [show List.filter (fun x => !decide (x ∈ ts)) l = cutL ts l from rfl, HLS.out] at this
        exact this
    · have : k = 16 := by omega
      subst this
      go_wp2_with (first | (refine ld28 (.tmp 2) w.heap.size cs1 HX1.out.b0 HC1.out.size ?_) | (refine st28 (.tmp 4) (.tmp 22) (w.heap.size + 1 + 1) cs1 Z48 HX1.out.b2 rfl HC1.out.size (rows_one HC1.out HR1.out) ?_; intro W5 hp; have HP := Aside0.mk hp; clear hp))
      have d3 := HP.out.below w.heap.size w (by omega) HX1.out.be
      have hr := HR1.out.put HX1.out.b2 (by decide) HP.out
      refine bodyPost_ret (results_single (r := .cell 4 28) rfl (.cell _ 28 cs1 (0, 0) _ rfl HP.out.at_ Try.underlying28 rfl (by rw [HC1.out.size]; kernel_rfl) .nil)) rfl ?_
      exact ⟨cs1, tx1, rfl, HC1.out, hr, HS.out.lost ts, HNW.out, d3⟩
set_option maxRecDepth 100000 in
set_option maxHeartbeats 3200000 in
theorem has_live (cs : Array Value) (st : Nat → Int) (op : Nat → Bool) (ls : Nat → List Int) (tx : Nat → Value) (h : Cells cs st op tx) (w : World) (hrow : Rows3 w ls tx) (k : Nat) (hk : k < 16) (ho : op k = true) (a b x : Int) (ha : (k : Int) = a) (hb : st k = b) (r : Bool) (hr : decide (x ∈ ls k) = r) :
    Calls Try.prog 12 #[.agg cs, .agg #[.int .i64 a, .int .i64 b], .int .i64 x] w fun e w' => e = .returned (.bool r) ∧ Below w.heap.size w w' := by
  subst ha; subst hb
  have HL := Aside0.mk (fun w => live_at cs st op tx h (k : Int) (st k) w _ (liveS_true hk ho))
  have HZ := Aside0.mk h.size
  have hcn := Aside0.mk (fun w (hv : RowOf w (ls k) (tx k)) => contains_row x (ls k) (tx k) w hv)
  rw [hr] at hcn
  have HRW := Aside0.mk (hrow k hk)
  have e2 := h.txs k hk
  obtain ⟨A, c, e5, _, _⟩ := (hrow k hk).reads
  rw [e5] at e2 hcn HRW
  have E2 := Aside0.mk e2
  obtain ⟨b0, b1, be⟩ := two_boxes w (Obj.cells cs 28) (Obj.cells #[.int .i64 (k : Int), .int .i64 (st k)] 31)
  have B0 := Aside0.mk b0
  have B1 := Aside0.mk b1
  have BE := Aside0.mk be
  clear h b0 b1 be hrow e2 e5 hr
  generalize st k = b at *
  generalize (ls k).length = n at *
  go_enter Try.func12, Try.ntmps12
  go_wp2_with (first | (refine ld28 (.tmp 3) w.heap.size cs B0.out HZ.out ?_) | (refine ld31 (.tmp 4) (w.heap.size + 1) (k : Int) b B1.out ?_) | (go_at_call 9; refine (HL.out _).mono ?_; clear HL; rintro e w1 ⟨rfl, hb1⟩; have HB := Aside0.mk (below_then BE.out BE.out.size hb1); have HR1 := Aside0.mk (HRW.out.below HB.out); have f1 : w1.cell? ⟨w.heap.size + 1, 0, none⟩ = some (.int .i64 (k : Int)) := blk_cell (blk_below B1.out hb1) 0; have f2 : w1.cell? ⟨w.heap.size, k * 3 + 2, none⟩ = some (.slice A n c) := (blk_cell (blk_below B0.out hb1) _).trans E2.out; clear hb1) | (go_at_call 19; refine (hcn.out _ HR1.out).mono ?_; clear hcn; rintro e w2 ⟨rfl, hb2⟩; have HB2 := Aside0.mk (below_then HB.out HB.out.size hb2); clear hb2))
  go_ret
  exact ⟨rfl, HB2.out⟩
end Go.Proofs.Ytajghkmjgedikaa.Q
