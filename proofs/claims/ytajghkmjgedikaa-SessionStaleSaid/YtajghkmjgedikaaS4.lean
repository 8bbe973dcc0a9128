import Derived.Test.YtajghkmjgedikaaS2
import Derived.Test.YtajghkmjgedikaaCLI
namespace Go.Proofs.Ytajghkmjgedikaa.Q
open Go.RowKit Go.Proofs.YtajghkmjgedikaaW Go.Proofs.YtajghkmjgedikaaW.PrintWords Go.Proofs.YtajghkmjgedikaaW.PrintLast Go.Proofs.YtajghkmjgedikaaW.PrintMore
set_option linter.unusedVariables false
set_option linter.unusedSimpArgs false
/-- Three boxes: a table, a handle, a table. -/
structure By (w : World) (cs : Array Value) (a b : Int) (Z : Array Value) (W : World) : Prop where
  b0 : W.heap[w.heap.size]? = some (.cells cs 28 (0, 0))
  b1 : W.heap[w.heap.size + 1]? = some (.cells #[.int .i64 a, .int .i64 b] 31 (0, 0))
  b2 : W.heap[w.heap.size + 1 + 1]? = some (.cells Z 28 (0, 0))
  be : Below w.heap.size w W
theorem By.step {w : World} {cs Z : Array Value} {a b : Int} {W W' : World} (h : By w cs a b Z W) (hb : Below W.heap.size W W') : By w cs a b Z W' :=
  ⟨blk_below h.b0 hb, blk_below h.b1 hb, blk_below h.b2 hb, below_then h.be h.be.size hb⟩
theorem By.start (w : World) (cs Z : Array Value) (a b : Int) : By w cs a b Z (((w.alloc (Obj.cells cs 28)).alloc (Obj.cells #[.int .i64 a, .int .i64 b] 31)).alloc (Obj.cells Z 28)) :=
  ⟨(three_boxes _ _ _ _).1, (three_boxes _ _ _ _).2.1, (three_boxes _ _ _ _).2.2.1, (three_boxes _ _ _ _).2.2.2⟩
theorem By.range {w : World} {cs Z : Array Value} {a b : Int} {W : World} (h : By w cs a b Z W) (hz : cs.size = 48) : W.rangeAt w.heap.size 0 cs.toList :=
  (load_all (u := 28) h.b0 Try.underlying28 rfl (by rw [hz]; kernel_rfl)).1
theorem By.range1 {w : World} {cs Z : Array Value} {a b : Int} {W : World} (h : By w cs a b Z W) : W.rangeAt (w.heap.size + 1) 0 [.int .i64 a, .int .i64 b] :=
  (load_all (u := 31) h.b1 Try.underlying31 rfl (by kernel_rfl)).1
theorem liveS_true {st : Nat → Int} {op : Nat → Bool} {k : Nat} (hk : k < 16) (ho : op k = true) : liveS st op (k : Int) (st k) = true := by
  unfold liveS
  simp [ho]
  omega
set_option maxHeartbeats 1600000 in
theorem close_dead (cs : Array Value) (st : Nat → Int) (op : Nat → Bool) (ls : Nat → List Int) (tx : Nat → Value) (h : Cells cs st op tx) (hsn : SaneT st op ls) (w : World) (hrow : Rows3 w ls tx) (a b : Int) (hd : liveS st op a b = false) :
    Calls Try.prog 8 #[.agg cs, .agg #[.int .i64 a, .int .i64 b]] w fun e w' => e = .returned (.tuple #[.agg Z48, .slice none 0 0, .int .i64 6]) ∧ Below w.heap.size w w' := by
  have hsane := fun w (hr : Rows3 w ls tx) => sane_ok cs st op ls tx h hsn w hr
  have hlive := fun w => live_any cs st op tx h a b w
  rw [hd] at hlive
  have HRW := Aside0.mk hrow
  have HN := Aside0.mk hsane
  have HL := Aside0.mk hlive
  have hs := h.size
  have HZ := Aside0.mk hs
  have hi28 : (Try.prog.info? 28).map (·.size) = some cs.toList.length := by rw [Array.length_toList, hs]; kernel_rfl
  have HI := Aside0.mk hi28
  have HX := Aside0.mk (By.start w cs Z48 a b)
  clear hsane hs hi28 hrow hsn h hlive hd
  go_enter Try.func8, Try.ntmps8
  go_wp2_with (first | (refine wpList_load_mid rfl 28 (.tmp 2) rfl w.heap.size 0 rfl cs.toList _ (HX.out.range HZ.out) Try.underlying28 rfl HI.out ?_) | (refine wpList_load_mid rfl 31 (.tmp 3) rfl (w.heap.size + 1) 0 rfl [.int .i64 a, .int .i64 b] _ (HX.out.range1) Try.underlying31 rfl (by kernel_rfl) ?_) | (go_at_call 10; refine (HN.out _ (HRW.out.below HX.out.be)).mono ?_; rintro e w1 ⟨rfl, hb1⟩; have HX1 := Aside0.mk (HX.out.step hb1); clear hb1 HX; have HX := HX1; clear HX1) | (go_at_call 9; refine (HL.out _).mono ?_; rintro e w2 ⟨rfl, hb1⟩; have HX1 := Aside0.mk (HX.out.step hb1); clear hb1 HX; have HX := HX1; clear HX1) | (refine wpList_store_mid rfl 28 (.tmp 4) (.tmp 18) rfl (w.heap.size + 1 + 1) 0 Z48 rfl rfl (there_of HX.out.b2 (by decide)) (by kernel_rfl) z48_one ?_))
  have d2 := fill_row HX.out.b2 (vs := Z48) rfl
  have d3 : Below w.heap.size w (w2.setCells (w.heap.size + 1 + 1) 0 Z48.toList) := below_setCells' (by omega) _ _ HX.out.be
  refine bodyPost_ret (results_list (rs := [.cell 4 28, .tmp 5, .tmp 6]) rfl (by simp) (.cell _ 28 Z48 (0, 0) _ rfl d2 Try.underlying28 rfl (by kernel_rfl) (.tmp (.tmp .nil)))) rfl ?_
  exact ⟨rfl, d3⟩
theorem By.put {w : World} {cs Z : Array Value} {x y : Int} {W : World} (h : By w cs x y Z W) (hz : cs.size = 48) {k : Nat} (hk : k < 16) (a b c : Value) :
    ∃ cs', By w cs' x y Z (W.setCells w.heap.size (k * 3) [a, b, c]) ∧ cs'.size = 48 ∧ (cs'[k * 3]? = some a ∧ cs'[k * 3 + 1]? = some b ∧ cs'[k * 3 + 2]? = some c ∧ ∀ i, (i < k * 3 ∨ k * 3 + 3 ≤ i) → cs'[i]? = cs[i]?) := by
  obtain ⟨cs', h1, h2, h3⟩ := setCells_row [a, b, c] (k * 3) W cs h.b0 (by rw [hz]; show k * 3 + 3 ≤ 48; omega)
  refine ⟨cs', ⟨h1, ?_, ?_, ?_⟩, by rw [h2, hz], put3 hz hk h3 (by rw [h2, hz])⟩
  · rw [setCells_far _ _ _ (by omega)]; exact h.b1
  · rw [setCells_far _ _ _ (by omega)]; exact h.b2
  · exact below_setCells' (Nat.le_refl _) _ _ h.be
theorem okL_short {l : List Int} (h : okL l) : l.length ≤ 64 := by
  have hn : l.Nodup := h.1.imp (fun h => by omega)
  have hs : l ⊆ (List.range 64).map (fun (n : Nat) => (n : Int)) := by
    intro x hx
    obtain ⟨h0, h1⟩ := h.2 x hx
    exact List.mem_map.2 ⟨x.toNat, List.mem_range.2 (by omega), by omega⟩
  have := hn.length_le_of_subset hs
  simpa using this
theorem row_of_R {w3 W : World} {B : Nat} {ok : Nat → Prop} {v : Value} {l : List Int} (h : (Kd.int .i64).R 3 w3 B ok v l) (hk : ∀ k, B ≤ k → W.heap[k]? = w3.heap[k]?) : RowOf W l v := by
  have h2 := Kd.R_step (Kd.R_bound h) (w1 := W) (fun k ho _ => hk k ho.2.1)
  exact Kd.R_lower (Kd.R_mono h2 (fun _ _ => trivial)) (Nat.zero_le _)
set_option maxHeartbeats 1600000 in
theorem close_ok (cs : Array Value) (st : Nat → Int) (op : Nat → Bool) (ls : Nat → List Int) (tx : Nat → Value) (h : Cells cs st op tx) (hsn : SaneT st op ls) (w : World) (hrow : Rows3 w ls tx) (k : Nat) (hk : k < 16) (ho : op k = true) :
    Calls Try.prog 8 #[.agg cs, .agg #[.int .i64 (k : Int), .int .i64 (st k)]] w fun e w' => (∃ cs' tx' v, e = .returned (.tuple #[.agg cs', v, .int .i64 0]) ∧ Cells cs' st (upd op k false) tx' ∧ Rows3 w' (upd ls k []) tx' ∧ RowOf w' (ls k) v ∧ NewT w tx tx' ∧ (∀ g, v.ownBlock = some g → w.heap.size ≤ g)) ∧ Below w.heap.size w w' := by
  have hsane := fun w (hr : Rows3 w ls tx) => sane_ok cs st op ls tx h hsn w hr
  have hlive := fun w => live_any cs st op tx h (k : Int) (st k) w
  rw [liveS_true hk ho] at hlive
  obtain ⟨A, c, e5, e6, e7⟩ := (hrow k hk).reads
  have HRK := Aside0.mk e7
  have HC6 := Aside0.mk e6
  have HCL := fun w (hr : Kd.C (Kd.int .i64) w A (ls k).length (ls k)) => clone_int A c (ls k) w hr e6 (by have := okL_short (hsn.rows k hk); omega)
  have HRW := Aside0.mk hrow
  have HCEL := Aside0.mk h
  have HN := Aside0.mk hsane
  have HL := Aside0.mk hlive
  have e0 := h.stamp k hk
  have e1 := h.opened k hk
  have e2 := h.txs k hk
  rw [e5] at e2
  rw [ho] at e1
  have E0 := Aside0.mk e0
  have E1 := Aside0.mk e1
  have E2 := Aside0.mk e2
  have hs := h.size
  have HZ := Aside0.mk hs
  have hi28 : (Try.prog.info? 28).map (·.size) = some cs.toList.length := by rw [Array.length_toList, hs]; kernel_rfl
  have HI := Aside0.mk hi28
  have HC1 := Aside0.mk HCL
  clear HCL e7 e6
  obtain ⟨b, hb⟩ : ∃ b, st k = b := ⟨_, rfl⟩
  rw [hb] at HL E0
  have HX := Aside0.mk (By.start w cs Z48 (k : Int) b)
  have HBB := Aside0.mk hb
  obtain ⟨l, hl⟩ : ∃ l, ls k = l := ⟨_, rfl⟩
  rw [hl] at HC1 E2 HRK HC6
  have HLL := Aside0.mk hl
  rw [hb]
  clear hsane hs hi28 hrow hsn h hlive ho e0 e1 e2 hl hb e5
  go_enter Try.func8, Try.ntmps8
  go_upto_region 7 with (first | (refine wpList_load_mid rfl 28 (.tmp 2) rfl w.heap.size 0 rfl cs.toList _ (HX.out.range HZ.out) Try.underlying28 rfl HI.out ?_) | (refine wpList_load_mid rfl 31 (.tmp 3) rfl (w.heap.size + 1) 0 rfl [.int .i64 (k : Int), .int .i64 b] _ (HX.out.range1) Try.underlying31 rfl (by kernel_rfl) ?_) | (go_at_call 10; refine (HN.out _ (HRW.out.below HX.out.be)).mono ?_; rintro e w1 ⟨rfl, hb1⟩; have HX1 := Aside0.mk (HX.out.step hb1); clear hb1 HX; have HX := HX1; clear HX1) | (go_at_call 9; refine (HL.out _).mono ?_; rintro e w2 ⟨rfl, hb1⟩; have HX1 := Aside0.mk (HX.out.step hb1); clear hb1 HX; have HX := HX1; clear HX1; have f1 : w2.cell? ⟨w.heap.size + 1, 0, none⟩ = some (.int .i64 (k : Int)) := blk_cell HX.out.b1 0; have f2 : w2.cell? ⟨w.heap.size, k * 3 + 2, none⟩ = some (.slice A l.length c) := (blk_cell HX.out.b0 _).trans E2.out) | (go_at_call 16; refine (HC1.out _ (Kd.C_below HRK.out HX.out.be)).mono ?_; have HG := Aside0.mk (blk_lt HX.out.b2); rintro e w3 ⟨v3, rfl, ho3, hb3⟩; have HO3 := Aside0.mk ho3; clear ho3 f1 f2; have HX1 := Aside0.mk (HX.out.step hb3); clear hb3 HX; have HX := HX1; clear HX1; have f1 : w3.cell? ⟨w.heap.size + 1, 0, none⟩ = some (.int .i64 (k : Int)) := blk_cell HX.out.b1 0; have f3 : w3.cell? ⟨w.heap.size + 1, 1, none⟩ = some (.int .i64 b) := blk_cell HX.out.b1 1; have g0 : w3.cell? ⟨w.heap.size, k * 3, none⟩ = some (.int .i64 b) := (blk_cell HX.out.b0 _).trans E0.out; have g1 : w3.cell? ⟨w.heap.size, k * 3 + 1, none⟩ = some (.bool true) := (blk_cell HX.out.b0 _).trans E1.out; have g2 : w3.cell? ⟨w.heap.size, k * 3 + 2, none⟩ = some (.slice A l.length c) := (blk_cell HX.out.b0 _).trans E2.out; have z0 := blk_frozen HX.out.b0 (k * 3); have z1 := blk_frozen HX.out.b0 (k * 3 + 1); have z2 := blk_frozen HX.out.b0 (k * 3 + 2); obtain ⟨cs', hp1, hp2, hp3⟩ := HX.out.put HZ.out hk (.int .i64 b) (.bool false) (.slice none 0 0); have HP1 := Aside0.mk hp1; have HP2 := Aside0.mk hp2; have HCC := Aside0.mk (cells_put2 (st := st) (op := op) (tx := tx) HCEL.out hk hp3 hp2); clear hp1 hp2 hp3))
  show (Code.region 7 _ false).wp Try.prog _ _ (w3.setCells w.heap.size (k * 3) [.int .i64 b, .bool false, .slice none 0 0])
  have hfar : ∀ j, w2.heap.size ≤ j → (w3.setCells w.heap.size (k * 3) [.int .i64 b, .bool false, .slice none 0 0]).heap[j]? = w3.heap[j]? := fun j hj => setCells_far _ _ _ (by have := HG.out; omega)
  have HF := Aside0.mk hfar
  clear hfar g0 g1 g2 z0 z1 z2 f1 f3 HX
  generalize w3.setCells w.heap.size (k * 3) [.int .i64 b, .bool false, .slice none 0 0] = W4 at HP1 HF ⊢
  go_wp2_with (first | (refine wpList_load_mid rfl 28 (.tmp 2) rfl w.heap.size 0 rfl cs'.toList _ (HP1.out.range HP2.out) Try.underlying28 rfl (by rw [Array.length_toList, HP2.out]; kernel_rfl) ?_) | (refine wpList_store_mid rfl 28 (.tmp 4) (.tmp 33) rfl (w.heap.size + 1 + 1) 0 cs' rfl (by show Value.agg cs'.toList.toArray = _; rw [Array.toArray_toList]) (there_of HP1.out.b2 (by rw [HP2.out]; decide)) (by rw [HP2.out]; kernel_rfl) (cells_one2 HCC.out (fun i hi => ((HRW.out.upd (RowOf.nil w)) i hi).one)) ?_))
  have hgg := HG.out
  have d2 := fill_row HP1.out.b2 (vs := cs') (by rw [HP2.out]; rfl)
  have d3 : Below w.heap.size w (W4.setCells (w.heap.size + 1 + 1) 0 cs'.toList) := below_setCells' (by omega) _ _ HP1.out.be
  have hrow := row_of_R (W := W4.setCells (w.heap.size + 1 + 1) 0 cs'.toList) HO3.out (fun j hj => by rw [setCells_far _ _ _ (by omega), HF.out j hj])
  refine bodyPost_ret (results_list (rs := [.cell 4 28, .tmp 5, .tmp 6]) rfl (by simp) (.cell _ 28 cs' (0, 0) _ rfl d2 Try.underlying28 rfl (by rw [HP2.out]; kernel_rfl) (.tmp (.tmp .nil)))) rfl ?_
  refine ⟨⟨cs', upd tx k (.slice none 0 0), v3, rfl, ?_, ?_, ?_, (NewT.same w tx).upd k (by simp [Value.ownBlock]), fun q hq => by have := Kd.R_base HO3.out q hq; omega⟩, d3⟩
  · have := HCC.out
    rw [← HBB.out, upd_same] at this
    exact this
  · exact (HRW.out.below d3).upd (RowOf.nil _)
  · rw [HLL.out]; exact hrow
end Go.Proofs.Ytajghkmjgedikaa.Q
