import Derived.Test.YtajghkmjgedikaaS1
namespace Go.Proofs.Ytajghkmjgedikaa.Q
open Go.RowKit Go.Proofs.YtajghkmjgedikaaW Go.Proofs.YtajghkmjgedikaaW.PrintWords Go.Proofs.YtajghkmjgedikaaW.PrintLast Go.Proofs.YtajghkmjgedikaaW.PrintMore
set_option linter.unusedVariables false
set_option linter.unusedSimpArgs false
theorem cells_put2 {cs cs' : Array Value} {st : Nat → Int} {op : Nat → Bool} {tx : Nat → Value} {k : Nat} {x : Int} {o : Bool} {v : Value} (h : Cells cs st op tx) (hk : k < 16) (hp : cs'[k * 3]? = some (.int .i64 x) ∧ cs'[k * 3 + 1]? = some (.bool o) ∧ cs'[k * 3 + 2]? = some v ∧ ∀ i, (i < k * 3 ∨ k * 3 + 3 ≤ i) → cs'[i]? = cs[i]?) (hs : cs'.size = 48) :
    Cells cs' (upd st k x) (upd op k o) (upd tx k v) := by
  obtain ⟨p0, p1, p2, p3⟩ := hp
  refine ⟨hs, fun i hi => ?_, fun i hi => ?_, fun i hi => ?_⟩
  · by_cases e : i = k
    · subst e; rw [p0]; simp [upd]
    · rw [p3 _ (by omega), h.stamp i hi]; simp [upd, e]
  · by_cases e : i = k
    · subst e; rw [p1]; simp [upd]
    · rw [p3 _ (by omega), h.opened i hi]; simp [upd, e]
  · by_cases e : i = k
    · subst e; rw [p2]; simp [upd]
    · rw [p3 _ (by omega), h.txs i hi]; simp [upd, e]
theorem cells_one2 {cs : Array Value} {st : Nat → Int} {op : Nat → Bool} {tx : Nat → Value} (h : Cells cs st op tx) (hv : ∀ i, i < 16 → (tx i).oneCell' = true) : cs.all (·.oneCell') = true := by
  rw [Array.all_eq_true]
  intro i hi
  have hs := h.size
  have e : cs[i]? = some cs[i] := Array.getElem?_eq_getElem hi
  rcases (show i = i / 3 * 3 ∨ i = i / 3 * 3 + 1 ∨ i = i / 3 * 3 + 2 by omega) with q | q | q
  · have := h.stamp (i / 3) (by omega); rw [← q, e] at this; injection this with this; rw [this]; rfl
  · have := h.opened (i / 3) (by omega); rw [← q, e] at this; injection this with this; rw [this]; rfl
  · have := h.txs (i / 3) (by omega); rw [← q, e] at this; injection this with this; rw [this]; exact hv _ (by omega)
theorem RowOf.one {w : World} {l : List Int} {v : Value} (h : RowOf w l v) : v.oneCell' = true := by
  obtain ⟨A, c, rfl, _⟩ := h.reads; rfl
theorem RowOf.nil (w : World) : RowOf w [] (.slice none 0 0) := Kd.R_nil _ _ _ _ _
theorem Rows3.upd {w : World} {ls : Nat → List Int} {tx : Nat → Value} {k : Nat} {l : List Int} {v : Value} (h : Rows3 w ls tx) (hv : RowOf w l v) : Rows3 w (upd ls k l) (upd tx k v) := fun i hi => by
  unfold Q.upd
  by_cases e : i = k
  · simp only [e, if_true]; exact hv
  · simp only [e, if_false]; exact h i hi
/-- The rows that are not as they were lie in new memory. -/
def NewT (w : World) (tx tx' : Nat → Value) : Prop := ∀ i, i < 16 → tx' i = tx i ∨ ∀ k, (tx' i).ownBlock = some k → w.heap.size ≤ k
theorem NewT.same (w : World) (tx : Nat → Value) : NewT w tx tx := fun i _ => .inl rfl
theorem NewT.upd {w : World} {tx tx' : Nat → Value} (h : NewT w tx tx') (k : Nat) {v : Value} (hv : ∀ g, v.ownBlock = some g → w.heap.size ≤ g) : NewT w tx (upd tx' k v) := fun i hi => by
  unfold Q.upd
  by_cases e : i = k
  · rw [if_pos e]; exact .inr hv
  · rw [if_neg e]; exact h i hi
theorem upd_same {α : Type} (f : Nat → α) (k : Nat) : upd f k (f k) = f := by
  funext i; unfold upd; split
  · next e => rw [e]
  · rfl
set_option maxHeartbeats 1600000 in
theorem open_ok (cs : Array Value) (st : Nat → Int) (op : Nat → Bool) (ls : Nat → List Int) (tx : Nat → Value) (h : Cells cs st op tx) (hsn : SaneT st op ls) (w : World) (hrow : Rows3 w ls tx) (k : Nat) (hk : k < 16) (hf : freeAt st op k) (hb : ∀ j, j < k → ¬ freeAt st op j) :
    Calls Try.prog 7 #[.agg cs] w fun e w' => ∃ cs' tx', e = .returned (.tuple #[.agg cs', .agg #[.int .i64 (k : Int), .int .i64 (st k + 1)], .int .i64 0]) ∧ Cells cs' (upd st k (st k + 1)) (upd op k true) tx' ∧ Rows3 w' ls tx' ∧ NewT w tx tx' ∧ Below w.heap.size w w' := by
  have hst := hsn.stamp
  have hsane := fun w (hr : Rows3 w ls tx) => sane_ok cs st op ls tx h hsn w hr
  have HRW := Aside0.mk hrow
  have HSN := Aside0.mk hsn
  obtain ⟨hs, h1, h2, h3⟩ := h
  have H1 := Aside0.mk h1
  have H2 := Aside0.mk h2
  have H3 := Aside0.mk h3
  have HS := Aside0.mk hst
  have HN := Aside0.mk hsane
  have HZ := Aside0.mk hs
  have hi28 : (Try.prog.info? 28).map (·.size) = some cs.toList.length := by rw [Array.length_toList, hs]; kernel_rfl
  have hi28' : (Try.prog.info? 28).map (·.size) = some cs.size := by rw [hs]; kernel_rfl
  have hi26 : (Try.prog.info? 26).map (·.size) = some cs.toList.length := by rw [Array.length_toList, hs]; kernel_rfl
  have HI := Aside0.mk hi28
  have HJ := Aside0.mk hi26
  have hr0 : (w.alloc (Obj.cells cs 28)).rangeAt w.heap.size 0 cs.toList := (load_all (u := 28) (blk_new w _) Try.underlying28 rfl hi28').1
  have HR := Aside0.mk hr0
  clear h1 h2 h3 hst hsane hs hrow hsn hi26 hi28 hi28' hr0
  go_enter Try.func7, Try.ntmps7
  go_wp2_with (first | (refine wpList_load_mid rfl 28 (.tmp 1) rfl w.heap.size 0 rfl cs.toList _ (World.rangeAt_alloc (World.rangeAt_alloc HR.out _) _) Try.underlying28 rfl HI.out ?_) | (refine (HN.out _ (HRW.out.below (three_boxes _ _ _ _).2.2.2)).mono ?_; rintro e w1 ⟨rfl, hb1⟩; obtain ⟨Z, hZ, hX⟩ : ∃ Z : Array Value, Z.size = 48 ∧ Bx w cs Z w1 := ⟨_, rfl, (Bx.start w cs _).step hb1⟩; have HX := Aside0.mk hX; have HZZ := Aside0.mk hZ; clear hb1 HR hX hZ) | (refine wpList_load_mid rfl 26 (.tmp 12) rfl w.heap.size 0 rfl cs.toList _ (HX.out.range HZ.out) Try.underlying26 rfl HJ.out ?_))
  go_loopg [14] 16 (fun gg s14 wr => ∃ j : Nat, j ≤ k ∧ 16 - j ≤ gg ∧ s14 = .int .i64 j ∧ Aside0 (Bx w cs Z wr))
  case atStart =>
    exact ⟨0, Nat.zero_le _, by omega, rfl, HX⟩
  case round =>
    obtain ⟨j, hj, hgj, rfl, HB1⟩ := hrel
    have hlt : j < 16 := by omega
    have e1 := H1.out j hlt
    have e2 := H2.out j hlt
    have e3 := H3.out j hlt
    have e4 := HS.out j hlt
    obtain ⟨A, c, e5, e6, e7⟩ := (HRW.out j hlt).reads
    have hlj := e7.2.1
    rw [e5] at e3
    generalize (ls j).length = n5 at e3 hlj
    clear e5 e6 e7
    have hx := run_slot cs j hlt _ _ _ e1 e2 e3
    by_cases hjk : j = k
    · subst hjk
      obtain ⟨o1, o2⟩ := hf
      rw [o1] at hx e2
      have hwk : wrap64 (st j + 1) = st j + 1 := by unfold wrap64; omega
      obtain ⟨x, hxx⟩ : ∃ x, st j = x := ⟨_, rfl⟩
      rw [hxx] at hx e1 e4 o2 hwk
      have HXX := Aside0.mk hxx
      clear hxx
      have hp := (HB1.out.step ((Below.refl _ _).alloc (Nat.le_refl _) (Obj.cells #[.int .i64 x, .bool false, .slice A n5 c] 25))).put HZ.out hlt (.int .i64 (x + 1)) (.bool true) (.slice none 0 0)
      have hth := (HB1.out.step ((Below.refl _ _).alloc (Nat.le_refl _) (Obj.cells #[.int .i64 x, .bool false, .slice A n5 c] 25))).there HZ.out (show j * 3 + 3 ≤ 48 by omega)
      obtain ⟨cs', hp1, hp2, hp3⟩ := hp
      have HP1 := Aside0.mk hp1
      have HP2 := Aside0.mk hp2
      have HP3 := Aside0.mk hp3
      have HTH := Aside0.mk hth
      have HTW := (HB1.out.step ((Below.refl _ _).alloc (Nat.le_refl _) (Obj.cells #[.int .i64 x, .bool false, .slice A n5 c] 25)))
      have d0 : (wr.alloc (Obj.cells #[.int .i64 x, .bool false, .slice A n5 c] 25)).cell? ⟨w.heap.size, j * 3, none⟩ = some (.int .i64 x) := (blk_cell HTW.b0 _).trans e1
      have d1 : (wr.alloc (Obj.cells #[.int .i64 x, .bool false, .slice A n5 c] 25)).cell? ⟨w.heap.size, j * 3 + 1, none⟩ = some (.bool false) := (blk_cell HTW.b0 _).trans e2
      have d2 : (wr.alloc (Obj.cells #[.int .i64 x, .bool false, .slice A n5 c] 25)).cell? ⟨w.heap.size, j * 3 + 2, none⟩ = some (.slice A n5 c) := (blk_cell HTW.b0 _).trans e3
      have f0 := (hth 0 (by decide)).2
      have f1 := (hth 1 (by decide)).2
      have f2 := (hth 2 (by decide)).2
      rw [Nat.add_zero] at f0
      clear hp1 hp2 hp3 hth HTW e1 e2 e3 HTH
      go_wp2
      have HC6 : Aside0 (((wr.alloc (Obj.cells #[.int .i64 x, .bool false, .slice A n5 c] 25)).setCells w.heap.size (j * 3) [.int .i64 (x + 1), .bool true, .slice none 0 0]).cell? ⟨wr.heap.size, 0, none⟩ = some (.int .i64 x)) := by
        have hlt6 := HB1.out.be.size
        have hne : wr.heap.size ≠ w.heap.size := fun e => by have := blk_lt HB1.out.b0; omega
        refine Aside0.mk ((blk_cell (?_ : _ = some (Obj.cells #[.int .i64 x, .bool false, .slice A n5 c] 25 (0, 0))) 0).trans rfl)
        rw [setCells_far _ _ _ hne]
        exact blk_new _ _
      clear d0 d1 d2 f0 f1 f2
      show (Code.region 8 _ true).wp Try.prog _ _ ((wr.alloc (Obj.cells #[.int .i64 x, .bool false, .slice A n5 c] 25)).setCells w.heap.size (j * 3) [.int .i64 (x + 1), .bool true, .slice none 0 0])
      generalize (wr.alloc (Obj.cells #[.int .i64 x, .bool false, .slice A n5 c] 25)).setCells w.heap.size (j * 3) [.int .i64 (x + 1), .bool true, .slice none 0 0] = W2 at HP1 HC6 ⊢
      have HG6 : Aside0 (wr.heap.size ≠ w.heap.size + 1) := Aside0.mk (fun e => by have := blk_lt HB1.out.b1; omega)
      generalize wr.heap.size = g6 at HC6 HG6 ⊢
      refine start_ (n := 9) (S := fun w' => w'.rangeAt w.heap.size 0 cs'.toList ∧ w'.cell? ⟨g6, 0, none⟩ = some (.int .i64 x)) (ds := [7]) #[false, false, false, false, false, false, false, false, false] rfl rfl rfl ⟨(HP1.out.step (below_drew1 (Below.refl _ _))).range HP2.out, by exact HC6.out⟩ (fun hHeld => ?_)
      refine with_tabW reg7.tab8 reg7.bits8 (fun HT_ HW_ => ?_)
      have HCL := Aside0.mk (cells_put2 (st := st) (op := op) ⟨HZ.out, H1.out, H2.out, H3.out⟩ hlt HP3.out HP2.out)
      have HIP : Aside0 ((Try.prog.info? 28).map (·.size) = some cs'.toList.length) := Aside0.mk (by rw [Array.length_toList, HP2.out]; kernel_rfl)
      refine tz_ 0 33 HT_ HW_ hHeld ?_ (hy := yieldsIf_load_mid (by rfl) 28 (.tmp 1) rfl w.heap.size 0 rfl cs'.toList _ (fun _ h => h.1) Try.underlying28 rfl HIP.out)
      refine pz_ 1 34 HT_ ?_
      refine pz_ 2 35 HT_ ?_
      refine tz_ 3 36 HT_ HW_ hHeld ?_
      refine pz_ 4 37 HT_ ?_
      refine pz_ 5 38 HT_ ?_
      have HB3 := Aside0.mk (HP1.out.step (below_drew1 (Below.refl _ _)))
      clear HP1 HC6
      generalize W2.drew = W3 at HB3 hHeld ⊢
      refine one_ (i := 6) (N := none) #[true, true, true, true, true, true, true, false, false] rfl rfl (one_of HT_.out (by kernel_rfl)) (by decide) (fun K hK => ?_)
      rw [if_pos (by rfl)]
      refine wp_store_mid 28 (.tmp 2) (.tmp 33) rfl (w.heap.size + 1) 0 cs' rfl (by show Value.agg cs'.toList.toArray = _; rw [Array.toArray_toList]) (there_of HB3.out.b1 (by rw [HZZ.out, HP2.out]; decide)) (by rw [HP2.out]; kernel_rfl) (cells_one2 HCL.out (fun i hi => ((HRW.out.upd (RowOf.nil w)) i hi).one)) ?_
      refine hK.out _ _ ⟨(Bx.range (Z := cs') ⟨by rw [setCells_far _ _ _ (by omega)]; exact HB3.out.b0, fill_row HB3.out.b1 (by rw [HZZ.out, HP2.out]), by rw [setCells_far _ _ _ (by omega)]; exact HB3.out.b2, below_setCells' (by omega) _ _ HB3.out.be⟩ HP2.out), ?_⟩ (fun hHeld => ?_)
      · rw [World.cell?_setCells_out _ _ _ _ _ (fun e => absurd e HG6.out)]; exact hHeld.2
      clear hK K hHeld
      have c1 := fill_row HB3.out.b1 (vs := cs') (by rw [HZZ.out, HP2.out])
      have c2 : (W3.setCells (w.heap.size + 1) 0 cs'.toList).heap[w.heap.size + 1 + 1]? = some (.cells #[.int .i64 0, .int .i64 0] 31 (0, 0)) := by rw [setCells_far _ _ _ (by omega)]; exact HB3.out.b2
      have c3 : Below w.heap.size w (W3.setCells (w.heap.size + 1) 0 cs'.toList) := below_setCells' (by omega) _ _ HB3.out.be
      generalize W3.setCells (w.heap.size + 1) 0 cs'.toList = W4 at c1 c2 c3 ⊢
      have d1 : (W4.setCells (w.heap.size + 1 + 1) 0 [.int .i64 (j : Int), .int .i64 (x + 1)]).heap[w.heap.size + 1]? = some (.cells cs' 28 (0, 0)) := by rw [setCells_far _ _ _ (by omega)]; exact c1
      have d2 := fill_row c2 (vs := #[.int .i64 (j : Int), .int .i64 (x + 1)]) rfl
      have d3 : Below w.heap.size w (W4.setCells (w.heap.size + 1 + 1) 0 [.int .i64 (j : Int), .int .i64 (x + 1)]) := below_setCells' (by omega) _ _ c3
      have hth := there_of c2 (k := 0) (n := 2) (by decide)
      refine last_ (i := 7) (N := none) #[true, true, true, true, true, true, true, true, false] rfl rfl (one_of HT_.out (by kernel_rfl)) (by decide) (fun K hK => ?_)
      rw [if_pos (by rfl)]
      refine wp_store_mid 31 (.tmp 3) (.tmp 38) rfl (w.heap.size + 1 + 1) 0 #[.int .i64 (j : Int), .int .i64 (x + 1)] rfl rfl hth (by kernel_rfl) (by simp [Value.oneCell']) ?_
      refine hK.out _ _ ?_
      clear hK K
      refine pz_ 8 4 HT_ ?_
      refine done_ (done_of HT_.out (by kernel_rfl)) ?_
      clear HT_ HW_
      generalize W4.setCells (w.heap.size + 1 + 1) 0 #[Value.int .i64 (j : Int), .int .i64 (x + 1)].toList = W5 at d1 d2 d3 ⊢
      clear c1 c2 c3 hth
      simp only [Exit.inBlock, Exit.then]
      have hi5 : (Try.prog.info? 28).map (·.size) = some cs'.size := by rw [HP2.out]; kernel_rfl
      go_wp2
      first | go_end0 | ((try simp only [Exit.inBlock, Exit.then]); refine bodyPost_ret (results_list (rs := [.cell 2 28, .cell 3 31, .tmp 4]) rfl (by simp) (.cell _ 28 cs' (0, 0) _ rfl d1 Try.underlying28 rfl hi5 (.cell _ 31 _ (0, 0) _ rfl d2 Try.underlying31 rfl (by kernel_rfl) (.tmp .nil)))) rfl ?_)
      exact ⟨cs', by rw [HXX.out]; rfl, upd tx j (.slice none 0 0), by rw [HXX.out]; exact HCL.out, by have hu := (HRW.out.below d3).upd (k := j) (RowOf.nil _); rw [← HSN.out.shut j hlt o1, upd_same] at hu; exact hu, (NewT.same w tx).upd j (by simp [Value.ownBlock]), d3⟩
    · have hnf := hb j (by omega)
      have hc : op j = true ∨ (op j = false ∧ ¬ st j < 1099511627776) := by
        unfold freeAt at hnf
        cases ho : op j with
        | true => exact .inl rfl
        | false => exact .inr ⟨rfl, fun h => hnf ⟨ho, h⟩⟩
      have HB2 : ∀ o, Aside0 (Bx w cs Z (wr.alloc o)) := fun o => Aside0.mk (HB1.out.step ((Below.refl _ _).alloc (Nat.le_refl _) o))
      clear e1 e2 e3 hnf hb
      rcases hc with hc | ⟨hc, hc2⟩
      · rw [hc] at hx
        clear hc
        generalize st j = x at *
        go_wp2
        go_roundg (16 - (j + 1))
        case measure => omega
        case rel => exact ⟨j + 1, by omega, by omega, by go_num, HB2 _⟩
      · rw [hc] at hx
        clear hc
        generalize st j = x at *
        go_wp2
        go_roundg (16 - (j + 1))
        case measure => omega
        case rel => exact ⟨j + 1, by omega, by omega, by go_num, HB2 _⟩
def Z48 : Array Value := #[.int .i64 0, .bool false, .slice none 0 0, .int .i64 0, .bool false, .slice none 0 0, .int .i64 0, .bool false, .slice none 0 0, .int .i64 0, .bool false, .slice none 0 0, .int .i64 0, .bool false, .slice none 0 0, .int .i64 0, .bool false, .slice none 0 0, .int .i64 0, .bool false, .slice none 0 0, .int .i64 0, .bool false, .slice none 0 0, .int .i64 0, .bool false, .slice none 0 0, .int .i64 0, .bool false, .slice none 0 0, .int .i64 0, .bool false, .slice none 0 0, .int .i64 0, .bool false, .slice none 0 0, .int .i64 0, .bool false, .slice none 0 0, .int .i64 0, .bool false, .slice none 0 0, .int .i64 0, .bool false, .slice none 0 0, .int .i64 0, .bool false, .slice none 0 0]
theorem z48_one : Z48.all (·.oneCell') = true := by kernel_rfl
theorem full_store {w wr : World} {cs Z : Array Value} (h : Bx w cs Z wr) (hz : Z.size = 48) :
    ∃ W4, wr.setCells (w.heap.size + 1) 0 Z48.toList = W4 ∧ W4.heap[w.heap.size + 1]? = some (.cells Z48 28 (0, 0)) ∧ W4.heap[w.heap.size + 1 + 1]? = some (.cells #[.int .i64 0, .int .i64 0] 31 (0, 0)) ∧ Below w.heap.size w W4 :=
  ⟨_, rfl, fill_row h.b1 (by rw [hz]; rfl), by rw [setCells_far _ _ _ (by omega)]; exact h.b2, below_setCells' (by omega) _ _ h.be⟩

set_option maxHeartbeats 1600000 in
theorem open_full (cs : Array Value) (st : Nat → Int) (op : Nat → Bool) (ls : Nat → List Int) (tx : Nat → Value) (h : Cells cs st op tx) (hsn : SaneT st op ls) (w : World) (hrow : Rows3 w ls tx) (hb : ∀ j, j < 16 → ¬ freeAt st op j) :
    Calls Try.prog 7 #[.agg cs] w fun e w' => e = .returned (.tuple #[.agg Z48, .agg #[.int .i64 0, .int .i64 0], .int .i64 5]) ∧ Below w.heap.size w w' := by
  have hst := hsn.stamp
  have hsane := fun w (hr : Rows3 w ls tx) => sane_ok cs st op ls tx h hsn w hr
  have HRW := Aside0.mk hrow
  have HSN := Aside0.mk hsn
  obtain ⟨hs, h1, h2, h3⟩ := h
  have H1 := Aside0.mk h1
  have H2 := Aside0.mk h2
  have H3 := Aside0.mk h3
  have HS := Aside0.mk hst
  have HN := Aside0.mk hsane
  have HZ := Aside0.mk hs
  have hi28 : (Try.prog.info? 28).map (·.size) = some cs.toList.length := by rw [Array.length_toList, hs]; kernel_rfl
  have hi28' : (Try.prog.info? 28).map (·.size) = some cs.size := by rw [hs]; kernel_rfl
  have hi26 : (Try.prog.info? 26).map (·.size) = some cs.toList.length := by rw [Array.length_toList, hs]; kernel_rfl
  have HI := Aside0.mk hi28
  have HJ := Aside0.mk hi26
  have hr0 : (w.alloc (Obj.cells cs 28)).rangeAt w.heap.size 0 cs.toList := (load_all (u := 28) (blk_new w _) Try.underlying28 rfl hi28').1
  have HR := Aside0.mk hr0
  clear h1 h2 h3 hst hsane hs hi26 hi28 hi28' hr0 hrow hsn
  go_enter Try.func7, Try.ntmps7
  go_wp2_with (first | (refine wpList_load_mid rfl 28 (.tmp 1) rfl w.heap.size 0 rfl cs.toList _ (World.rangeAt_alloc (World.rangeAt_alloc HR.out _) _) Try.underlying28 rfl HI.out ?_) | (refine (HN.out _ (HRW.out.below (three_boxes _ _ _ _).2.2.2)).mono ?_; rintro e w1 ⟨rfl, hb1⟩; obtain ⟨Z, hZ, hX⟩ : ∃ Z : Array Value, Z.size = 48 ∧ Bx w cs Z w1 := ⟨_, rfl, (Bx.start w cs _).step hb1⟩; have HX := Aside0.mk hX; have HZZ := Aside0.mk hZ; clear hb1 HR hX hZ) | (refine wpList_load_mid rfl 26 (.tmp 12) rfl w.heap.size 0 rfl cs.toList _ (HX.out.range HZ.out) Try.underlying26 rfl HJ.out ?_))
  go_loopg [14] 16 (fun gg s14 wr => ∃ j : Nat, j ≤ 16 ∧ 16 - j ≤ gg ∧ s14 = .int .i64 j ∧ Aside0 (Bx w cs Z wr))
  case atStart =>
    exact ⟨0, Nat.zero_le _, by omega, rfl, HX⟩
  case round =>
    obtain ⟨j, hj, hgj, rfl, HB1⟩ := hrel
    by_cases hlt : j < 16
    · have e1 := H1.out j hlt
      have e2 := H2.out j hlt
      have e3 := H3.out j hlt
      have e4 := HS.out j hlt
      obtain ⟨A, c, e5, e6, e7⟩ := (HRW.out j hlt).reads
      have hlj := e7.2.1
      rw [e5] at e3
      generalize (ls j).length = n5 at e3 hlj
      clear e5 e6 e7
      have hx := run_slot cs j hlt _ _ _ e1 e2 e3
      have hnf := hb j hlt
      have hc : op j = true ∨ (op j = false ∧ ¬ st j < 1099511627776) := by
        unfold freeAt at hnf
        cases ho : op j with
        | true => exact .inl rfl
        | false => exact .inr ⟨rfl, fun h => hnf ⟨ho, h⟩⟩
      have HB2 : ∀ o, Aside0 (Bx w cs Z (wr.alloc o)) := fun o => Aside0.mk (HB1.out.step ((Below.refl _ _).alloc (Nat.le_refl _) o))
      clear e1 e2 e3 hnf hb
      rcases hc with hc | ⟨hc, hc2⟩
      · rw [hc] at hx
        clear hc
        generalize st j = x at *
        go_wp2
        go_roundg (16 - (j + 1))
        case measure => omega
        case rel => exact ⟨j + 1, by omega, by omega, by go_num, HB2 _⟩
      · rw [hc] at hx
        clear hc
        generalize st j = x at *
        go_wp2
        go_roundg (16 - (j + 1))
        case measure => omega
        case rel => exact ⟨j + 1, by omega, by omega, by go_num, HB2 _⟩
    · have : j = 16 := by omega
      subst this
      go_wp2_with (first | (refine wpList_store_mid rfl 28 (.tmp 2) (.tmp 40) rfl (w.heap.size + 1) 0 Z48 rfl rfl (there_of HB1.out.b1 (by rw [HZZ.out]; decide)) (by kernel_rfl) z48_one ?_; obtain ⟨W4, hW4, c1, c2, c3⟩ := full_store HB1.out HZZ.out; rw [hW4]; have C1 := Aside0.mk c1; have C2 := Aside0.mk c2; have C3 := Aside0.mk c3; clear hW4 c1 c2 c3) | (refine wpList_store_mid rfl 31 (.tmp 3) (.tmp 41) rfl (w.heap.size + 1 + 1) 0 #[.int .i64 0, .int .i64 0] rfl rfl (there_of C2.out (by decide)) (by kernel_rfl) (by simp [Value.oneCell']) ?_; have d1 : (W4.setCells (w.heap.size + 1 + 1) 0 [.int .i64 0, .int .i64 0]).heap[w.heap.size + 1]? = some (.cells Z48 28 (0, 0)) := by rw [setCells_far _ _ _ (by omega)]; exact C1.out))
      have d2 := fill_row C2.out (vs := #[.int .i64 0, .int .i64 0]) rfl
      have d3 : Below w.heap.size w (W4.setCells (w.heap.size + 1 + 1) 0 [.int .i64 0, .int .i64 0]) := below_setCells' (by omega) _ _ C3.out
      first | go_end0 | ((try simp only [Exit.inBlock, Exit.then]); refine bodyPost_ret (results_list (rs := [.cell 2 28, .cell 3 31, .tmp 4]) rfl (by simp) (.cell _ 28 Z48 (0, 0) _ rfl d1 Try.underlying28 rfl (by kernel_rfl) (.cell _ 31 _ (0, 0) _ rfl d2 Try.underlying31 rfl (by kernel_rfl) (.tmp .nil)))) rfl ?_)
      exact ⟨rfl, d3⟩
end Go.Proofs.Ytajghkmjgedikaa.Q
