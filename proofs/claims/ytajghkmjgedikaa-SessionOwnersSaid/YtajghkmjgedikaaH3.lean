import Derived.Test.YtajghkmjgedikaaH2
import Derived.Test.YtajghkmjgedikaaQA
namespace Go.Proofs.Ytajghkmjgedikaa.Q
open Go.RowKit Go.Proofs.YtajghkmjgedikaaW Go.Proofs.YtajghkmjgedikaaW.PrintWords Go.Proofs.YtajghkmjgedikaaW.PrintLast Go.Proofs.YtajghkmjgedikaaW.PrintMore
set_option linter.unusedVariables false
set_option linter.unusedSimpArgs false
def freeAt (st : Nat → Int) (op : Nat → Bool) (k : Nat) : Prop := op k = false ∧ st k < 1099511627776
def upd {α : Type} (f : Nat → α) (k : Nat) (v : α) : Nat → α := fun i => if i = k then v else f i
theorem three_boxes (w : World) (o o' o'' : Obj) : (((w.alloc o).alloc o').alloc o'').heap[w.heap.size]? = some o ∧ (((w.alloc o).alloc o').alloc o'').heap[w.heap.size + 1]? = some o' ∧ (((w.alloc o).alloc o').alloc o'').heap[w.heap.size + 1 + 1]? = some o'' ∧ Below w.heap.size w (((w.alloc o).alloc o').alloc o'') :=
  ⟨blk_alloc (two_boxes w o o').1 o'', blk_alloc (two_boxes w o o').2.1 o'', by simpa using blk_new ((w.alloc o).alloc o') o'', ((two_boxes w o o').2.2).alloc (by simp; omega) _⟩
/-- The three boxes of Open. -/
structure Bx (w : World) (cs Z : Array Value) (W : World) : Prop where
  b0 : W.heap[w.heap.size]? = some (.cells cs 28 (0, 0))
  b1 : W.heap[w.heap.size + 1]? = some (.cells Z 28 (0, 0))
  b2 : W.heap[w.heap.size + 1 + 1]? = some (.cells #[.int .i64 0, .int .i64 0] 31 (0, 0))
  be : Below w.heap.size w W
theorem Bx.step {w : World} {cs Z : Array Value} {W W' : World} (h : Bx w cs Z W) (hb : Below W.heap.size W W') : Bx w cs Z W' :=
  ⟨blk_below h.b0 hb, blk_below h.b1 hb, blk_below h.b2 hb, below_then h.be h.be.size hb⟩
theorem Bx.start (w : World) (cs Z : Array Value) : Bx w cs Z (((w.alloc (Obj.cells cs 28)).alloc (Obj.cells Z 28)).alloc (Obj.cells #[.int .i64 0, .int .i64 0] 31)) :=
  ⟨(three_boxes _ _ _ _).1, (three_boxes _ _ _ _).2.1, (three_boxes _ _ _ _).2.2.1, (three_boxes _ _ _ _).2.2.2⟩
theorem Bx.range {w : World} {cs Z : Array Value} {W : World} (h : Bx w cs Z W) (hz : cs.size = 48) : W.rangeAt w.heap.size 0 cs.toList :=
  (load_all (u := 28) h.b0 Try.underlying28 rfl (by rw [hz]; kernel_rfl)).1
theorem below_setCells' {B b : Nat} {a : World} (hb : B ≤ b) : ∀ (vs : List Value) (o : Nat) {w : World}, Below B a w → Below B a (w.setCells b o vs)
  | [], _, _, h => h
  | v :: r, o, w, h => below_setCells' hb r (o + 1) (h.setCell hb _)
theorem put3 {cs : Array Value} {cs' : Array Value} {k : Nat} {a b c : Value} (hz : cs.size = 48) (hk : k < 16) (h : cs'.toList = cs.toList.take (k * 3) ++ [a, b, c] ++ cs.toList.drop (k * 3 + 3)) (hs : cs'.size = 48) :
    cs'[k * 3]? = some a ∧ cs'[k * 3 + 1]? = some b ∧ cs'[k * 3 + 2]? = some c ∧ ∀ i, (i < k * 3 ∨ k * 3 + 3 ≤ i) → cs'[i]? = cs[i]? := by
  have hl : cs.toList.length = 48 := by rw [Array.length_toList, hz]
  have ht : (cs.toList.take (k * 3)).length = k * 3 := by rw [List.length_take, hl]; omega
  have g : ∀ i, cs'[i]? = (cs.toList.take (k * 3) ++ [a, b, c] ++ cs.toList.drop (k * 3 + 3))[i]? := fun i => by rw [← h, Array.getElem?_toList]
  refine ⟨?_, ?_, ?_, fun i hi => ?_⟩
  · rw [g, List.append_assoc, List.getElem?_append_right (by omega), ht, Nat.sub_self]; rfl
  · rw [g, List.append_assoc, List.getElem?_append_right (by omega), ht, show k * 3 + 1 - k * 3 = 1 by omega]; rfl
  · rw [g, List.append_assoc, List.getElem?_append_right (by omega), ht, show k * 3 + 2 - k * 3 = 2 by omega]; rfl
  · rcases hi with hi | hi
    · rw [g, List.append_assoc, List.getElem?_append_left (by omega), List.getElem?_take, if_pos hi, Array.getElem?_toList]
    · rw [g, List.getElem?_append_right (by rw [List.length_append, ht]; exact hi), List.length_append, ht, List.getElem?_drop]
      rw [show k * 3 + 3 + (i - (k * 3 + [a, b, c].length)) = i by simp; omega, Array.getElem?_toList]
theorem cells_put {cs cs' : Array Value} {st : Nat → Int} {op : Nat → Bool} {k : Nat} {x : Int} {o : Bool} (h : Cells cs st op (fun _ => .slice none 0 0)) (hk : k < 16) (hp : cs'[k * 3]? = some (.int .i64 x) ∧ cs'[k * 3 + 1]? = some (.bool o) ∧ cs'[k * 3 + 2]? = some (.slice none 0 0) ∧ ∀ i, (i < k * 3 ∨ k * 3 + 3 ≤ i) → cs'[i]? = cs[i]?) (hs : cs'.size = 48) :
    Cells cs' (upd st k x) (upd op k o) (fun _ => .slice none 0 0) := by
  obtain ⟨p0, p1, p2, p3⟩ := hp
  refine ⟨hs, fun i hi => ?_, fun i hi => ?_, fun i hi => ?_⟩
  · by_cases e : i = k
    · subst e; rw [p0]; simp [upd]
    · rw [p3 _ (by omega), h.stamp i hi]; simp [upd, e]
  · by_cases e : i = k
    · subst e; rw [p1]; simp [upd]
    · rw [p3 _ (by omega), h.opened i hi]; simp [upd, e]
  · by_cases e : i = k
    · subst e; rw [p2]
    · rw [p3 _ (by omega), h.txs i hi]
theorem Bx.put {w : World} {cs Z : Array Value} {W : World} (h : Bx w cs Z W) (hz : cs.size = 48) {k : Nat} (hk : k < 16) (a b c : Value) :
    ∃ cs', Bx w cs' Z (W.setCells w.heap.size (k * 3) [a, b, c]) ∧ cs'.size = 48 ∧ (cs'[k * 3]? = some a ∧ cs'[k * 3 + 1]? = some b ∧ cs'[k * 3 + 2]? = some c ∧ ∀ i, (i < k * 3 ∨ k * 3 + 3 ≤ i) → cs'[i]? = cs[i]?) := by
  obtain ⟨cs', h1, h2, h3⟩ := setCells_row [a, b, c] (k * 3) W cs h.b0 (by rw [hz]; show k * 3 + 3 ≤ 48; omega)
  refine ⟨cs', ⟨h1, ?_, ?_, ?_⟩, by rw [h2, hz], put3 hz hk h3 (by rw [h2, hz])⟩
  · rw [setCells_far _ _ _ (by omega)]; exact h.b1
  · rw [setCells_far _ _ _ (by omega)]; exact h.b2
  · exact below_setCells' (Nat.le_refl _) _ _ h.be
theorem Bx.there {w : World} {cs Z : Array Value} {W : World} (h : Bx w cs Z W) (hz : cs.size = 48) {k n : Nat} (hk : k + n ≤ 48) : W.there w.heap.size k n := fun j hj => by
  constructor
  · rw [blk_cell h.b0]
    have : k + j < cs.size := by omega
    simp [this]
  · simp [World.frozen?, h.b0]
theorem there_of {W : World} {g : Nat} {cs : Array Value} {t : TypeId} (hb : W.heap[g]? = some (.cells cs t (0, 0))) {k n : Nat} (hk : k + n ≤ cs.size) : W.there g k n := fun j hj => by
  constructor
  · rw [blk_cell hb]
    have : k + j < cs.size := by omega
    simp [this]
  · simp [World.frozen?, hb]
theorem fill_row {W : World} {g : Nat} {cs vs : Array Value} {t : TypeId} (hb : W.heap[g]? = some (.cells cs t (0, 0))) (hs : vs.size = cs.size) : (W.setCells g 0 vs.toList).heap[g]? = some (.cells vs t (0, 0)) := by
  obtain ⟨c, h1, h2, h3⟩ := setCells_row vs.toList 0 W cs hb (by simp; omega)
  have : c = vs := by
    apply Array.toList_inj.1
    rw [h3, List.take_zero, List.nil_append, List.drop_eq_nil_of_le (by simp; omega), List.append_nil]
  rw [h1, this]
theorem cells_one {cs : Array Value} {st : Nat → Int} {op : Nat → Bool} (h : Cells cs st op (fun _ => .slice none 0 0)) : cs.all (·.oneCell') = true := by
  rw [Array.all_eq_true]
  intro i hi
  have hs := h.size
  have e : cs[i]? = some cs[i] := Array.getElem?_eq_getElem hi
  rcases (show i = i / 3 * 3 ∨ i = i / 3 * 3 + 1 ∨ i = i / 3 * 3 + 2 by omega) with q | q | q
  · have := h.stamp (i / 3) (by omega); rw [← q, e] at this; injection this with this; rw [this]; rfl
  · have := h.opened (i / 3) (by omega); rw [← q, e] at this; injection this with this; rw [this]; rfl
  · have := h.txs (i / 3) (by omega); rw [← q, e] at this; injection this with this; rw [this]; rfl
def reg7.T8 : Bool × List (List Nat × List Nat) := (true, [([], []), ([], []), ([], []), ([2], [2]), ([3], [3]), ([1, 4], [1, 4]), ([0, 0], [0]), ([5, 6, 0, 1, 2, 3, 4, 5, 6], [5]), ([7, 0, 1, 2, 3, 4, 5, 6, 7], [])])
def reg7.B8 : List Nat := [0, 0, 0, 4, 12, 30, 1, 127, 255]
theorem reg7.tab8 : rtab .any (opsOf Try.f7 8) = reg7.T8 := by kernel_rfl
theorem reg7.bits8 : waitsOk reg7.T8.2 reg7.B8 = true := by kernel_rfl
set_option maxHeartbeats 1600000 in
theorem open_nil (cs : Array Value) (st : Nat → Int) (op : Nat → Bool) (h : Cells cs st op (fun _ => .slice none 0 0)) (hst : ∀ i, i < 16 → 0 ≤ st i ∧ st i ≤ 1099511627776) (w : World) (k : Nat) (hk : k < 16) (hf : freeAt st op k) (hb : ∀ j, j < k → ¬ freeAt st op j) :
    Calls Try.prog 7 #[.agg cs] w fun e w' => ∃ cs', e = .returned (.tuple #[.agg cs', .agg #[.int .i64 (k : Int), .int .i64 (st k + 1)], .int .i64 0]) ∧ Cells cs' (upd st k (st k + 1)) (upd op k true) (fun _ => .slice none 0 0) ∧ Below w.heap.size w w' := by
  have hsane := fun w => sane_nil cs st op h hst w
  obtain ⟨hs, h1, h2, h3⟩ := h
  have H1 := Aside0.mk h1
  have H2 := Aside0.mk h2
  have H3 := Aside0.mk h3
  have HS := Aside0.mk hst
  have HN := Aside0.mk hsane
  have HZ := Aside0.mk hs
  have hi28 : (Try.prog.info? 28).map (·.size) = some cs.toList.length := by rw [Array.length_toList, hs]; kernel_rfl
  have hi28' : (Try.prog.info? 28).map (·.size) = some cs.size := by rw [hs]; kernel_rfl
  have hi26 : (Try.prog.info? 26).map (·.size) = some cs.toList.length := by rw [Array.length_toList, hs]; kernel_rfl
  have HI := Aside0.mk hi28
  have HJ := Aside0.mk hi26
  have hr0 : (w.alloc (Obj.cells cs 28)).rangeAt w.heap.size 0 cs.toList := (load_all (u := 28) (blk_new w _) Try.underlying28 rfl hi28').1
  have HR := Aside0.mk hr0
  clear h1 h2 h3 hst hsane hs hi26 hi28 hi28' hr0
  go_enter Try.func7, Try.ntmps7
  go_wp2_with (first | (refine wpList_load_mid rfl 28 (.tmp 1) rfl w.heap.size 0 rfl cs.toList _ (World.rangeAt_alloc (World.rangeAt_alloc HR.out _) _) Try.underlying28 rfl HI.out ?_) | (refine (HN.out _).mono ?_; rintro e w1 ⟨rfl, hb1⟩; obtain ⟨Z, hZ, hX⟩ : ∃ Z : Array Value, Z.size = 48 ∧ Bx w cs Z w1 := ⟨_, rfl, (Bx.start w cs _).step hb1⟩; have HX := Aside0.mk hX; have HZZ := Aside0.mk hZ; clear hb1 HR hX hZ) | (refine wpList_load_mid rfl 26 (.tmp 12) rfl w.heap.size 0 rfl cs.toList _ (HX.out.range HZ.out) Try.underlying26 rfl HJ.out ?_))
  go_loopg [14] 16 (fun gg s14 wr => ∃ j : Nat, j ≤ k ∧ 16 - j ≤ gg ∧ s14 = .int .i64 j ∧ Aside0 (Bx w cs Z wr))
  case atStart =>
    exact ⟨0, Nat.zero_le _, by omega, rfl, HX⟩
  case round =>
    obtain ⟨j, hj, hgj, rfl, HB1⟩ := hrel
    have hlt : j < 16 := by omega
    have e1 := H1.out j hlt
    have e2 := H2.out j hlt
    have e3 := H3.out j hlt
    have e4 := HS.out j hlt
    have hx := run_slot cs j hlt _ _ _ e1 e2 e3
    by_cases hjk : j = k
    · subst hjk
      obtain ⟨o1, o2⟩ := hf
      rw [o1] at hx e2
      have hwk : wrap64 (st j + 1) = st j + 1 := by unfold wrap64; omega
      obtain ⟨x, hxx⟩ : ∃ x, st j = x := ⟨_, rfl⟩
      rw [hxx] at hx e1 e4 o2 hwk
      have HXX := Aside0.mk hxx
      clear hxx
      have hp := (HB1.out.step ((Below.refl _ _).alloc (Nat.le_refl _) (Obj.cells #[.int .i64 x, .bool false, .slice none 0 0] 25))).put HZ.out hlt (.int .i64 (x + 1)) (.bool true) (.slice none 0 0)
      have hth := (HB1.out.step ((Below.refl _ _).alloc (Nat.le_refl _) (Obj.cells #[.int .i64 x, .bool false, .slice none 0 0] 25))).there HZ.out (show j * 3 + 3 ≤ 48 by omega)
      obtain ⟨cs', hp1, hp2, hp3⟩ := hp
      have HP1 := Aside0.mk hp1
      have HP2 := Aside0.mk hp2
      have HP3 := Aside0.mk hp3
      have HTH := Aside0.mk hth
      have HTW := (HB1.out.step ((Below.refl _ _).alloc (Nat.le_refl _) (Obj.cells #[.int .i64 x, .bool false, .slice none 0 0] 25)))
      have d0 : (wr.alloc (Obj.cells #[.int .i64 x, .bool false, .slice none 0 0] 25)).cell? ⟨w.heap.size, j * 3, none⟩ = some (.int .i64 x) := (blk_cell HTW.b0 _).trans e1
      have d1 : (wr.alloc (Obj.cells #[.int .i64 x, .bool false, .slice none 0 0] 25)).cell? ⟨w.heap.size, j * 3 + 1, none⟩ = some (.bool false) := (blk_cell HTW.b0 _).trans e2
      have d2 : (wr.alloc (Obj.cells #[.int .i64 x, .bool false, .slice none 0 0] 25)).cell? ⟨w.heap.size, j * 3 + 2, none⟩ = some (.slice none 0 0) := (blk_cell HTW.b0 _).trans e3
      have f0 := (hth 0 (by decide)).2
      have f1 := (hth 1 (by decide)).2
      have f2 := (hth 2 (by decide)).2
      rw [Nat.add_zero] at f0
      clear hp1 hp2 hp3 hth HTW e1 e2 e3 HTH
      go_wp2
      have HC6 : Aside0 (((wr.alloc (Obj.cells #[.int .i64 x, .bool false, .slice none 0 0] 25)).setCells w.heap.size (j * 3) [.int .i64 (x + 1), .bool true, .slice none 0 0]).cell? ⟨wr.heap.size, 0, none⟩ = some (.int .i64 x)) := by
        have hlt6 := HB1.out.be.size
        have hne : wr.heap.size ≠ w.heap.size := fun e => by have := blk_lt HB1.out.b0; omega
        refine Aside0.mk ((blk_cell (?_ : _ = some (Obj.cells #[.int .i64 x, .bool false, .slice none 0 0] 25 (0, 0))) 0).trans rfl)
        rw [setCells_far _ _ _ hne]
        exact blk_new _ _
      clear d0 d1 d2 f0 f1 f2
      show (Code.region 8 _ true).wp Try.prog _ _ ((wr.alloc (Obj.cells #[.int .i64 x, .bool false, .slice none 0 0] 25)).setCells w.heap.size (j * 3) [.int .i64 (x + 1), .bool true, .slice none 0 0])
      generalize (wr.alloc (Obj.cells #[.int .i64 x, .bool false, .slice none 0 0] 25)).setCells w.heap.size (j * 3) [.int .i64 (x + 1), .bool true, .slice none 0 0] = W2 at HP1 HC6 ⊢
      have HG6 : Aside0 (wr.heap.size ≠ w.heap.size + 1) := Aside0.mk (fun e => by have := blk_lt HB1.out.b1; omega)
      generalize wr.heap.size = g6 at HC6 HG6 ⊢
      refine start_ (n := 9) (S := fun w' => w'.rangeAt w.heap.size 0 cs'.toList ∧ w'.cell? ⟨g6, 0, none⟩ = some (.int .i64 x)) (ds := [7]) #[false, false, false, false, false, false, false, false, false] rfl rfl rfl ⟨(HP1.out.step (below_drew1 (Below.refl _ _))).range HP2.out, by exact HC6.out⟩ (fun hHeld => ?_)
      refine with_tabW reg7.tab8 reg7.bits8 (fun HT_ HW_ => ?_)
      have HCL := Aside0.mk (cells_put (st := st) (op := op) ⟨HZ.out, H1.out, H2.out, H3.out⟩ hlt HP3.out HP2.out)
      have HIP : Aside0 ((Try.prog.info? 28).map (·.size) = some cs'.toList.length) := Aside0.mk (by rw [Array.length_toList, HP2.out]; kernel_rfl)
      refine tz_ 0 33 HT_ HW_ hHeld ?_ (hy := yieldsIf_load_mid (by rfl) 28 (.tmp 1) rfl w.heap.size 0 rfl cs'.toList _ (fun _ h => h.1) Try.underlying28 rfl HIP.out)
      refine pz_ 1 34 HT_ ?_
      refine pz_ 2 35 HT_ ?_
      refine tz_ 3 36 HT_ HW_ hHeld ?_
      refine pz_ 4 37 HT_ ?_
      refine pz_ 5 38 HT_ ?_
      have HB3 := Aside0.mk (HP1.out.step (below_drew1 (Below.refl _ _)))
      clear HP1 HC6
      generalize W2.drew = W3 at HB3 hHeld ⊢
      refine one_ (i := 6) (N := none) #[true, true, true, true, true, true, true, false, false] rfl rfl (one_of HT_.out (by kernel_rfl)) (by decide) (fun K hK => ?_)
      rw [if_pos (by rfl)]
      refine wp_store_mid 28 (.tmp 2) (.tmp 33) rfl (w.heap.size + 1) 0 cs' rfl (by show Value.agg cs'.toList.toArray = _; rw [Array.toArray_toList]) (there_of HB3.out.b1 (by rw [HZZ.out, HP2.out]; decide)) (by rw [HP2.out]; kernel_rfl) (cells_one HCL.out) ?_
      refine hK.out _ _ ⟨(Bx.range (Z := cs') ⟨by rw [setCells_far _ _ _ (by omega)]; exact HB3.out.b0, fill_row HB3.out.b1 (by rw [HZZ.out, HP2.out]), by rw [setCells_far _ _ _ (by omega)]; exact HB3.out.b2, below_setCells' (by omega) _ _ HB3.out.be⟩ HP2.out), ?_⟩ (fun hHeld => ?_)
      · rw [World.cell?_setCells_out _ _ _ _ _ (fun e => absurd e HG6.out)]; exact hHeld.2
      clear hK K hHeld
      have c1 := fill_row HB3.out.b1 (vs := cs') (by rw [HZZ.out, HP2.out])
      have c2 : (W3.setCells (w.heap.size + 1) 0 cs'.toList).heap[w.heap.size + 1 + 1]? = some (.cells #[.int .i64 0, .int .i64 0] 31 (0, 0)) := by rw [setCells_far _ _ _ (by omega)]; exact HB3.out.b2
      have c3 : Below w.heap.size w (W3.setCells (w.heap.size + 1) 0 cs'.toList) := below_setCells' (by omega) _ _ HB3.out.be
      generalize W3.setCells (w.heap.size + 1) 0 cs'.toList = W4 at c1 c2 c3 ⊢
      have d1 : (W4.setCells (w.heap.size + 1 + 1) 0 [.int .i64 (j : Int), .int .i64 (x + 1)]).heap[w.heap.size + 1]? = some (.cells cs' 28 (0, 0)) := by rw [setCells_far _ _ _ (by omega)]; exact c1
      have d2 := fill_row c2 (vs := #[.int .i64 (j : Int), .int .i64 (x + 1)]) rfl
      have d3 : Below w.heap.size w (W4.setCells (w.heap.size + 1 + 1) 0 [.int .i64 (j : Int), .int .i64 (x + 1)]) := below_setCells' (by omega) _ _ c3
      have hth := there_of c2 (k := 0) (n := 2) (by decide)
      refine last_ (i := 7) (N := none) #[true, true, true, true, true, true, true, true, false] rfl rfl (one_of HT_.out (by kernel_rfl)) (by decide) (fun K hK => ?_)
      rw [if_pos (by rfl)]
      refine wp_store_mid 31 (.tmp 3) (.tmp 38) rfl (w.heap.size + 1 + 1) 0 #[.int .i64 (j : Int), .int .i64 (x + 1)] rfl rfl hth (by kernel_rfl) (by simp [Value.oneCell']) ?_
      refine hK.out _ _ ?_
      clear hK K
      refine pz_ 8 4 HT_ ?_
      refine done_ (done_of HT_.out (by kernel_rfl)) ?_
      clear HT_ HW_
      generalize W4.setCells (w.heap.size + 1 + 1) 0 #[Value.int .i64 (j : Int), .int .i64 (x + 1)].toList = W5 at d1 d2 d3 ⊢
      clear c1 c2 c3 hth
      simp only [Exit.inBlock, Exit.then]
      have hi5 : (Try.prog.info? 28).map (·.size) = some cs'.size := by rw [HP2.out]; kernel_rfl
      go_wp2
      first | go_end0 | ((try simp only [Exit.inBlock, Exit.then]); refine bodyPost_ret (results_list (rs := [.cell 2 28, .cell 3 31, .tmp 4]) rfl (by simp) (.cell _ 28 cs' (0, 0) _ rfl d1 Try.underlying28 rfl hi5 (.cell _ 31 _ (0, 0) _ rfl d2 Try.underlying31 rfl (by kernel_rfl) (.tmp .nil)))) rfl ?_)
      exact ⟨cs', by rw [HXX.out]; rfl, by rw [HXX.out]; exact HCL.out, d3⟩
    · have hnf := hb j (by omega)
      have hc : op j = true ∨ (op j = false ∧ ¬ st j < 1099511627776) := by
        unfold freeAt at hnf
        cases ho : op j with
        | true => exact .inl rfl
        | false => exact .inr ⟨rfl, fun h => hnf ⟨ho, h⟩⟩
      have HB2 : ∀ o, Aside0 (Bx w cs Z (wr.alloc o)) := fun o => Aside0.mk (HB1.out.step ((Below.refl _ _).alloc (Nat.le_refl _) o))
      clear e1 e2 e3 hnf hb
      rcases hc with hc | ⟨hc, hc2⟩
      · rw [hc] at hx
        clear hc
        generalize st j = x at *
        go_wp2
        go_roundg (16 - (j + 1))
        case measure => omega
        case rel => exact ⟨j + 1, by omega, by omega, by go_num, HB2 _⟩
      · rw [hc] at hx
        clear hc
        generalize st j = x at *
        go_wp2
        go_roundg (16 - (j + 1))
        case measure => omega
        case rel => exact ⟨j + 1, by omega, by omega, by go_num, HB2 _⟩
end Go.Proofs.Ytajghkmjgedikaa.Q
