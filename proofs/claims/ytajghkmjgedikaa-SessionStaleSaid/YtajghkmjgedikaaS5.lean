import Derived.Test.YtajghkmjgedikaaS4
namespace Go.Proofs.Ytajghkmjgedikaa.Q
open Go.RowKit Go.Proofs.YtajghkmjgedikaaW Go.Proofs.YtajghkmjgedikaaW.PrintWords Go.Proofs.YtajghkmjgedikaaW.PrintLast Go.Proofs.YtajghkmjgedikaaW.PrintMore
set_option linter.unusedVariables false
set_option linter.unusedSimpArgs false
/-! ### Loads and stores of whole tables and handles -/
section
variable {ops : Array Oper} {rest : List Oper} {op : Oper} {a : Act} {w : World} {Q : Exit → Act → World → Prop}
theorem ld28 (x : Operand) (g : Nat) (cs : Array Value) (hb : w.heap[g]? = some (.cells cs 28 (0, 0))) (hs : cs.size = 48) (h : wpList Try.prog ops Q rest (a.put op.dst (.agg cs)) w)
    (ho : op.op = .load 28 x := by rfl) (hx : a.eval x = .pointer (some ⟨g, 0, none⟩) := by rfl) (hw : Region.wanted op (yielded ops a.tmps) = true := by rfl) : wpList Try.prog ops Q (op :: rest) a w := by
  refine wpList_step fun K hK => ?_
  rw [hw, if_pos rfl]
  refine wp_load_mid 28 x ho g 0 hx cs.toList _ (load_all (u := 28) hb Try.underlying28 rfl (by rw [hs]; kernel_rfl)).1 Try.underlying28 rfl (by rw [Array.length_toList, hs]; kernel_rfl) (hK _ _ ?_)
  exact h
theorem ld31 (x : Operand) (g : Nat) (p q : Int) (hb : w.heap[g]? = some (.cells #[.int .i64 p, .int .i64 q] 31 (0, 0))) (h : wpList Try.prog ops Q rest (a.put op.dst (.agg #[.int .i64 p, .int .i64 q])) w)
    (ho : op.op = .load 31 x := by rfl) (hx : a.eval x = .pointer (some ⟨g, 0, none⟩) := by rfl) (hw : Region.wanted op (yielded ops a.tmps) = true := by rfl) : wpList Try.prog ops Q (op :: rest) a w := by
  refine wpList_step fun K hK => ?_
  rw [hw, if_pos rfl]
  refine wp_load_mid 31 x ho g 0 hx [.int .i64 p, .int .i64 q] _ (load_all (u := 31) hb Try.underlying31 rfl (by kernel_rfl)).1 Try.underlying31 rfl (by kernel_rfl) (hK _ _ ?_)
  exact h
/-- What a store into a box leaves. -/
structure Put (w : World) (g : Nat) (cs : Array Value) (t : TypeId) (W : World) : Prop where
  at_ : W.heap[g]? = some (.cells cs t (0, 0))
  far : ∀ k, k ≠ g → W.heap[k]? = w.heap[k]?
  below : ∀ B a, B ≤ g → Below B a w → Below B a W
  size : W.heap.size = w.heap.size
theorem Put.mk' {g : Nat} {cs cs0 : Array Value} {t : TypeId} (hb : w.heap[g]? = some (.cells cs0 t (0, 0))) (hs : cs.size = cs0.size) : Put w g cs t (w.setCells g 0 cs.toList) :=
  ⟨fill_row hb hs, fun k hk => setCells_far _ _ _ hk, fun B a h hb => below_setCells' h _ _ hb, (setCells_same g cs.toList 0 w).2.2.2⟩
theorem st28 (x y : Operand) (g : Nat) (cs cs0 : Array Value) (hb : w.heap[g]? = some (.cells cs0 28 (0, 0))) (hs0 : cs0.size = 48) (hs : cs.size = 48) (h1 : cs.all (·.oneCell') = true)
    (h : ∀ W, Put w g cs 28 W → wpList Try.prog ops Q rest (a.put op.dst undef) W)
    (ho : op.op = .store 28 x y := by rfl) (hx : a.eval x = .pointer (some ⟨g, 0, none⟩) := by rfl) (hy : a.eval y = .agg cs := by rfl) (hg : op.guard = none := by rfl) : wpList Try.prog ops Q (op :: rest) a w :=
  wpList_store_mid hg 28 x y ho g 0 cs hx hy (there_of hb (by rw [hs0, hs]; decide)) (by rw [hs]; kernel_rfl) h1 (h _ (Put.mk' hb (by rw [hs, hs0])))
theorem st31 (x y : Operand) (g : Nat) (p q : Int) (cs0 : Array Value) (hb : w.heap[g]? = some (.cells cs0 31 (0, 0))) (hs0 : cs0.size = 2)
    (h : ∀ W, Put w g #[.int .i64 p, .int .i64 q] 31 W → wpList Try.prog ops Q rest (a.put op.dst undef) W)
    (ho : op.op = .store 31 x y := by rfl) (hx : a.eval x = .pointer (some ⟨g, 0, none⟩) := by rfl) (hy : a.eval y = .agg #[.int .i64 p, .int .i64 q] := by rfl) (hg : op.guard = none := by rfl) : wpList Try.prog ops Q (op :: rest) a w :=
  wpList_store_mid hg 31 x y ho g 0 #[.int .i64 p, .int .i64 q] hx hy (there_of hb (by rw [hs0]; exact Nat.le_refl 2)) (by kernel_rfl) (by simp [Value.oneCell']) (h _ (Put.mk' hb (by rw [hs0]; rfl)))
end
def Z31 : Array Value := #[.int .i64 0, .int .i64 0]
theorem RowOf.put {g : Nat} {l : List Int} {v : Value} {w W : World} {c cs : Array Value} {t : TypeId} (h : RowOf w l v) (hb : w.heap[g]? = some (.cells c t (0, 0))) (ht : t ≠ 3) (hp : Put w g cs t W) : RowOf W l v := by
  have h2 := Kd.R_types h hb (fun q hq => by
    have hq' : q ∈ [3] := hq
    have : q = 3 := by simpa using hq'
    rw [this]; exact fun e => ht e.symm)
  exact Kd.R_mono (Kd.R_step h2 (fun k hk _ => hp.far k hk.2)) (fun k hk => hk.1)
theorem Rows3.put {g : Nat} {ls : Nat → List Int} {tx : Nat → Value} {w W : World} {c cs : Array Value} {t : TypeId} (h : Rows3 w ls tx) (hb : w.heap[g]? = some (.cells c t (0, 0))) (ht : t ≠ 3) (hp : Put w g cs t W) : Rows3 W ls tx := fun i hi => (h i hi).put hb ht hp
/-- A table and a handle, newly boxed. -/
theorem two_new (W : World) : ((W.alloc (Obj.cells Z48 28)).alloc (Obj.cells Z31 31)).heap[W.heap.size]? = some (.cells Z48 28 (0, 0)) ∧ ((W.alloc (Obj.cells Z48 28)).alloc (Obj.cells Z31 31)).heap[W.heap.size + 1]? = some (.cells Z31 31 (0, 0)) ∧ Below W.heap.size W ((W.alloc (Obj.cells Z48 28)).alloc (Obj.cells Z31 31)) := two_boxes W _ _
theorem rows_one {w : World} {ls : Nat → List Int} {tx : Nat → Value} {cs : Array Value} {st : Nat → Int} {op : Nat → Bool} (h : Cells cs st op tx) (hr : Rows3 w ls tx) : cs.all (·.oneCell') = true := cells_one2 h (fun i hi => (hr i hi).one)
/-- The table of nobody. -/
theorem z_cells : Cells Z48 (fun _ => 0) (fun _ => false) (fun _ => .slice none 0 0) := by
  refine ⟨rfl, ?_, ?_, ?_⟩ <;> (intro i hi; have : i = 0 ∨ i = 1 ∨ i = 2 ∨ i = 3 ∨ i = 4 ∨ i = 5 ∨ i = 6 ∨ i = 7 ∨ i = 8 ∨ i = 9 ∨ i = 10 ∨ i = 11 ∨ i = 12 ∨ i = 13 ∨ i = 14 ∨ i = 15 := by omega) <;> (rcases this with h | h | h | h | h | h | h | h | h | h | h | h | h | h | h | h <;> (subst h; rfl))
theorem z_rows (w : World) : Rows3 w (fun _ => []) (fun _ => .slice none 0 0) := fun i hi => RowOf.nil w
theorem z_sane : SaneT (fun _ => 0) (fun _ => false) (fun _ => []) := ⟨fun i hi => by simp, fun i hi h => rfl, fun i hi => ⟨List.Pairwise.nil, by simp⟩, fun i j x hi hj h => by simp at h⟩
theorem SaneT.opened {st : Nat → Int} {op : Nat → Bool} {ls : Nat → List Int} (h : SaneT st op ls) {k : Nat} (hk : k < 16) (hf : freeAt st op k) : SaneT (upd st k (st k + 1)) (upd op k true) ls := by
  have := hf.2
  refine ⟨fun i hi => ?_, fun i hi ho => ?_, h.rows, h.one⟩
  · have h0 := h.stamp i hi
    unfold upd
    split
    · next e => subst e; omega
    · exact h0
  · unfold upd at ho
    split at ho
    · cases ho
    · exact h.shut i hi ho
theorem SaneT.closed {st : Nat → Int} {op : Nat → Bool} {ls : Nat → List Int} (h : SaneT st op ls) {k : Nat} (hk : k < 16) : SaneT st (upd op k false) (upd ls k []) := by
  refine ⟨h.stamp, fun i hi ho => ?_, fun i hi => ?_, fun i j x hi hj h1 h2 => ?_⟩
  · unfold upd at ho ⊢
    split
    · rfl
    · next e => rw [if_neg e] at ho; exact h.shut i hi ho
  · unfold upd
    split
    · exact ⟨List.Pairwise.nil, by simp⟩
    · exact h.rows i hi
  · unfold upd at h1 h2
    split at h1
    · cases h1
    · split at h2
      · cases h2
      · exact h.one i j x hi hj h1 h2
structure S31 where
  f0 : Int
  f1 : Int
def z31 : S31 := ⟨(0 : Int), (0 : Int)⟩
def k31 : Kd S31 := Kd.iso (Kd.pair (Kd.int .i64) (Kd.int .i64)) (fun x : S31 => (x.f0, x.f1))
theorem k31_open {w : World} {x : S31} {cs : List Value} (h : k31.K w x cs) : cs = [.int .i64 x.f0, .int .i64 x.f1] := by
  obtain ⟨_, _, rfl, rfl, rfl⟩ := h
  exact rfl
theorem k31_mkM (w : World) (base : Nat) (ok : Nat → Prop) (x : S31)  : k31.M w base ok x [.int .i64 x.f0, .int .i64 x.f1] := ⟨[.int .i64 x.f0], [.int .i64 x.f1], rfl, rfl, rfl⟩
def rd_T31 (xs : List S31) (i : Int) : S31 := xs.getD i.toNat z31
theorem at_T31 {w : World} {A : Option Addr} {n : Nat} {xs : List S31} (h : Kd.C k31 w A n xs) (i : Int) (h0 : 0 ≤ i) (h1 : i < n) : ∃ ad , A = some ad ∧ w.cell? (ad.add (i.toNat * 2)) = some (.int .i64 (rd_T31 xs i).f0) ∧ w.cell? ⟨(ad.add (i.toNat * 2)).block, (ad.add (i.toNat * 2)).off + 1, none⟩ = some (.int .i64 (rd_T31 xs i).f1) := by
  obtain ⟨ad, c, e, _, hK, hc0⟩ := Kd.C_get h z31 i h0 h1
  have hc : ∀ j u, c[j]? = some u → w.cell? (ad.add (i.toNat * 2 + j)) = some u := hc0
  obtain rfl := k31_open hK
  exact ⟨ad, e, hc 0 _ rfl, by rw [← add_field _ _ 1 (by omega)]; exact hc 1 _ rfl⟩

theorem open_at (cs : Array Value) (st : Nat → Int) (op : Nat → Bool) (ls : Nat → List Int) (tx : Nat → Value) (h : Cells cs st op tx) (hsn : SaneT st op ls) (w : World) (hrow : Rows3 w ls tx) (k : Nat) (hk : k < 16) (hf : freeAt st op k) (hb : ∀ j, j < k → ¬ freeAt st op j) (a b : Int) (ha : (k : Int) = a) (hb' : st k + 1 = b) :
    Calls Try.prog 7 #[.agg cs] w fun e w' => ∃ cs' tx', e = .returned (.tuple #[.agg cs', .agg #[.int .i64 a, .int .i64 b], .int .i64 0]) ∧ Cells cs' (upd st k b) (upd op k true) tx' ∧ Rows3 w' ls tx' ∧ SaneT (upd st k b) (upd op k true) ls ∧ Below w.heap.size w w' := by
  subst ha; subst hb'
  refine (open_ok cs st op ls tx h hsn w hrow k hk hf hb).mono ?_
  rintro e w1 ⟨cs', tx', h1, h2, h3, _, h4⟩
  exact ⟨cs', tx', h1, h2, h3, hsn.opened hk hf, h4⟩
theorem close_at (cs : Array Value) (st : Nat → Int) (op : Nat → Bool) (ls : Nat → List Int) (tx : Nat → Value) (h : Cells cs st op tx) (hsn : SaneT st op ls) (w : World) (hrow : Rows3 w ls tx) (k : Nat) (hk : k < 16) (ho : op k = true) (a b : Int) (ha : (k : Int) = a) (hb : st k = b) :
    Calls Try.prog 8 #[.agg cs, .agg #[.int .i64 a, .int .i64 b]] w fun e w' => ∃ cs' tx' v, e = .returned (.tuple #[.agg cs', v, .int .i64 0]) ∧ Cells cs' st (upd op k false) tx' ∧ Rows3 w' (upd ls k []) tx' ∧ RowOf w' (ls k) v ∧ SaneT st (upd op k false) (upd ls k []) ∧ Below w.heap.size w w' := by
  subst ha; subst hb
  refine (close_ok cs st op ls tx h hsn w hrow k hk ho).mono ?_
  rintro e w1 ⟨⟨cs', tx', v, h1, h2, h3, h4, _⟩, h5⟩
  exact ⟨cs', tx', v, h1, h2, h3, h4, hsn.closed hk, h5⟩
theorem live_at (cs : Array Value) (st : Nat → Int) (op : Nat → Bool) (tx : Nat → Value) (h : Cells cs st op tx) (a b : Int) (w : World) (r : Bool) (hr : liveS st op a b = r) :
    Calls Try.prog 9 #[.agg cs, .agg #[.int .i64 a, .int .i64 b]] w fun e w' => e = .returned (.bool r) ∧ Below w.heap.size w w' := by
  subst hr; exact live_any cs st op tx h a b w
theorem two_put {w1 W2 W3 : World} {cs1 c2 : Array Value} (hp2 : Put ((w1.alloc (Obj.cells Z48 28)).alloc (Obj.cells Z31 31)) w1.heap.size cs1 28 W2) (hp3 : Put W2 (w1.heap.size + 1) c2 31 W3) :
    W3.heap[w1.heap.size]? = some (.cells cs1 28 (0, 0)) ∧ W3.heap[w1.heap.size + 1]? = some (.cells c2 31 (0, 0)) ∧ Below w1.heap.size w1 W3 :=
  ⟨(hp3.far _ (by omega)).trans hp2.at_, hp3.at_, hp3.below _ _ (by omega) (hp2.below _ _ (Nat.le_refl _) (two_new w1).2.2)⟩
theorem one_put {w1 W2 : World} {cs1 : Array Value} (hp2 : Put (w1.alloc (Obj.cells Z48 28)) w1.heap.size cs1 28 W2) :
    W2.heap[w1.heap.size]? = some (.cells cs1 28 (0, 0)) ∧ Below w1.heap.size w1 W2 :=
  ⟨hp2.at_, hp2.below _ _ (Nat.le_refl _) ((Below.refl _ _).alloc (Nat.le_refl _) _)⟩
end Go.Proofs.Ytajghkmjgedikaa.Q
