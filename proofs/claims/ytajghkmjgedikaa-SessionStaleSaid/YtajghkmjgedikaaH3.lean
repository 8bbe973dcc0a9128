import Derived.Test.YtajghkmjgedikaaH2
import Derived.Test.YtajghkmjgedikaaQA
namespace Go.Proofs.Ytajghkmjgedikaa.Q
open Go.RowKit Go.Proofs.YtajghkmjgedikaaW Go.Proofs.YtajghkmjgedikaaW.PrintWords Go.Proofs.YtajghkmjgedikaaW.PrintLast Go.Proofs.YtajghkmjgedikaaW.PrintMore
set_option linter.unusedVariables false
set_option linter.unusedSimpArgs false
def freeAt (st : Nat → Int) (op : Nat → Bool) (k : Nat) : Prop := op k = false ∧ st k < 1099511627776
def upd {α : Type} (f : Nat → α) (k : Nat) (v : α) : Nat → α := fun i => if i = k then v else f i
theorem three_boxes (w : World) (o o' o'' : Obj) : (((w.alloc o).alloc o').alloc o'').heap[w.heap.size]? = some o ∧ (((w.alloc o).alloc o').alloc o'').heap[w.heap.size + 1]? = some o' ∧ (((w.alloc o).alloc o').alloc o'').heap[w.heap.size + 1 + 1]? = some o'' ∧ Below w.heap.size w (((w.alloc o).alloc o').alloc o'') :=
  ⟨blk_alloc (two_boxes w o o').1 o'', blk_alloc (two_boxes w o o').2.1 o'', by simpa using blk_new ((w.alloc o).alloc o') o'', ((two_boxes w o o').2.2).alloc (by simp; omega) _⟩
/-- The three boxes of Open. -/
structure Bx (w : World) (cs Z : Array Value) (W : World) : Prop where
  b0 : W.heap[w.heap.size]? = some (.cells cs 28 (0, 0))
  b1 : W.heap[w.heap.size + 1]? = some (.cells Z 28 (0, 0))
  b2 : W.heap[w.heap.size + 1 + 1]? = some (.cells #[.int .i64 0, .int .i64 0] 31 (0, 0))
  be : Below w.heap.size w W
theorem Bx.step {w : World} {cs Z : Array Value} {W W' : World} (h : Bx w cs Z W) (hb : Below W.heap.size W W') : Bx w cs Z W' :=
  ⟨blk_below h.b0 hb, blk_below h.b1 hb, blk_below h.b2 hb, below_then h.be h.be.size hb⟩
theorem Bx.start (w : World) (cs Z : Array Value) : Bx w cs Z (((w.alloc (Obj.cells cs 28)).alloc (Obj.cells Z 28)).alloc (Obj.cells #[.int .i64 0, .int .i64 0] 31)) :=
  ⟨(three_boxes _ _ _ _).1, (three_boxes _ _ _ _).2.1, (three_boxes _ _ _ _).2.2.1, (three_boxes _ _ _ _).2.2.2⟩
theorem Bx.range {w : World} {cs Z : Array Value} {W : World} (h : Bx w cs Z W) (hz : cs.size = 48) : W.rangeAt w.heap.size 0 cs.toList :=
  (load_all (u := 28) h.b0 Try.underlying28 rfl (by rw [hz]; kernel_rfl)).1
theorem below_setCells' {B b : Nat} {a : World} (hb : B ≤ b) : ∀ (vs : List Value) (o : Nat) {w : World}, Below B a w → Below B a (w.setCells b o vs)
  | [], _, _, h => h
  | v :: r, o, w, h => below_setCells' hb r (o + 1) (h.setCell hb _)
theorem put3 {cs : Array Value} {cs' : Array Value} {k : Nat} {a b c : Value} (hz : cs.size = 48) (hk : k < 16) (h : cs'.toList = cs.toList.take (k * 3) ++ [a, b, c] ++ cs.toList.drop (k * 3 + 3)) (hs : cs'.size = 48) :
    cs'[k * 3]? = some a ∧ cs'[k * 3 + 1]? = some b ∧ cs'[k * 3 + 2]? = some c ∧ ∀ i, (i < k * 3 ∨ k * 3 + 3 ≤ i) → cs'[i]? = cs[i]? := by
  have hl : cs.toList.length = 48 := by rw [Array.length_toList, hz]
  have ht : (cs.toList.take (k * 3)).length = k * 3 := by rw [List.length_take, hl]; omega
  have g : ∀ i, cs'[i]? = (cs.toList.take (k * 3) ++ [a, b, c] ++ cs.toList.drop (k * 3 + 3))[i]? := fun i => by rw [← h, Array.getElem?_toList]
  refine ⟨?_, ?_, ?_, fun i hi => ?_⟩
  · rw [g, List.append_assoc, List.getElem?_append_right (by omega), ht, Nat.sub_self]; rfl
  · rw [g, List.append_assoc, List.getElem?_append_right (by omega), ht, show k * 3 + 1 - k * 3 = 1 by omega]; rfl
  · rw [g, List.append_assoc, List.getElem?_append_right (by omega), ht, show k * 3 + 2 - k * 3 = 2 by omega]; rfl
  · rcases hi with hi | hi
    · rw [g, List.append_assoc, List.getElem?_append_left (by omega), List.getElem?_take, if_pos hi, Array.getElem?_toList]
    · rw [g, List.getElem?_append_right (by rw [List.length_append, ht]; exact hi), List.length_append, ht, List.getElem?_drop]
      rw [show k * 3 + 3 + (i - (k * 3 + [a, b, c].length)) = i by simp; omega, Array.getElem?_toList]
theorem Bx.put {w : World} {cs Z : Array Value} {W : World} (h : Bx w cs Z W) (hz : cs.size = 48) {k : Nat} (hk : k < 16) (a b c : Value) :
    ∃ cs', Bx w cs' Z (W.setCells w.heap.size (k * 3) [a, b, c]) ∧ cs'.size = 48 ∧ (cs'[k * 3]? = some a ∧ cs'[k * 3 + 1]? = some b ∧ cs'[k * 3 + 2]? = some c ∧ ∀ i, (i < k * 3 ∨ k * 3 + 3 ≤ i) → cs'[i]? = cs[i]?) := by
  obtain ⟨cs', h1, h2, h3⟩ := setCells_row [a, b, c] (k * 3) W cs h.b0 (by rw [hz]; show k * 3 + 3 ≤ 48; omega)
  refine ⟨cs', ⟨h1, ?_, ?_, ?_⟩, by rw [h2, hz], put3 hz hk h3 (by rw [h2, hz])⟩
  · rw [setCells_far _ _ _ (by omega)]; exact h.b1
  · rw [setCells_far _ _ _ (by omega)]; exact h.b2
  · exact below_setCells' (Nat.le_refl _) _ _ h.be
theorem Bx.there {w : World} {cs Z : Array Value} {W : World} (h : Bx w cs Z W) (hz : cs.size = 48) {k n : Nat} (hk : k + n ≤ 48) : W.there w.heap.size k n := fun j hj => by
  constructor
  · rw [blk_cell h.b0]
    have : k + j < cs.size := by omega
    simp [this]
  · simp [World.frozen?, h.b0]
theorem there_of {W : World} {g : Nat} {cs : Array Value} {t : TypeId} (hb : W.heap[g]? = some (.cells cs t (0, 0))) {k n : Nat} (hk : k + n ≤ cs.size) : W.there g k n := fun j hj => by
  constructor
  · rw [blk_cell hb]
    have : k + j < cs.size := by omega
    simp [this]
  · simp [World.frozen?, hb]
theorem fill_row {W : World} {g : Nat} {cs vs : Array Value} {t : TypeId} (hb : W.heap[g]? = some (.cells cs t (0, 0))) (hs : vs.size = cs.size) : (W.setCells g 0 vs.toList).heap[g]? = some (.cells vs t (0, 0)) := by
  obtain ⟨c, h1, h2, h3⟩ := setCells_row vs.toList 0 W cs hb (by simp; omega)
  have : c = vs := by
    apply Array.toList_inj.1
    rw [h3, List.take_zero, List.nil_append, List.drop_eq_nil_of_le (by simp; omega), List.append_nil]
  rw [h1, this]
def reg7.T8 : Bool × List (List Nat × List Nat) := (true, [([], []), ([], []), ([], []), ([2], [2]), ([3], [3]), ([1, 4], [1, 4]), ([0, 0], [0]), ([5, 6, 0, 1, 2, 3, 4, 5, 6], [5]), ([7, 0, 1, 2, 3, 4, 5, 6, 7], [])])
def reg7.B8 : List Nat := [0, 0, 0, 4, 12, 30, 1, 127, 255]
theorem reg7.tab8 : rtab .any (opsOf Try.f7 8) = reg7.T8 := by kernel_rfl
theorem reg7.bits8 : waitsOk reg7.T8.2 reg7.B8 = true := by kernel_rfl
end Go.Proofs.Ytajghkmjgedikaa.Q
