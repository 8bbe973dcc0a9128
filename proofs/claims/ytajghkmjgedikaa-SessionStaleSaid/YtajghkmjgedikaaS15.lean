import Derived.Test.YtajghkmjgedikaaS14
import Derived.Test.YtajghkmjgedikaaFSessionStale
namespace Go.Proofs.Ytajghkmjgedikaa.Q
open Go.RowKit Go.Proofs.YtajghkmjgedikaaW Go.Proofs.YtajghkmjgedikaaW.PrintWords Go.Proofs.YtajghkmjgedikaaW.PrintLast Go.Proofs.YtajghkmjgedikaaW.PrintMore
set_option linter.unusedVariables false
set_option linter.unusedSimpArgs false
/-! ### The box of SessionStale's world -/
structure Bw (g : Nat) (cs : Array Value) (v1 v2 v3 : Value) (W : World) : Prop where
  at_ : W.heap[g]? = some (.cells (cs ++ #[v1, v2, v3]) 44 (0, 0))
  size : cs.size = 48
section
variable {g : Nat} {cs : Array Value} {v1 v2 v3 : Value} {W W' : World}
theorem Bw.range (h : Bw g cs v1 v2 v3 W) : W.rangeAt g 0 cs.toList := by
  intro j v hv
  rw [Nat.zero_add, blk_cell h.at_]
  have hj := (List.getElem?_eq_some_iff.1 hv).1
  rw [Array.length_toList] at hj
  rw [Array.getElem?_append, if_pos hj]
  simpa using hv
theorem Bw.c1 (h : Bw g cs v1 v2 v3 W) : W.cell? ⟨g, 48, none⟩ = some v1 := by
  rw [blk_cell h.at_, Array.getElem?_append, if_neg (by rw [h.size]; omega), h.size]; rfl
theorem Bw.c2 (h : Bw g cs v1 v2 v3 W) : W.cell? ⟨g, 49, none⟩ = some v2 := by
  rw [blk_cell h.at_, Array.getElem?_append, if_neg (by rw [h.size]; omega), h.size]; rfl
theorem Bw.c3 (h : Bw g cs v1 v2 v3 W) : W.cell? ⟨g, 50, none⟩ = some v3 := by
  rw [blk_cell h.at_, Array.getElem?_append, if_neg (by rw [h.size]; omega), h.size]; rfl
theorem Bw.fz (h : Bw g cs v1 v2 v3 W) (j : Nat) : W.frozen? ⟨g, j, none⟩ = false := blk_frozen h.at_ j
theorem Bw.below (h : Bw g cs v1 v2 v3 W) (hb : Below W.heap.size W W') : Bw g cs v1 v2 v3 W' := ⟨blk_below h.at_ hb, h.size⟩
theorem Bw.far (h : Bw g cs v1 v2 v3 W) (hf : W'.heap[g]? = W.heap[g]?) : Bw g cs v1 v2 v3 W' := ⟨hf.trans h.at_, h.size⟩
theorem Bw.there (h : Bw g cs v1 v2 v3 W) : W.there g 0 48 := there_of h.at_ (by rw [Array.size_append, h.size]; simp)
theorem Bw.put (h : Bw g cs v1 v2 v3 W) {cs' : Array Value} (hs : cs'.size = 48) : Bw g cs' v1 v2 v3 (W.setCells g 0 cs'.toList) := by
  obtain ⟨c, h1, h2, h3⟩ := setCells_row cs'.toList 0 W _ h.at_ (by rw [Array.length_toList, Array.size_append, hs, h.size]; simp)
  refine ⟨?_, hs⟩
  have : c = cs' ++ #[v1, v2, v3] := by
    apply Array.toList_inj.1
    rw [h3, List.take_zero, List.nil_append, Array.toList_append, Array.toList_append]
    congr 1
    rw [Nat.zero_add, Array.length_toList, hs, List.drop_left' (by rw [Array.length_toList, h.size])]
  rw [h1, this]
theorem Bw.set1 (h : Bw g cs v1 v2 v3 W) (v : Value) : Bw g cs v v2 v3 (W.setCell ⟨g, 48, none⟩ v) := by
  refine ⟨?_, h.size⟩
  rw [blk_set h.at_]
  congr 2
  apply Array.toList_inj.1
  simp [List.set_append, h.size]
theorem Bw.set2 (h : Bw g cs v1 v2 v3 W) (v : Value) : Bw g cs v1 v v3 (W.setCell ⟨g, 49, none⟩ v) := by
  refine ⟨?_, h.size⟩
  rw [blk_set h.at_]
  congr 2
  apply Array.toList_inj.1
  simp [List.set_append, h.size]
theorem hr_ {b o : Nat} {l : List Value} (hb : Below W.heap.size W W') (h : W.rangeAt b o l) : W'.rangeAt b o l := fun j v hj => hh_ hb (h j v hj)
theorem drew_range {b o : Nat} {l : List Value} (h : W.rangeAt b o l) : W.drew.rangeAt b o l := h
end
/-- The world that stands for a model. -/
structure Wd (w0 : World) (g go : Nat) (m : Mdl) (W : World) : Prop where
  be : Below w0.heap.size w0 W
  gb : w0.heap.size ≤ g
  inv : Inv m
  ex : ∃ cs tx v1 v2, Bw g cs v1 v2 (.slice (some ⟨go, 0, none⟩) 64 64) W ∧ Cells cs m.st m.op tx ∧ Rows3 W m.ls tx ∧ (∀ i, i < 16 → ∀ k, (tx i).ownBlock = some k → go < k) ∧ k31.R 31 W w0.heap.size (fun _ => True) v1 m.H ∧ Kd.bool.R 4 W w0.heap.size (fun _ => True) v2 m.C ∧ (Kd.int .i64).R 3 W w0.heap.size (fun k => k = go) (.slice (some ⟨go, 0, none⟩) 64 64) m.O
end Go.Proofs.Ytajghkmjgedikaa.Q
