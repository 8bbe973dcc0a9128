/- ours, theirs: the parts come back. No condition. -/
import Derived.Test.YthcikbbglpdjhaaQ0
namespace Go.Proofs.Ythcikbbglpdjhaa.Q
open Go.RowKit Go.Proofs.YthcikbbglpdjhaaW Go.Proofs.YthcikbbglpdjhaaW.PrintWords Go.Proofs.YthcikbbglpdjhaaW.PrintLast Go.Proofs.YthcikbbglpdjhaaW.PrintMore
set_option linter.unusedVariables false
set_option linter.unusedSimpArgs false
def heronrylaw18_ours.f (a0_0 a0_1 : Int) (l0_2 : List S44) (l0_3 : List S46) : Option Unit := some ()
def heronrylaw18_theirs.f (a0_0 a0_1 : Int) (l0_2 : List S44) (l0_3 : List S46) : Option Unit := some ()
theorem heronrylaw18_ours.calls (a0_0 a0_1 : Int) (A0_2 : Option Addr) (c0_2 : Nat) (l0_2 : List S44) (A0_3 : Option Addr) (c0_3 : Nat) (l0_3 : List S46) (w : World) (hr0_2 : Kd.C k44 w A0_2 l0_2.length l0_2) (hc0_2 : l0_2.length ≤ c0_2) (hr0_3 : Kd.C k46 w A0_3 l0_3.length l0_3) (hc0_3 : l0_3.length ≤ c0_3) (h : heronrylaw18_ours.f a0_0 a0_1 l0_2 l0_3 = some ()) :
    Calls Try.prog 16 #[.agg #[.int .i64 a0_0, .int .i64 a0_1, .slice A0_2 l0_2.length c0_2, .slice A0_3 l0_3.length c0_3]] w fun e w' => e = .returned (.agg #[.int .i64 a0_0, .int .i64 a0_1, .slice A0_2 l0_2.length c0_2, .slice A0_3 l0_3.length c0_3]) ∧ Below w.heap.size w w' := by
  have hu := Try.underlying27
  have hu2 := Try.underlying32
  generalize l0_2.length = n2 at *
  generalize l0_3.length = n3 at *
  clear hr0_2 hr0_3 hc0_2 hc0_3 h
  go_enter Try.func16, Try.ntmps16
  go_wp2
  obtain ⟨w2, hw2⟩ : ∃ w2, (w.alloc (.cells #[.int .i64 a0_0, .int .i64 a0_1, .slice A0_2 n2 c0_2, .slice A0_3 n3 c0_3] 32)).alloc (.cells #[.int .i64 a0_0, .int .i64 a0_1, .slice A0_2 n2 c0_2, .slice A0_3 n3 c0_3] 27) = w2 := ⟨_, rfl⟩
  have hb : w2.heap[w.heap.size + 1]? = some (.cells #[.int .i64 a0_0, .int .i64 a0_1, .slice A0_2 n2 c0_2, .slice A0_3 n3 c0_3] 27 (0, 0)) := by rw [← hw2]; simpa using blk_new (w.alloc (.cells #[.int .i64 a0_0, .int .i64 a0_1, .slice A0_2 n2 c0_2, .slice A0_3 n3 c0_3] 32)) (.cells #[.int .i64 a0_0, .int .i64 a0_1, .slice A0_2 n2 c0_2, .slice A0_3 n3 c0_3] 27)
  have hbl : Below w.heap.size w w2 := by rw [← hw2]; exact ((Below.refl _ w).alloc (Nat.le_refl _) _).alloc (by simp) _
  rw [hw2]
  have c0 : w2.cell? ⟨w.heap.size + 1, 0, none⟩ = some (.int .i64 a0_0) := (blk_cell hb 0).trans rfl
  have c1 : w2.cell? ⟨w.heap.size + 1, 1, none⟩ = some (.int .i64 a0_1) := (blk_cell hb 1).trans rfl
  have c2 : w2.cell? ⟨w.heap.size + 1, 2, none⟩ = some (.slice A0_2 n2 c0_2) := (blk_cell hb 2).trans rfl
  have c3 : w2.cell? ⟨w.heap.size + 1, 3, none⟩ = some (.slice A0_3 n3 c0_3) := (blk_cell hb 3).trans rfl
  clear hb hw2
  generalize w.heap.size + 1 = b2 at *
  refine bodyPost_ret (v := .agg #[.int .i64 a0_0, .int .i64 a0_1, .slice A0_2 n2 c0_2, .slice A0_3 n3 c0_3]) ?_ rfl ⟨rfl, hbl⟩
  show (results Try.f16 _).run Try.prog w2 = _
  have hf : Try.f16.results = #[.cell 2 27] := rfl
  unfold results
  rw [hf]
  go_simp
  try rfl
theorem heronrylaw18_theirs.calls (a0_0 a0_1 : Int) (A0_2 : Option Addr) (c0_2 : Nat) (l0_2 : List S44) (A0_3 : Option Addr) (c0_3 : Nat) (l0_3 : List S46) (w : World) (hr0_2 : Kd.C k44 w A0_2 l0_2.length l0_2) (hc0_2 : l0_2.length ≤ c0_2) (hr0_3 : Kd.C k46 w A0_3 l0_3.length l0_3) (hc0_3 : l0_3.length ≤ c0_3) (h : heronrylaw18_theirs.f a0_0 a0_1 l0_2 l0_3 = some ()) :
    Calls Try.prog 12 #[.agg #[.int .i64 a0_0, .int .i64 a0_1, .slice A0_2 l0_2.length c0_2, .slice A0_3 l0_3.length c0_3]] w fun e w' => e = .returned (.agg #[.int .i64 a0_0, .int .i64 a0_1, .slice A0_2 l0_2.length c0_2, .slice A0_3 l0_3.length c0_3]) ∧ Below w.heap.size w w' := by
  have hu := Try.underlying27
  have hu2 := Try.underlying32
  generalize l0_2.length = n2 at *
  generalize l0_3.length = n3 at *
  clear hr0_2 hr0_3 hc0_2 hc0_3 h
  go_enter Try.func12, Try.ntmps12
  go_wp2
  obtain ⟨w2, hw2⟩ : ∃ w2, (w.alloc (.cells #[.int .i64 a0_0, .int .i64 a0_1, .slice A0_2 n2 c0_2, .slice A0_3 n3 c0_3] 27)).alloc (.cells #[.int .i64 a0_0, .int .i64 a0_1, .slice A0_2 n2 c0_2, .slice A0_3 n3 c0_3] 32) = w2 := ⟨_, rfl⟩
  have hb : w2.heap[w.heap.size + 1]? = some (.cells #[.int .i64 a0_0, .int .i64 a0_1, .slice A0_2 n2 c0_2, .slice A0_3 n3 c0_3] 32 (0, 0)) := by rw [← hw2]; simpa using blk_new (w.alloc (.cells #[.int .i64 a0_0, .int .i64 a0_1, .slice A0_2 n2 c0_2, .slice A0_3 n3 c0_3] 27)) (.cells #[.int .i64 a0_0, .int .i64 a0_1, .slice A0_2 n2 c0_2, .slice A0_3 n3 c0_3] 32)
  have hbl : Below w.heap.size w w2 := by rw [← hw2]; exact ((Below.refl _ w).alloc (Nat.le_refl _) _).alloc (by simp) _
  rw [hw2]
  have c0 : w2.cell? ⟨w.heap.size + 1, 0, none⟩ = some (.int .i64 a0_0) := (blk_cell hb 0).trans rfl
  have c1 : w2.cell? ⟨w.heap.size + 1, 1, none⟩ = some (.int .i64 a0_1) := (blk_cell hb 1).trans rfl
  have c2 : w2.cell? ⟨w.heap.size + 1, 2, none⟩ = some (.slice A0_2 n2 c0_2) := (blk_cell hb 2).trans rfl
  have c3 : w2.cell? ⟨w.heap.size + 1, 3, none⟩ = some (.slice A0_3 n3 c0_3) := (blk_cell hb 3).trans rfl
  clear hb hw2
  generalize w.heap.size + 1 = b2 at *
  refine bodyPost_ret (v := .agg #[.int .i64 a0_0, .int .i64 a0_1, .slice A0_2 n2 c0_2, .slice A0_3 n3 c0_3]) ?_ rfl ⟨rfl, hbl⟩
  show (results Try.f12 _).run Try.prog w2 = _
  have hf : Try.f12.results = #[.cell 2 32] := rfl
  unfold results
  rw [hf]
  go_simp
  try rfl
end Go.Proofs.Ythcikbbglpdjhaa.Q
