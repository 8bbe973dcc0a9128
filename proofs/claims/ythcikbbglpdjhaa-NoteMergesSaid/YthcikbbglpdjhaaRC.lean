/- Decode's deferred closure. No condition. -/
import Derived.Test.YthcikbbglpdjhaaRO
import Derived.Test.YthcikbbglpdjhaaQA
import Derived.Recover
namespace Go.Proofs.Ythcikbbglpdjhaa.Q
open Go.RowKit Go.Proofs.YthcikbbglpdjhaaW Go.Proofs.YthcikbbglpdjhaaW.PrintWords Go.Proofs.YthcikbbglpdjhaaW.PrintLast Go.Proofs.YthcikbbglpdjhaaW.PrintMore
set_option linter.unusedVariables false
set_option linter.unusedSimpArgs false
def reg24.T7 : Bool × List (List Nat × List Nat) := (true, [([], []), ([], []), ([1], [1]), ([0, 0], [0]), ([2, 3, 0, 1, 2, 3], [2])])
def reg24.B7 : List Nat := [0, 0, 2, 1, 15]
theorem reg24.tab7 : rtab .any (opsOf Try.f24 7) = reg24.T7 := by kernel_rfl
theorem reg24.bits7 : waitsOk reg24.T7.2 reg24.B7 = true := by kernel_rfl
set_option maxRecDepth 100000 in
theorem cl_ret (b2 b3 : Nat) (W : World) : CallsD Try.prog 24 #[.pointer (some ⟨b2, 0, none⟩), .pointer (some ⟨b3, 0, none⟩)] .returning W fun e u' w' => e = .returned (.tuple #[]) ∧ u' = .returning ∧ w' = W := by
  refine callsD_of_wpS Try.func24 rfl (fun c₀ cs hu => ?_)
  refine wpS_seq ?_
  refine wpS_region ?_
  simp [wpOpsS, go_sem, recoverD, hu, Try.ntmps24, Exit.thenS]
  refine wpS_of_wp ?_
  go_wp2
  refine ⟨rfl, .returning, ?_, _, results_none rfl _ _ _, rfl, rfl, rfl⟩
  cases c₀
  simp only at hu
  subst hu
  rfl
def stopped' (n : Int) : List PanicEntry := [{ v := .iface 57 (.agg #[.int .i64 n]), recovered := true }]
theorem run_assert57 (v : Value) (W : World) : (Instr.typeAssert (.iface 57 v) 20 57 true).run Try.prog W = .ok (.tuple #[v, .bool true]) W := by
  unfold Instr.typeAssert
  simp [run_underlying Try.underlying57]
set_option maxRecDepth 100000 in
set_option maxHeartbeats 1600000 in
theorem cl_pan (b2 b3 : Nat) (n : Int) (a0 a1 : Int) (v2 v3 : Value) (e0 : Int) (W : World) (h2 : W.heap[b2]? = some (.cells #[.int .i64 a0, .int .i64 a1, v2, v3] 27 (0, 0))) (h3 : W.heap[b3]? = some (.cells #[.int .i64 e0] 28 (0, 0))) (hne : b2 ≠ b3) :
    CallsD Try.prog 24 #[.pointer (some ⟨b2, 0, none⟩), .pointer (some ⟨b3, 0, none⟩)] (.panicking (stopped n)) W fun e u' w' => e = .returned (.tuple #[]) ∧ u' = .panicking (stopped' n) ∧
      w'.heap[b2]? = some (.cells #[.int .i64 0, .int .i64 0, .slice none 0 0, .slice none 0 0] 27 (0, 0)) ∧ w'.heap[b3]? = some (.cells #[.int .i64 n] 28 (0, 0)) ∧
      w'.os = W.os ∧ w'.tape = W.tape ∧ w'.output = W.output ∧ W.heap.size ≤ w'.heap.size ∧ ∀ j, j < W.heap.size → j ≠ b2 → j ≠ b3 → w'.heap[j]? = W.heap[j]? := by
  refine callsD_of_wpS Try.func24 rfl (fun c₀ cs hu => ?_)
  refine wpS_seq ?_
  refine wpS_region ?_
  unfold stopped at hu
  simp [wpOpsS, go_sem, recoverD, hu, Try.ntmps24, Exit.thenS]
  refine wpS_of_wp ?_
  simp only [Array.replicate_succ, Array.replicate_zero, List.push_toArray, List.append_toArray, List.nil_append, List.cons_append, List.setIfInBounds_toArray, List.set_cons_zero, List.set_cons_succ]
  have hta := run_assert57
  go_upto_region 7 with (fail)
  clear hta
  obtain ⟨wd, hwd⟩ : ∃ wd, (W.alloc (.cells #[.int .i64 n] 57)).drew = wd := ⟨_, rfl⟩
  have hlt2 := blk_lt h2
  have hlt3 := blk_lt h3
  have hbd : Below W.heap.size W wd := by rw [← hwd]; exact ((Below.refl _ W).alloc (Nat.le_refl _) _).drew
  have h4 : wd.heap[W.heap.size]? = some (.cells #[.int .i64 n] 57 (0, 0)) := by rw [← hwd]; simpa using blk_drew (blk_new W (.cells #[.int .i64 n] 57))
  have k0 := blk_below h2 hbd
  have k3 := blk_below h3 hbd
  have c4 : wd.cell? ⟨W.heap.size, 0, none⟩ = some (.int .i64 n) := (blk_cell h4 0).trans rfl
  have z0 : wd.cell? ⟨b2, 0, none⟩ = some (.int .i64 a0) := (blk_cell k0 0).trans rfl
  have f0 := blk_frozen k0 0
  have k1 : (wd.setCell ⟨b2, 0, none⟩ (.int .i64 0)).heap[b2]? = some (.cells #[.int .i64 0, .int .i64 a1, v2, v3] 27 (0, 0)) := by simpa using blk_set k0 0 (.int .i64 0)
  have z1 : (wd.setCell ⟨b2, 0, none⟩ (.int .i64 0)).cell? ⟨b2, 1, none⟩ = some (.int .i64 a1) := (blk_cell k1 1).trans rfl
  have f1 := blk_frozen k1 1
  have k2 : ((wd.setCell ⟨b2, 0, none⟩ (.int .i64 0)).setCell ⟨b2, 1, none⟩ (.int .i64 0)).heap[b2]? = some (.cells #[.int .i64 0, .int .i64 0, v2, v3] 27 (0, 0)) := by simpa using blk_set k1 1 (.int .i64 0)
  have z2 : ((wd.setCell ⟨b2, 0, none⟩ (.int .i64 0)).setCell ⟨b2, 1, none⟩ (.int .i64 0)).cell? ⟨b2, 2, none⟩ = some v2 := (blk_cell k2 2).trans rfl
  have f2 := blk_frozen k2 2
  obtain ⟨wa, hwa⟩ : ∃ wa, (((wd.setCell ⟨b2, 0, none⟩ (.int .i64 0)).setCell ⟨b2, 1, none⟩ (.int .i64 0)).setCell ⟨b2, 2, none⟩ (.slice none 0 0)) = wa := ⟨_, rfl⟩
  have k2b : wa.heap[b2]? = some (.cells #[.int .i64 0, .int .i64 0, .slice none 0 0, v3] 27 (0, 0)) := by rw [← hwa]; simpa using blk_set k2 2 (.slice none 0 0)
  have z3 : wa.cell? ⟨b2, 3, none⟩ = some v3 := (blk_cell k2b 3).trans rfl
  have f3 := blk_frozen k2b 3
  obtain ⟨wb, hwb⟩ : ∃ wb, wa.setCell ⟨b2, 3, none⟩ (.slice none 0 0) = wb := ⟨_, rfl⟩
  have k4 : wb.heap[b2]? = some (.cells #[.int .i64 0, .int .i64 0, .slice none 0 0, .slice none 0 0] 27 (0, 0)) := by rw [← hwb]; simpa using blk_set k2b 3 (.slice none 0 0)
  have far : ∀ j, j ≠ b2 → wb.heap[j]? = wd.heap[j]? := fun j hj => by
    rw [← hwb, Below.heap_setCell wa ⟨b2, 3, none⟩ _ j hj, ← hwa, Below.heap_setCell _ ⟨b2, 2, none⟩ _ j hj, Below.heap_setCell _ ⟨b2, 1, none⟩ _ j hj, Below.heap_setCell _ ⟨b2, 0, none⟩ _ j hj]
  have k5 : wb.heap[b3]? = some (.cells #[.int .i64 e0] 28 (0, 0)) := (far b3 (fun e => hne e.symm)).trans k3
  have z5 : wb.cell? ⟨b3, 0, none⟩ = some (.int .i64 e0) := (blk_cell k5 0).trans rfl
  have f5 := blk_frozen k5 0
  have k6 : (wb.setCell ⟨b3, 0, none⟩ (.int .i64 n)).heap[b3]? = some (.cells #[.int .i64 n] 28 (0, 0)) := by simpa using blk_set k5 0 (.int .i64 n)
  have k7 : (wb.setCell ⟨b3, 0, none⟩ (.int .i64 n)).heap[b2]? = some (.cells #[.int .i64 0, .int .i64 0, .slice none 0 0, .slice none 0 0] 27 (0, 0)) := (Below.heap_setCell wb ⟨b3, 0, none⟩ _ b2 hne).trans k4
  have HFIN := Aside0.mk (show (wb.setCell ⟨b3, 0, none⟩ (.int .i64 n)).os = W.os ∧ (wb.setCell ⟨b3, 0, none⟩ (.int .i64 n)).tape = W.tape ∧ (wb.setCell ⟨b3, 0, none⟩ (.int .i64 n)).output = W.output ∧ W.heap.size ≤ (wb.setCell ⟨b3, 0, none⟩ (.int .i64 n)).heap.size ∧ ∀ j, j < W.heap.size → j ≠ b2 → j ≠ b3 → (wb.setCell ⟨b3, 0, none⟩ (.int .i64 n)).heap[j]? = W.heap[j]? from
    ⟨by rw [← hwb, ← hwa]; exact hbd.os, by rw [← hwb, ← hwa]; exact hbd.tape, by rw [← hwb, ← hwa]; exact hbd.output, by rw [← hwb, ← hwa]; simpa using hbd.size, fun j hj h1 h2 => (Below.heap_setCell wb ⟨b3, 0, none⟩ _ j h2).trans ((far j h1).trans (hbd.block j hj))⟩)
  have HC4 := Aside0.mk (show wb.cell? ⟨W.heap.size, 0, none⟩ = some (.int .i64 n) from (blk_cell ((far W.heap.size (by omega)).trans h4) 0).trans rfl)
  have K6 := Aside0.mk k6
  have K7 := Aside0.mk k7
  refine start_ (n := 5) (S := fun w' => w'.cell? ⟨W.heap.size, 0, none⟩ = some (.int .i64 n)) (ds := [4]) #[false, false, false, false, false] rfl rfl rfl (by rw [hwd]; exact c4) (fun hHeld => ?_)
  refine with_tabW reg24.tab7 reg24.bits7 (fun HT_ HW_ => ?_)
  rw [hwd] at hHeld ⊢
  clear hwd k0 k1 k2 k2b k3 k4 k5 k6 k7 far hbd h4
  refine pz_ 0 11 HT_ ?_
  refine pz_ 1 12 HT_ ?_
  refine tz_ 2 13 HT_ HW_ hHeld ?_
  refine one_ (i := 3) (N := none) #[true, true, true, true, false] rfl rfl (one_of HT_.out (by kernel_rfl)) (by decide) (fun K' hK => ?_)
  refine skip_ (w1 := wb) (by rfl) rfl ?_ ?_
  · go_simp
  refine hK.out _ _ HC4.out (fun hHeld2 => ?_)
  clear hK K' z0 z1 z2 z3 f0 f1 f2 f3 hwa hwb
  refine last_ (i := 4) (N := none) #[true, true, true, true, true] rfl rfl (one_of HT_.out (by kernel_rfl)) (by decide) (fun K' hK => ?_)
  refine skip_ (w1 := ?_) (by rfl) rfl ?_ ?_
  rotate_left
  · go_simp
    rfl
  refine hK.out _ _ ?_
  clear hK K'
  refine done_ (done_of HT_.out (by kernel_rfl)) ?_
  clear HT_ HW_ hHeld
  go_wp2
  refine ⟨rfl, .panicking (stopped' n), ?_, _, results_none rfl _ _ _, rfl, rfl, K7.out, K6.out, HFIN.out⟩
  rfl
end Go.Proofs.Ythcikbbglpdjhaa.Q
