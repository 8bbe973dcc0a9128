import Derived.Test.YtajghkmjgedikaaS17
import Derived.Test.YtajghkmjgedikaaS7
namespace Go.Proofs.Ytajghkmjgedikaa.Q
open Go.RowKit Go.Proofs.YtajghkmjgedikaaW Go.Proofs.YtajghkmjgedikaaW.PrintWords Go.Proofs.YtajghkmjgedikaaW.PrintLast Go.Proofs.YtajghkmjgedikaaW.PrintMore
set_option linter.unusedVariables false
set_option linter.unusedSimpArgs false
theorem free_cases (st : Nat → Int) (op : Nat → Bool) : (∀ j, j < 16 → ¬ freeAt st op j) ∨ ∃ k, k < 16 ∧ freeAt st op k ∧ ∀ j, j < k → ¬ freeAt st op j := by
  have key : ∀ n : Nat, (∀ j, j < n → ¬ freeAt st op j) ∨ ∃ k, k < n ∧ freeAt st op k ∧ ∀ j, j < k → ¬ freeAt st op j := by
    intro n
    induction n with
    | zero => exact .inl (fun j hj => by omega)
    | succ n ih =>
      rcases ih with h | ⟨k, h1, h2, h3⟩
      · by_cases hf : freeAt st op n
        · exact .inr ⟨n, by omega, hf, h⟩
        · exact .inl (fun j hj => by
            by_cases e : j = n
            · subst e; exact hf
            · exact h j (by omega))
      · exact .inr ⟨k, by omega, h2, h3⟩
  exact key 16
section
variable {w0 : World} {g go : Nat} {m : Mdl} {W w1 : World} {cs : Array Value} {tx : Nat → Value} {v1 v2 v' : Value}
theorem Wx.all_app (gb : w0.heap.size ≤ g) (h1 : Bw g cs v1 v2 (.slice (some ⟨go, 0, none⟩) 64 64) W) (h2 : Cells cs m.st m.op tx) (h3 : Rows3 W m.ls tx) (h4 : ∀ i, i < 16 → ∀ k, (tx i).ownBlock = some k → go < k) (h5 : k31.R 31 W w0.heap.size (fun _ => True) v1 m.H) (h6 : Kd.bool.R 4 W w0.heap.size (fun _ => True) v2 m.C) (h7 : (Kd.int .i64).R 3 W w0.heap.size (fun k => k = go) (.slice (some ⟨go, 0, none⟩) 64 64) m.O)
    (p : S31) (hR : k31.R 31 w1 w0.heap.size (fun _ => True) v' (m.H ++ [p])) (hb : Below w0.heap.size w0 w1) (hg : W.grownBy w1 v1.ownBlock) :
    Wx w0 g go { m with H := m.H ++ [p] } (w1.setCell ⟨g, 48, none⟩ v') := by
  have ht := Kd.R_typed h5
  have b1 : Bw g cs v1 v2 (.slice (some ⟨go, 0, none⟩) 64 64) w1 := ⟨blk_grown h1.at_ hg (Kd.R_ne h5 h1.at_ (by decide)), h1.size⟩
  have r3 : Rows3 w1 m.ls tx := fun j hj => Kd.R_over' (h3 j hj) ht (fun q hq => by
    have hq' : q ∈ [3] := hq
    have : q = 3 := by simpa using hq'
    rw [this]; decide) hg
  have r6 := Kd.R_over' h6 ht (fun q hq => by
    have hq' : q ∈ [4] := hq
    have : q = 4 := by simpa using hq'
    rw [this]; decide) hg
  have r7 := Kd.R_over' h7 ht (fun q hq => by
    have hq' : q ∈ [3] := hq
    have : q = 3 := by simpa using hq'
    rw [this]; decide) hg
  have hfar : ∀ k, k ≠ g → (w1.setCell ⟨g, 48, none⟩ v').heap[k]? = w1.heap[k]? := fun k hk => Below.heap_setCell w1 ⟨g, 48, none⟩ _ k hk
  exact ⟨hb.setCell gb _, gb, cs, tx, v', v2, b1.set1 v', h2, fun j hj => R_far44 (r3 j hj) b1.at_ hfar (by decide) rfl, h4, R_far44 hR b1.at_ hfar (by decide) rfl, R_far44 r6 b1.at_ hfar (by decide) rfl, R_far44 r7 b1.at_ hfar (by decide) rfl⟩
theorem Wx.shut_app (gb : w0.heap.size ≤ g) (h1 : Bw g cs v1 v2 (.slice (some ⟨go, 0, none⟩) 64 64) W) (h2 : Cells cs m.st m.op tx) (h3 : Rows3 W m.ls tx) (h4 : ∀ i, i < 16 → ∀ k, (tx i).ownBlock = some k → go < k) (h5 : k31.R 31 W w0.heap.size (fun _ => True) v1 m.H) (h6 : Kd.bool.R 4 W w0.heap.size (fun _ => True) v2 m.C) (h7 : (Kd.int .i64).R 3 W w0.heap.size (fun k => k = go) (.slice (some ⟨go, 0, none⟩) 64 64) m.O)
    (p : Bool) (hR : Kd.bool.R 4 w1 w0.heap.size (fun _ => True) v' (m.C ++ [p])) (hb : Below w0.heap.size w0 w1) (hg : W.grownBy w1 v2.ownBlock) :
    Wx w0 g go { m with C := m.C ++ [p] } (w1.setCell ⟨g, 49, none⟩ v') := by
  have ht := Kd.R_typed h6
  have b1 : Bw g cs v1 v2 (.slice (some ⟨go, 0, none⟩) 64 64) w1 := ⟨blk_grown h1.at_ hg (Kd.R_ne h6 h1.at_ (by decide)), h1.size⟩
  have r3 : Rows3 w1 m.ls tx := fun j hj => Kd.R_over' (h3 j hj) ht (fun q hq => by
    have hq' : q ∈ [3] := hq
    have : q = 3 := by simpa using hq'
    rw [this]; decide) hg
  have r5 := Kd.R_over' h5 ht (fun q hq => by
    have hq' : q ∈ [31] := hq
    have : q = 31 := by simpa using hq'
    rw [this]; decide) hg
  have r7 := Kd.R_over' h7 ht (fun q hq => by
    have hq' : q ∈ [3] := hq
    have : q = 3 := by simpa using hq'
    rw [this]; decide) hg
  have hfar : ∀ k, k ≠ g → (w1.setCell ⟨g, 49, none⟩ v').heap[k]? = w1.heap[k]? := fun k hk => Below.heap_setCell w1 ⟨g, 49, none⟩ _ k hk
  exact ⟨hb.setCell gb _, gb, cs, tx, v1, v', b1.set2 v', h2, fun j hj => R_far44 (r3 j hj) b1.at_ hfar (by decide) rfl, h4, R_far44 r5 b1.at_ hfar (by decide) rfl, R_far44 hR b1.at_ hfar (by decide) rfl, R_far44 r7 b1.at_ hfar (by decide) rfl⟩
end
theorem info4 : (Try.prog.info? 4).map (fun i => (i.zero, i.size, i.bytes)) = some (some (.bool false), 1, 1) := by kernel_rfl
end Go.Proofs.Ytajghkmjgedikaa.Q
