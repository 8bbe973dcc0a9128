/- What the note's reader is to read, in plain words; facts of its boxes. No condition. -/
import Derived.Test.YthcikbbglpdjhaaRI
import Derived.Test.YthcikbbglpdjhaaRD1
import Derived.Test.YthcikbbglpdjhaaSV
namespace Go.Proofs.Ythcikbbglpdjhaa.Q
open Go.RowKit Go.Proofs.YthcikbbglpdjhaaW Go.Proofs.YthcikbbglpdjhaaW.PrintWords Go.Proofs.YthcikbbglpdjhaaW.PrintLast Go.Proofs.YthcikbbglpdjhaaW.PrintMore
set_option linter.unusedVariables false
set_option linter.unusedSimpArgs false
def pSome {α : Type} (p : List Int → Except Int (α × List Int)) : Nat → List Int → Except Int (List α × List Int)
  | 0, l => .ok ([], l)
  | n + 1, l => match p l with
    | .ok (x, r) => (match pSome p n r with | .ok (xs, q) => .ok (x :: xs, q) | .error e => .error e)
    | .error e => .error e
/-- What was read ahead put before. -/
def ahead {α : Type} (xs : List α) : Except Int (List α × List Int) → Except Int (List α × List Int)
  | .ok (ys, q) => .ok (xs ++ ys, q)
  | .error e => .error e
theorem ahead_nil {α : Type} (r : Except Int (List α × List Int)) : ahead [] r = r := by cases r <;> rfl
theorem pSome_ok {α : Type} {p : List Int → Except Int (α × List Int)} {l q : List Int} {x : α} (xs : List α) (n : Nat) (h : p l = .ok (x, q)) : ahead xs (pSome p (n + 1) l) = ahead (xs ++ [x]) (pSome p n q) := by
  rw [pSome, h]
  dsimp only
  cases pSome p n q with
  | ok a => simp [ahead]
  | error e => rfl
theorem pSome_bad {α : Type} {p : List Int → Except Int (α × List Int)} {l : List Int} {e : Int} (xs : List α) (n : Nat) (h : p l = .error e) : ahead xs (pSome p (n + 1) l) = .error e := by
  rw [pSome, h]
  rfl
theorem pSome_end {α : Type} (p : List Int → Except Int (α × List Int)) (xs : List α) (l : List Int) : ahead xs (pSome p 0 l) = .ok (xs, l) := by
  simp [pSome, ahead]
abbrev PN := Except Int (Int × Int × List S44 × List S46)
def pN3 (k s : Int) (im : List S44) (os : List S46) (l : List Int) : PN := if l = [] then (if saneN k s im os = true then .ok (k, s, im, os) else .error 3) else .error 3
def pN2b (k s : Int) (im : List S44) : Except Int (List S46 × List Int) → PN
  | .ok (os, l) => pN3 k s im os l
  | .error e => .error e
def pN2 (k s : Int) (im : List S44) (l : List Int) : PN := match pMany l with
  | .ok (q, r) => pN2b k s im (pSome pOp q.toNat r)
  | .error e => .error e
def pN1b (k s : Int) : Except Int (List S44 × List Int) → PN
  | .ok (im, l) => pN2 k s im l
  | .error e => .error e
def pN1 (k s : Int) (l : List Int) : PN := match pMany l with
  | .ok (m, r) => pN1b k s (pSome pImage m.toNat r)
  | .error e => .error e
/-- Bytes as a note: what reader.note reads. -/
def pNote (l : List Int) : PN := match pNum 1 l with
  | .ok (k, l1) => (match pNum 6 l1 with | .ok (s, l2) => pN1 k s l2 | .error e => .error e)
  | .error e => .error e
theorem leN_nonneg : ∀ l : List Int, (∀ x ∈ l, byteB x) → 0 ≤ leN l := fun l h => (leN_bound l h).1
theorem pMany_bound {l r : List Int} {m : Int} (hb : ∀ x ∈ l, byteB x) (h : pMany l = .ok (m, r)) : ∃ M : Nat, m = (M : Int) ∧ M ≤ 256 := by
  unfold pMany pNum at h
  split at h
  · rename_i m' r' hh
    split at hh
    · cases hh
    · injection hh with hh
      injection hh with h1 h2
      split at h
      · cases h
      · rename_i hm
        injection h with h
        injection h with h3 h4
        have := leN_nonneg (l.take 2) (fun x hx => hb x (List.mem_of_mem_take hx))
        exact ⟨m.toNat, by omega, by omega⟩
  · cases h
theorem RImg.split {w0 W : World} {g : Nat} {r : Except Int (S44 × List Int)} {e : Ending} {w' : World} (h : RImg w0 W g r e w') :
    (∃ x rest v1, r = .ok (x, rest) ∧ e = .returned (.agg #[.int .i64 x.f0, v1]) ∧ KU.R 5 w' W.heap.size (fun _ => True) v1 x.f1 ∧ Rdy w0 w' g rest ∧ W.grownBy w' (some g)) ∨ (∃ n, r = .error n ∧ e = .panicked (stopped n) ∧ W.grownBy w' (some g)) := by
  cases r with
  | ok a => obtain ⟨a, rest⟩ := a; obtain ⟨v1, h1, h2, h3, h4⟩ := h; exact Or.inl ⟨a, rest, v1, rfl, h1, h2, h3, h4⟩
  | error n => exact Or.inr ⟨n, rfl, h⟩
theorem IS.over {w0 w : World} {g b : Nat} {o : Obj} {W W' : World} {r : List Int} {row : Option Nat} (h : IS w0 w g b o W r) (hg : W.grownBy W' row) (n1 : some g ≠ row) (n2 : some b ≠ row) (n3 : some (b + 1) ≠ row) (hw : w0.heap.size ≤ w.heap.size) (hr : ∀ k, row = some k → w.heap.size ≤ k) : IS w0 w g b o W' r :=
  ⟨⟨h.rdy.rd.later (hg.block g h.rdy.lt n1), h.rdy.below.grown hg h.rdy.below.size (fun k hk => Nat.le_trans hw (hr k hk)), h.rdy.bytes⟩, blk_grown h.box hg n2, blk_grown h.out hg n3,
    ⟨hg.os.trans h.gr.os, hg.tape.trans h.gr.tape, hg.output.trans h.gr.output, Nat.le_trans h.gr.size hg.size, fun i hi hne => (hg.block i (Nat.lt_of_lt_of_le hi h.gr.size) (fun e => by have := hr i e.symm; omega)).trans (h.gr.block i hi hne)⟩⟩
theorem IS.gat {w0 w : World} {g b : Nat} {o : Obj} {W : World} {r : List Int} (h : IS w0 w g b o W r) : ∃ cs, W.heap[g]? = some (.cells cs 89 (0, 0)) := by
  obtain ⟨A, c, h1, _⟩ := h.rdy.rd
  exact ⟨_, h1⟩
end Go.Proofs.Ythcikbbglpdjhaa.Q
