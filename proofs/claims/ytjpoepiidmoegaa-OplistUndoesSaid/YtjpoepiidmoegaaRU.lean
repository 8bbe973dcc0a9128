/- A range over a function whose iterator keeps its place in a box of its own: the caller's invariant speaks of blocks that are the caller's alone. No condition. -/
import Derived.RangeFuncNested
import Derived.RangeFuncBound
import Derived.RangeFuncCalls
import Derived.RangeFuncLeaves
import Derived.Shelf.Abstract
import Derived.Shelf.RegionOpen
import Derived.WalkKit
import Derived.OwnWalkIn
import Derived.TacticsInMore
import Derived.LoopNIn
import Derived.LoopIn
import Derived.Below
namespace Go.Proofs.Ytjpoepiidmoegaa.RU
open Go Go.RowKit

/-- From A to B: the blocks of which Own holds lie as they lay. -/
structure Stays (Own : Nat → Prop) (A B : World) : Prop where
  os : B.os = A.os
  tape : B.tape = A.tape
  output : B.output = A.output
  size : A.heap.size ≤ B.heap.size
  block : ∀ k, Own k → k < A.heap.size → B.heap[k]? = A.heap[k]?
theorem Stays.refl (Own : Nat → Prop) (A : World) : Stays Own A A := ⟨rfl, rfl, rfl, Nat.le_refl _, fun _ _ _ => rfl⟩
theorem Stays.trans {Own : Nat → Prop} {A B C : World} (h : Stays Own A B) (k : Stays Own B C) : Stays Own A C :=
  ⟨k.os.trans h.os, k.tape.trans h.tape, k.output.trans h.output, Nat.le_trans h.size k.size, fun i hi hl => (k.block i hi (Nat.lt_of_lt_of_le hl h.size)).trans (h.block i hi hl)⟩
theorem Stays.below {Own : Nat → Prop} {A B : World} (h : Below A.heap.size A B) : Stays Own A B := ⟨h.os, h.tape, h.output, h.size, fun k _ hk => h.block k hk⟩
theorem Stays.alloc (Own : Nat → Prop) (A : World) (o : Obj) : Stays Own A (A.alloc o) := Stays.below ((Below.refl _ A).alloc (Nat.le_refl _) o)
theorem Stays.setCell {Own : Nat → Prop} {p : Addr} (h : ¬ Own p.block) (A : World) (v : Value) : Stays Own A (A.setCell p v) :=
  ⟨rfl, rfl, rfl, by simp [World.setCell], fun k hk _ => Below.heap_setCell A p v k (fun e => h (e ▸ hk))⟩
theorem Stays.putObj {Own : Nat → Prop} {l : Nat} (h : ¬ Own l) (A : World) (o : Obj) : Stays Own A (A.putObj l o) :=
  ⟨rfl, rfl, rfl, by simp [World.putObj], fun k hk _ => World.putObj_heap_other (fun e => h (by rw [← e]; exact hk))⟩

variable {F : Fence} {n : Nat} {P : Program}

end Go.Proofs.Ytjpoepiidmoegaa.RU
