import Derived.Test.YtdnkbmjlcdddcaaTU
namespace Go.Proofs.Ytdnkbmjlcdddcaa.Q
open Go.RowKit Go.Shelf Go.Proofs.YtdnkbmjlcdddcaaW Go.Proofs.YtdnkbmjlcdddcaaW.PrintWords Go.Proofs.YtdnkbmjlcdddcaaW.PrintLast Go.Proofs.YtdnkbmjlcdddcaaW.PrintMore
open RU
attribute [local go_sem] Oper.semAt_some
set_option linter.unusedVariables false
set_option linter.unusedSimpArgs false

theorem up_gives (n : Nat) (hn : 1 ≤ n) (A0 : Option Addr) (c0 : Nat) (l : List S74) (ck : Int) (T B : Nat) (id0 : Int) (Own : Nat → Prop) (hOB : ¬ Own B) (w : World) (hB : w.heap[B]? = some (.cells #[.int .i64 id0] 3 (0, 0))) :
    GivesTo Fence.wide n Try.prog 75 #[.pointer (some ⟨T, 0, none⟩), .pointer (some ⟨B, 0, none⟩)] (fun x : Int => #[Value.int .i64 x]) Own (fun A C => C.heap[B]? = A.heap[B]?)
      (fun _ A => A.heap[T]? = some (.cells #[.slice A0 l.length c0, .int .i64 ck] 26 (0, 0)) ∧ Kd.C k74 A A0 l.length l) (chain l id0) w := by
  intro lp J Jx W hW hJ hG hY h0
  exact up1_in n hn A0 c0 l ck T B lp id0 Own J Jx hJ hOB hG hY W h0 ((hW.block B (blk_lt hB) (blk_lt hB)).trans hB)

theorem stays_blk {Own : Nat → Prop} {A C : World} {k : Nat} {o : Obj} (h : Stays Own A C) (hk : Own k) (hb : A.heap[k]? = some o) : C.heap[k]? = some o := (h.block k hk (blk_lt hb)).trans hb
theorem stays_below {Own : Nat → Prop} {w A C : World} (hb : Below w.heap.size w A) (h : Stays Own A C) (ho : ∀ k, k < w.heap.size → Own k) : Below w.heap.size w C :=
  ⟨h.os.trans hb.os, h.tape.trans hb.tape, h.output.trans hb.output, Nat.le_trans hb.size h.size, fun k hk => (h.block k (ho k hk) (Nat.lt_of_lt_of_le hk hb.size)).trans (hb.block k hk)⟩
/-- The loop's own two blocks, shut behind it. -/
theorem below_shut {w W : World} (hb : Below w.heap.size w W) {D : Nat} (hD : w.heap.size ≤ D) (o : Obj) : Below w.heap.size w (W.putObj D o) :=
  ⟨hb.os, hb.tape, hb.output, by have := hb.size; simpa [World.putObj] using this, fun k hk => (World.putObj_heap_other (by omega)).trans (hb.block k hk)⟩

end Go.Proofs.Ytdnkbmjlcdddcaa.Q
