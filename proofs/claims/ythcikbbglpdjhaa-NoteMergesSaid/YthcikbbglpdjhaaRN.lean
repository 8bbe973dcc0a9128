/- The note's reader: need, number, many, op, image. No condition. -/
import Derived.Test.YthcikbbglpdjhaaRG
import Derived.WalkSmall
namespace Go.Proofs.Ythcikbbglpdjhaa.Q
open Go.RowKit Go.Proofs.YthcikbbglpdjhaaW Go.Proofs.YthcikbbglpdjhaaW.PrintWords Go.Proofs.YthcikbbglpdjhaaW.PrintLast Go.Proofs.YthcikbbglpdjhaaW.PrintMore
set_option linter.unusedVariables false
set_option linter.unusedSimpArgs false
/-- What is thrown: a stop with that error. -/
def stopped (n : Int) : List PanicEntry := [{ v := .iface 57 (.agg #[.int .i64 n]), recovered := false }]
theorem need_ok (W : World) : Calls Try.prog 48 #[.int .i64 0] W fun e w' => e = .returned (.tuple #[]) ∧ w' = W := by
  go_enter Try.func48, Try.ntmps48
  go_wp2
  go_end0
  exact ⟨rfl, rfl⟩
theorem need_bad (n : Int) (hn : n ≠ 0) (W : World) : Calls Try.prog 48 #[.int .i64 n] W fun e w' => e = .panicked (stopped n) ∧ w' = W := by
  have q1 : (n = 0) = False := eq_false hn
  have q2 : (n == 0) = false := by simpa using hn
  go_enter Try.func48, Try.ntmps48
  go_wp2
  first | exact ⟨rfl, rfl, rfl⟩ | exact ⟨rfl, rfl⟩
theorem rnum_short (w0 W : World) (g : Nat) (l : List Int) (n : Nat) (h : Rd w0 W g l) (h1 : 1 ≤ n) (h8 : n ≤ 8) (hk : l.length < n) :
    Calls Try.prog 44 #[.agg #[.pointer (some ⟨g, 0, none⟩)], .int .i64 (n : Int)] W fun e w' => e = .panicked (stopped 2) ∧ Below W.heap.size W w' := by
  have hb1 : Below W.heap.size W (W.alloc (.cells #[.pointer (some ⟨g, 0, none⟩)] 61)) := (Below.refl _ _).alloc (Nat.le_refl _) _
  have hlt : g < W.heap.size := by obtain ⟨_, _, hb, _⟩ := h; exact blk_lt hb
  have hcall := Aside0.mk (get_short w0 (W.alloc (.cells #[.pointer (some ⟨g, 0, none⟩)] 61)) g l n (h.later (Below.heap_alloc _ _ _ hlt)) h1 h8 hk)
  have hneed := Aside0.mk (fun W' => need_bad 2 (by decide) W')
  have HB := Aside0.mk hb1
  have hu := Try.underlying61
  clear h hk h1 h8 hb1 hlt
  go_enter Try.func44, Try.ntmps44
  go_wp2_with (first | (go_at_call 56; refine hcall.out.mono ?_; rintro e w4 ⟨rfl, rfl⟩; clear hcall) | (go_at_call 48; refine (hneed.out _).mono ?_; rintro e w5 ⟨rfl, rfl⟩; clear hneed))
  all_goals first | exact ⟨rfl, rfl, HB.out⟩ | exact ⟨rfl, HB.out⟩ | go_show
theorem rnum_ok (w0 W : World) (g : Nat) (l : List Int) (n : Nat) (h : Rd w0 W g l) (hB : Below w0.heap.size w0 W) (hb : ∀ x ∈ l, byteB x) (h1 : 1 ≤ n) (h8 : n ≤ 7) (hk : n ≤ l.length) :
    Calls Try.prog 44 #[.agg #[.pointer (some ⟨g, 0, none⟩)], .int .i64 (n : Int)] W fun e w' => e = .returned (.int .i64 (leN (l.take n))) ∧ Rd w0 w' g (l.drop n) ∧ W.grownBy w' (some g) := by
  have hb1 : Below W.heap.size W (W.alloc (.cells #[.pointer (some ⟨g, 0, none⟩)] 61)) := (Below.refl _ _).alloc (Nat.le_refl _) _
  have hlt : g < W.heap.size := by obtain ⟨_, _, hb, _⟩ := h; exact blk_lt hb
  have hcall := Aside0.mk (get_ok w0 (W.alloc (.cells #[.pointer (some ⟨g, 0, none⟩)] 61)) g l n (h.later (Below.heap_alloc _ _ _ hlt)) (hB.trans (hb1.mono hB.size)) hb h1 (by omega) hk)
  have hneed := Aside0.mk (fun W' => need_ok W')
  have hgr : W.grownBy (W.alloc (.cells #[.pointer (some ⟨g, 0, none⟩)] 61)) (some g) := ⟨hb1.os, hb1.tape, hb1.output, hb1.size, fun i hi _ => hb1.block i hi⟩
  have HG := Aside0.mk hgr
  have hu := Try.underlying61
  have hbd := leN_bound (l.take n) (fun x hx => hb x (List.mem_of_mem_take hx))
  have hp : (256 : Int) ^ (l.take n).length ≤ 256 ^ 7 := p256 _ (by rw [List.length_take]; omega)
  have h7 : (256 : Int) ^ 7 = 72057594037927936 := by decide
  have w1 : IntKind.i64.wrap (leN (l.take n)) = leN (l.take n) := by rw [IntKind.wrap_i64]; omega
  obtain ⟨r, hr⟩ : ∃ r, leN (l.take n) = r := ⟨_, rfl⟩
  rw [hr] at hcall w1 ⊢
  clear h hk h1 h8 hb1 hlt hB hb hgr hbd hp h7 hr
  go_enter Try.func44, Try.ntmps44
  go_wp2_with (first | (go_at_call 56; refine hcall.out.mono ?_; rintro e w4 ⟨rfl, hR, hg4⟩; have HR := Aside0.mk hR; have HG4 := Aside0.mk (HG.out.trans hg4); clear hcall hR hg4) | (go_at_call 48; refine (hneed.out _).mono ?_; rintro e w5 ⟨rfl, rfl⟩; clear hneed))
  go_ret
  exact ⟨rfl, HR.out, HG4.out⟩
end Go.Proofs.Ythcikbbglpdjhaa.Q
