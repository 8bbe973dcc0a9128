/- The note's reader: many, Signed, op. No condition. -/
import Derived.Test.YthcikbbglpdjhaaRN
namespace Go.Proofs.Ythcikbbglpdjhaa.Q
open Go.RowKit Go.Proofs.YthcikbbglpdjhaaW Go.Proofs.YthcikbbglpdjhaaW.PrintWords Go.Proofs.YthcikbbglpdjhaaW.PrintLast Go.Proofs.YthcikbbglpdjhaaW.PrintMore
set_option linter.unusedVariables false
set_option linter.unusedSimpArgs false
/-- The reader, ready in W: what is left are bytes. -/
structure Rdy (w0 W : World) (g : Nat) (l : List Int) : Prop where
  rd : Rd w0 W g l
  below : Below w0.heap.size w0 W
  bytes : ∀ x ∈ l, byteB x
theorem Rdy.lt {w0 W : World} {g : Nat} {l : List Int} (h : Rdy w0 W g l) : g < W.heap.size := by obtain ⟨_, _, hb, _⟩ := h.rd; exact blk_lt hb
theorem Rdy.ge {w0 W : World} {g : Nat} {l : List Int} (h : Rdy w0 W g l) : w0.heap.size ≤ g := by obtain ⟨_, _, _, hg, _⟩ := h.rd; exact hg
theorem Rdy.next {w0 W W' : World} {g : Nat} {l : List Int} (h : Rdy w0 W g l) (n : Nat) (hr : Rd w0 W' g (l.drop n)) (hg : W.grownBy W' (some g)) : Rdy w0 W' g (l.drop n) :=
  ⟨hr, h.below.grown hg h.below.size (fun k hk => by injection hk with hk; subst hk; exact h.ge), fun x hx => h.bytes x (List.mem_of_mem_drop hx)⟩
theorem Rdy.later {w0 W W' : World} {g : Nat} {l : List Int} (h : Rdy w0 W g l) (hb : Below W.heap.size W W') : Rdy w0 W' g l := ⟨h.rd.later (hb.block g h.lt), h.below.trans (hb.mono h.below.size), h.bytes⟩
theorem grown_b {W W' : World} (h : Below W.heap.size W W') (row : Option Nat) : W.grownBy W' row := ⟨h.os, h.tape, h.output, h.size, fun i hi _ => h.block i hi⟩
/-- A reading of n bytes as a number. -/
def pNum (n : Nat) (l : List Int) : Except Int (Int × List Int) := if l.length < n then .error 2 else .ok (leN (l.take n), l.drop n)
/-- What a reading does: it yields, or stops. -/
def Reads {α : Type} (w0 W : World) (g : Nat) (enc : α → Value) (r : Except Int (α × List Int)) (e : Ending) (w' : World) : Prop :=
  match r with
  | .ok (a, rest) => e = .returned (enc a) ∧ Rdy w0 w' g rest ∧ W.grownBy w' (some g)
  | .error n => e = .panicked (stopped n) ∧ W.grownBy w' (some g)
def eI (n : Int) : Value := .int .i64 n
theorem rnum (w0 W : World) (g : Nat) (l : List Int) (n : Nat) (h : Rdy w0 W g l) (h1 : 1 ≤ n) (h8 : n ≤ 7) :
    Calls Try.prog 44 #[.agg #[.pointer (some ⟨g, 0, none⟩)], .int .i64 (n : Int)] W fun e w' => Reads w0 W g eI (pNum n l) e w' := by
  unfold pNum
  by_cases hk : l.length < n
  · rw [if_pos hk]
    refine (rnum_short w0 W g l n h.rd h1 (by omega) hk).mono ?_
    rintro e w' ⟨rfl, hb⟩
    exact ⟨rfl, grown_b hb _⟩
  · rw [if_neg hk]
    refine (rnum_ok w0 W g l n h.rd h.below h.bytes h1 h8 (by omega)).mono ?_
    rintro e w' ⟨rfl, hr, hg⟩
    exact ⟨rfl, h.next n hr hg, hg⟩
def pMany (l : List Int) : Except Int (Int × List Int) := match pNum 2 l with
  | .ok (m, r) => if 256 < m then .error 3 else .ok (m, r)
  | .error e => .error e
theorem rmany (w0 W : World) (g : Nat) (l : List Int) (h : Rdy w0 W g l) :
    Calls Try.prog 45 #[.agg #[.pointer (some ⟨g, 0, none⟩)]] W fun e w' => Reads w0 W g eI (pMany l) e w' := by
  have hb1 : Below W.heap.size W (W.alloc (.cells #[.pointer (some ⟨g, 0, none⟩)] 61)) := (Below.refl _ _).alloc (Nat.le_refl _) _
  have hcall := rnum w0 (W.alloc (.cells #[.pointer (some ⟨g, 0, none⟩)] 61)) g l 2 (h.later hb1) (by omega) (by omega)
  have HG := Aside0.mk (grown_b hb1 (some g))
  have hu := Try.underlying61
  unfold pMany
  cases hp : pNum 2 l with
  | error q =>
    rw [hp] at hcall
    have HCALL := Aside0.mk hcall
    clear hcall hb1 h hp
    go_enter Try.func45, Try.ntmps45
    go_wp2_with (go_at_call 44; refine HCALL.out.mono ?_; rintro e w4 ⟨rfl, hg4⟩; have HG4 := Aside0.mk (HG.out.trans hg4); clear HCALL hg4)
    all_goals exact ⟨rfl, rfl, HG4.out⟩
  | ok a =>
    obtain ⟨m, r⟩ := a
    rw [hp] at hcall
    have HCALL := Aside0.mk (show Calls Try.prog 44 #[.agg #[.pointer (some ⟨g, 0, none⟩)], .int .i64 2] (W.alloc (.cells #[.pointer (some ⟨g, 0, none⟩)] 61)) fun e w' => e = .returned (.int .i64 m) ∧ Rdy w0 w' g r ∧ (W.alloc (.cells #[.pointer (some ⟨g, 0, none⟩)] 61)).grownBy w' (some g) from hcall)
    have hneed := Aside0.mk (fun W' => need_bad 3 (by decide) W')
    clear hcall hb1 h hp
    by_cases hm : 256 < m
    · have q1 : (256 < m) = True := eq_true hm
      simp only [if_pos hm]
      go_enter Try.func45, Try.ntmps45
      go_wp2_with (first | (go_at_call 44; refine HCALL.out.mono ?_; rintro e w4 ⟨rfl, hr4, hg4⟩; have HG4 := Aside0.mk (HG.out.trans hg4); clear HCALL hr4 hg4) | (go_at_call 48; refine (hneed.out _).mono ?_; rintro e w5 ⟨rfl, rfl⟩; clear hneed))
      all_goals exact ⟨rfl, rfl, HG4.out⟩
    · have q1 : (256 < m) = False := eq_false hm
      simp only [if_neg hm]
      go_enter Try.func45, Try.ntmps45
      go_wp2_with (go_at_call 44; refine HCALL.out.mono ?_; rintro e w4 ⟨rfl, hr4, hg4⟩; have HR4 := Aside0.mk hr4; have HG4 := Aside0.mk (HG.out.trans hg4); clear HCALL hr4 hg4)
      go_ret
      exact ⟨rfl, HR4.out, HG4.out⟩
theorem signed_ok (w0 W : World) (g : Nat) (l : List Int) (h : Rdy w0 W g l) (hk : 8 ≤ l.length) :
    Calls Try.prog 57 #[.pointer (some ⟨g, 0, none⟩)] W fun e w' => e = .returned (.tuple #[.int .i64 (wrap64 (leN (l.take 8))), .int .i64 0]) ∧ Rdy w0 w' g (l.drop 8) ∧ W.grownBy w' (some g) := by
  have HCALL := Aside0.mk (get_ok w0 W g l 8 h.rd h.below h.bytes (by omega) (by omega) hk)
  have HN := Aside0.mk (fun (W' : World) hr hg => h.next (W' := W') 8 hr hg)
  obtain ⟨r, hr⟩ : ∃ r, leN (l.take 8) = r := ⟨_, rfl⟩
  rw [hr] at HCALL ⊢
  clear h hk hr
  go_enter Try.func57, Try.ntmps57
  go_wp2_with (go_at_call 56; refine HCALL.out.mono ?_; rintro e w4 ⟨rfl, hr4, hg4⟩; have HR4 := Aside0.mk (HN.out _ hr4 hg4); have HG4 := Aside0.mk hg4; clear HCALL HN hr4 hg4)
  go_ret2
  exact ⟨by first | rfl | (rw [← i64_w]; rfl), HR4.out, HG4.out⟩
theorem signed_short (w0 W : World) (g : Nat) (l : List Int) (h : Rdy w0 W g l) (hk : l.length < 8) :
    Calls Try.prog 57 #[.pointer (some ⟨g, 0, none⟩)] W fun e w' => e = .returned (.tuple #[.int .i64 0, .int .i64 2]) ∧ w' = W := by
  have HCALL := Aside0.mk (get_short w0 W g l 8 h.rd (by omega) (by omega) hk)
  clear h hk
  go_enter Try.func57, Try.ntmps57
  go_wp2_with (go_at_call 56; refine HCALL.out.mono ?_; rintro e w4 ⟨rfl, rfl⟩; clear HCALL)
  go_ret2
  exact ⟨rfl, rfl⟩
end Go.Proofs.Ythcikbbglpdjhaa.Q
