/- The reader: Get, Signed, the note's numbers. No condition. -/
import Derived.Test.YthcikbbglpdjhaaRW
import Derived.Test.YthcikbbglpdjhaaNV
namespace Go.Proofs.Ythcikbbglpdjhaa.Q
open Go.RowKit Go.Proofs.YthcikbbglpdjhaaW Go.Proofs.YthcikbbglpdjhaaW.PrintWords Go.Proofs.YthcikbbglpdjhaaW.PrintLast Go.Proofs.YthcikbbglpdjhaaW.PrintMore
set_option linter.unusedVariables false
set_option linter.unusedSimpArgs false
theorem grown_set (W : World) (g : Nat) (u : Value) : W.grownBy (W.setCell ⟨g, 0, none⟩ u) (some g) :=
  ⟨rfl, rfl, rfl, by simp, fun i hi hne => Below.heap_setCell W ⟨g, 0, none⟩ u i (fun e => hne (by rw [e]))⟩
theorem grown_drawn {W W' : World} (h : Drawn0 W W') (row : Option Nat) : W.grownBy W' row :=
  ⟨h.below.os, h.below.tape, h.below.output, h.below.size, fun i hi _ => h.below.block i hi⟩
theorem get_short (w0 W : World) (g : Nat) (l : List Int) (n : Nat) (h : Rd w0 W g l) (h1 : 1 ≤ n) (h8 : n ≤ 8) (hk : l.length < n) :
    Calls Try.prog 56 #[.pointer (some ⟨g, 0, none⟩), .int .i64 (n : Int)] W fun e w' => e = .returned (.tuple #[.int .u64 0, .int .i64 2]) ∧ w' = W := by
  have hcall := Aside0.mk (take_short w0 W g l n h (by omega))
  have q1 : ((n : Int) < 1) = False := eq_false (by omega)
  have q2 : (8 < (n : Int)) = False := eq_false (by omega)
  have hu2 := Try.underlying89
  clear h hk h1 h8
  go_enter Try.func56, Try.ntmps56
  go_wp2_with (go_at_call 61; refine hcall.out.mono ?_; rintro e w4 ⟨rfl, rfl⟩; clear hcall)
  go_ret2
  exact ⟨rfl, rfl⟩
theorem get_ok (w0 W : World) (g : Nat) (l : List Int) (n : Nat) (h : Rd w0 W g l) (hB : Below w0.heap.size w0 W) (hb : ∀ x ∈ l, byteB x) (h1 : 1 ≤ n) (h8 : n ≤ 8) (hk : n ≤ l.length) :
    Calls Try.prog 56 #[.pointer (some ⟨g, 0, none⟩), .int .i64 (n : Int)] W fun e w' => e = .returned (.tuple #[.int .u64 (leN (l.take n)), .int .i64 0]) ∧ Rd w0 w' g (l.drop n) ∧ W.grownBy w' (some g) := by
  have hcall := Aside0.mk (take_ok w0 W g l n h hk)
  obtain ⟨_, _, _, hge, _, _⟩ := h
  have hl : (l.take n).length = n := by rw [List.length_take]; omega
  have HNUM := Aside0.mk (fun (A : Option Addr) (c : Nat) (W2 : World) (hC : Kd.C KU w0 A n (l.take n)) (hc : n ≤ c) (hb2 : Below w0.heap.size w0 W2) => (show Calls Try.prog 62 #[.slice A n c] W2 fun e w' => e = .returned (.int .u64 (leN (l.take n))) ∧ Drawn0 W2 w' from by
    have := number_ok A c (l.take n) W2 (by rw [hl]; exact Kd.C_below hC hb2) (by rw [hl]; exact hc) (fun x hx => hb x (List.mem_of_mem_take hx)) (by omega)
    rwa [hl] at this))
  have HB := Aside0.mk hB
  have HG := Aside0.mk hge
  have q1 : ((n : Int) < 1) = False := eq_false (by omega)
  have q2 : (8 < (n : Int)) = False := eq_false (by omega)
  have hu2 := Try.underlying89
  obtain ⟨r, hr⟩ : ∃ r, leN (l.take n) = r := ⟨_, rfl⟩
  rw [hr] at HNUM ⊢
  clear hk h1 h8 hl hB hb hge hr
  go_enter Try.func56, Try.ntmps56
  go_wp2_with (first | (go_at_call 61; refine hcall.out.mono ?_; rintro e w4 ⟨A, c, rfl, hC, hcc, hR, u, rfl⟩; have HC := Aside0.mk hC; have HCC := Aside0.mk hcc; have HR := Aside0.mk hR; clear hcall hC hcc hR) | (go_at_call 62; refine (HNUM.out _ _ _ HC.out HCC.out (HB.out.setCell HG.out _)).mono ?_; rintro e w5 ⟨rfl, hd⟩; have HR5 := Aside0.mk (HR.out.later (hd.below.block g (by obtain ⟨_, _, hbb, _⟩ := HR.out; exact blk_lt hbb))); have HG5 := Aside0.mk ((grown_set W g u).trans (grown_drawn hd (some g))); clear HNUM hd))
  go_ret2
  exact ⟨rfl, HR5.out, HG5.out⟩
end Go.Proofs.Ythcikbbglpdjhaa.Q
