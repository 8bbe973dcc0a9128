/- note.Decode, as the print asks it. No condition. -/
import Derived.Test.YthcikbbglpdjhaaRT
namespace Go.Proofs.Ythcikbbglpdjhaa.Q
open Go.RowKit Go.Proofs.YthcikbbglpdjhaaW Go.Proofs.YthcikbbglpdjhaaW.PrintWords Go.Proofs.YthcikbbglpdjhaaW.PrintLast Go.Proofs.YthcikbbglpdjhaaW.PrintMore
set_option linter.unusedVariables false
set_option linter.unusedSimpArgs false
def toldN : PN → Int × Int × List S44 × List S46 × Int
  | .ok (k, s, im, os) => (k, s, im, os, 0)
  | .error n => (0, 0, [], [], n)
def bytesB (l : List Int) : Bool := l.all fun x => decide (0 ≤ x ∧ x < 256)
theorem bytesB_iff (l : List Int) : bytesB l = true ↔ ∀ x ∈ l, byteB x := by unfold bytesB byteB; rw [List.all_eq_true]; exact forall₂_congr fun _ _ => decide_eq_true_iff
def note_Decode.f (l : List Int) : Option (Int × Int × List S44 × List S46 × Int) := if bytesB l = true then some (toldN (pNote l)) else none
theorem note_Decode.at_ {l : List Int} (h : ∀ x ∈ l, byteB x) : note_Decode.f l = some (toldN (pNote l)) := if_pos ((bytesB_iff l).2 h)
theorem note_Decode.calls (A0 : Option Addr) (c0 : Nat) (l0 : List Int) (r0 r1 : Int) (r2 : List S44) (r3 : List S46) (r4 : Int) (w : World) (hr0 : Kd.C KU w A0 l0.length l0) (hc0 : l0.length ≤ c0) (h : note_Decode.f l0 = some (r0, r1, r2, r3, r4)) :
    Calls Try.prog 10 #[.slice A0 l0.length c0] w fun e w' => ∃ v2 v3, e = .returned (.tuple #[.agg #[.int .i64 r0, .int .i64 r1, v2, v3], .int .i64 r4]) ∧ Kd.S k44 44 w' w.heap.size (fun _ => True) v2 r2 ∧ Kd.R k46 46 w' w.heap.size (fun _ => True) v3 r3 ∧ Below w.heap.size w w' := by
  unfold note_Decode.f at h
  by_cases hbb : bytesB l0 = true
  · have hb := (bytesB_iff l0).1 hbb
    rw [if_pos hbb] at h
    injection h with h
    have hn : Noted w l0 (pNote l0) := fun W g hr => rnote w W g l0 hr
    cases hp : pNote l0 with
    | ok a =>
      obtain ⟨k, s, im, os⟩ := a
      rw [hp] at h hn
      simp only [toldN, Prod.mk.injEq] at h
      obtain ⟨rfl, rfl, rfl, rfl, rfl⟩ := h
      exact decode_ok w A0 c0 l0 hr0 hc0 hb k s im os hn
    | error n =>
      rw [hp] at h hn
      simp only [toldN, Prod.mk.injEq] at h
      obtain ⟨rfl, rfl, rfl, rfl, rfl⟩ := h
      refine (decode_bad w A0 c0 l0 hr0 hc0 hb n hn).mono ?_
      rintro e w' ⟨rfl, hbl⟩
      exact ⟨_, _, rfl, Kd.S_nil _ _ _ _ _, Kd.R_nil _ _ _ _ _, hbl⟩
  · rw [if_neg hbb] at h
    cases h
end Go.Proofs.Ythcikbbglpdjhaa.Q
