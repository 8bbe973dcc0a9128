/- The chapter's functions as they are called by the laws: at a note that is read. No condition. -/
import Derived.Test.YthcikbbglpdjhaaQ8
import Derived.Test.YthcikbbglpdjhaaAO
import Derived.Test.YthcikbbglpdjhaaEN
import Derived.Test.YthcikbbglpdjhaaSM
namespace Go.Proofs.Ythcikbbglpdjhaa.Q
open Go.RowKit Go.Proofs.YthcikbbglpdjhaaW Go.Proofs.YthcikbbglpdjhaaW.PrintWords Go.Proofs.YthcikbbglpdjhaaW.PrintLast Go.Proofs.YthcikbbglpdjhaaW.PrintMore
set_option linter.unusedVariables false
set_option linter.unusedSimpArgs false
def fewB (most : Int) (im : List S44) (os : List S46) : Bool := decide ((im.length : Int) ≤ most) && decide ((os.length : Int) ≤ most) && im.all fun x => decide (x.f1.length ≤ 50)
theorem few_l0 (a b : Int) (L : List S44) (os : List S46) (hL : L.length < 1000000000) : ∀ (n i : Nat), i + n = L.length → Evals (fun k => heronryref18_Few.l0 k (i : Int) a b L os) ((L.drop i).all fun x => decide (x.f1.length ≤ 50))
  | 0, i, hi => by
    rw [List.drop_eq_nil_of_le (by omega)]
    refine Evals.succ (Evals.of fun k => ?_)
    rw [heronryref18_Few.l0, if_neg (by omega)]
    rfl
  | n + 1, i, hi => by
    have hil : i < L.length := by omega
    have ih := few_l0 a b L os hL n (i + 1) (by omega)
    have e1 : wrap64 ((i : Int) + 1) = ((i + 1 : Nat) : Int) := by rw [w64_of (by omega) (by omega)]; omega
    rw [List.drop_eq_getElem_cons hil, List.all_cons]
    by_cases h : (L[i]).f1.length ≤ 50
    · rw [decide_eq_true h, Bool.true_and]
      refine Evals.succ (Evals.congr (fun k => ?_) ih)
      rw [heronryref18_Few.l0, if_pos (by omega), if_pos (by omega), rd44_at L i hil, if_neg (by omega), e1]
    · rw [decide_eq_false h, Bool.false_and]
      refine Evals.succ (Evals.of fun k => ?_)
      rw [heronryref18_Few.l0, if_pos (by omega), if_pos (by omega), rd44_at L i hil, if_pos (by omega)]
theorem few_ev (a b : Int) (L : List S44) (os : List S46) (most : Int) (hm : most ≤ 300) : Evals (fun k => heronryref18_Few.f k a b L os most) (fewB most L os) := by
  unfold heronryref18_Few.f fewB
  by_cases h1 : (L.length : Int) > most
  · simp only [if_pos h1]
    rw [decide_eq_false (show ¬ (L.length : Int) ≤ most by omega), Bool.false_and, Bool.false_and]
    refine Evals.succ (Evals.of fun k => ?_)
    rw [heronryref18_Few.j0, if_pos rfl]
  · simp only [if_neg h1]
    rw [decide_eq_true (show (L.length : Int) ≤ most by omega), Bool.true_and]
    by_cases h2 : (os.length : Int) > most
    · rw [decide_eq_false (show ¬ (os.length : Int) ≤ most by omega), Bool.false_and]
      refine Evals.succ (Evals.of fun k => ?_)
      rw [heronryref18_Few.j0, if_pos (decide_eq_true h2)]
    · rw [decide_eq_true (show (os.length : Int) ≤ most by omega), Bool.true_and]
      have h := few_l0 a b L os (by omega) L.length 0 (by omega)
      rw [List.drop_zero] at h
      refine Evals.succ (Evals.congr (fun k => ?_) h)
      rw [heronryref18_Few.j0, if_neg (by simpa using h2)]
      rfl
theorem few_parts {most : Int} {im : List S44} {os : List S46} (h : fewB most im os = true) : (im.length : Int) ≤ most ∧ (os.length : Int) ≤ most := by
  unfold fewB at h
  simp only [Bool.and_eq_true, decide_eq_true_eq] at h
  exact h.1
/-- The rows of a note, read in W. -/
structure NC (W : World) (A2 : Option Addr) (c2 : Nat) (im : List S44) (A3 : Option Addr) (c3 : Nat) (os : List S46) : Prop where
  i : Kd.C k44 W A2 im.length im
  ic : im.length ≤ c2
  o : Kd.C k46 W A3 os.length os
  oc : os.length ≤ c3
theorem NC.below {w W : World} {A2 : Option Addr} {c2 : Nat} {im : List S44} {A3 : Option Addr} {c3 : Nat} {os : List S46} (h : NC w A2 c2 im A3 c3 os) (hb : Below w.heap.size w W) : NC W A2 c2 im A3 c3 os := ⟨Kd.C_below h.i hb, h.ic, Kd.C_below h.o hb, h.oc⟩
section
variable {W : World} {A2 A3 : Option Addr} {c2 c3 : Nat} {im : List S44} {os : List S46}
theorem awake_c (W : World) : Calls Try.prog 9 #[] W fun e w' => e = .returned (.bool true) ∧ Below W.heap.size W w' := by
  obtain ⟨k, hk⟩ := awake_ev.get
  exact heronrylaw18_awake.calls k true W hk
theorem few_c (h : NC W A2 c2 im A3 c3 os) (a b most : Int) (hm : most ≤ 300) : Calls Try.prog 15 #[.agg #[.int .i64 a, .int .i64 b, .slice A2 im.length c2, .slice A3 os.length c3], .int .i64 most] W fun e w' => e = .returned (.bool (fewB most im os)) ∧ Below W.heap.size W w' := by
  obtain ⟨k, hk⟩ := (few_ev a b im os most hm).get
  exact heronryref18_Few.calls k a b A2 c2 im A3 c3 os most _ W h.i h.ic h.o h.oc hk
theorem ours_c (h : NC W A2 c2 im A3 c3 os) (a b : Int) : Calls Try.prog 16 #[.agg #[.int .i64 a, .int .i64 b, .slice A2 im.length c2, .slice A3 os.length c3]] W fun e w' => e = .returned (.agg #[.int .i64 a, .int .i64 b, .slice A2 im.length c2, .slice A3 os.length c3]) ∧ Below W.heap.size W w' :=
  heronrylaw18_ours.calls a b A2 c2 im A3 c3 os W h.i h.ic h.o h.oc rfl
theorem theirs_c (h : NC W A2 c2 im A3 c3 os) (a b : Int) : Calls Try.prog 12 #[.agg #[.int .i64 a, .int .i64 b, .slice A2 im.length c2, .slice A3 os.length c3]] W fun e w' => e = .returned (.agg #[.int .i64 a, .int .i64 b, .slice A2 im.length c2, .slice A3 os.length c3]) ∧ Below W.heap.size W w' :=
  heronrylaw18_theirs.calls a b A2 c2 im A3 c3 os W h.i h.ic h.o h.oc rfl
theorem sane_c (h : NC W A2 c2 im A3 c3 os) (a b : Int) (h1 : im.length < 1000000000) (h2 : os.length < 1000000000) : Calls Try.prog 14 #[.agg #[.int .i64 a, .int .i64 b, .slice A2 im.length c2, .slice A3 os.length c3]] W fun e w' => e = .returned (.bool (saneN a b im os)) ∧ Below W.heap.size W w' := by
  obtain ⟨k, hk⟩ := (sane_ev a b im os h1 h2).get
  exact note_Sane.calls k a b A2 c2 im A3 c3 os _ W h.i h.ic h.o h.oc hk
theorem same_c {B2 B3 : Option Addr} {d2 d3 : Nat} (h : NC W A2 c2 im A3 c3 os) (h' : NC W B2 d2 im B3 d3 os) (a b : Int) (h1 : im.length < 1000000000) (h2 : os.length < 1000000000) : Calls Try.prog 11 #[.agg #[.int .i64 a, .int .i64 b, .slice A2 im.length c2, .slice A3 os.length c3], .agg #[.int .i64 a, .int .i64 b, .slice B2 im.length d2, .slice B3 os.length d3]] W fun e w' => e = .returned (.bool true) ∧ Below W.heap.size W w' := by
  obtain ⟨k, hk⟩ := (same_ev a b im os h1 h2).get
  exact heronryref18_Same.calls k a b A2 c2 im A3 c3 os a b B2 d2 im B3 d3 os _ W h.i h.ic h.o h.oc h'.i h'.ic h'.o h'.oc hk
end
/-- A box of four cells, made in the call. -/
structure B4 (w : World) (b t : Nat) (c0 c1 c2 c3 : Value) (W : World) : Prop where
  below : Below w.heap.size w W
  at_ : W.heap[b]? = some (.cells #[c0, c1, c2, c3] t (0, 0))
  ge : w.heap.size ≤ b
section
variable {w : World} {b t : Nat} {c0 c1 c2 c3 : Value} {W : World}
theorem B4.new (w : World) (t : Nat) (c0 c1 c2 c3 : Value) {W : World} (hb : Below w.heap.size w W) : B4 w W.heap.size t c0 c1 c2 c3 (W.alloc (.cells #[c0, c1, c2, c3] t)) := ⟨hb.trans (((Below.refl _ _).alloc (Nat.le_refl _) _).mono hb.size), blk_new W _, hb.size⟩
theorem B4.next (h : B4 w b t c0 c1 c2 c3 W) {W' : World} (hb : Below W.heap.size W W') : B4 w b t c0 c1 c2 c3 W' := ⟨h.below.trans (hb.mono h.below.size), blk_below h.at_ hb, h.ge⟩
theorem B4.x0 (h : B4 w b t c0 c1 c2 c3 W) : W.cell? ⟨b, 0, none⟩ = some c0 := (blk_cell h.at_ 0).trans rfl
theorem B4.x1 (h : B4 w b t c0 c1 c2 c3 W) : W.cell? ⟨b, 1, none⟩ = some c1 := (blk_cell h.at_ 1).trans rfl
theorem B4.x2 (h : B4 w b t c0 c1 c2 c3 W) : W.cell? ⟨b, 2, none⟩ = some c2 := (blk_cell h.at_ 2).trans rfl
theorem B4.x3 (h : B4 w b t c0 c1 c2 c3 W) : W.cell? ⟨b, 3, none⟩ = some c3 := (blk_cell h.at_ 3).trans rfl
end
end Go.Proofs.Ythcikbbglpdjhaa.Q
