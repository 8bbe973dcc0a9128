/- A note that may be, in plain words. No condition. -/
import Derived.Test.YthcikbbglpdjhaaQ2
import Derived.Test.YthcikbbglpdjhaaEV
namespace Go.Proofs.Ythcikbbglpdjhaa.Q
open Go.RowKit Go.Proofs.YthcikbbglpdjhaaW Go.Proofs.YthcikbbglpdjhaaW.PrintWords Go.Proofs.YthcikbbglpdjhaaW.PrintLast Go.Proofs.YthcikbbglpdjhaaW.PrintMore
set_option linter.unusedVariables false
set_option linter.unusedSimpArgs false
/-- Blocks ascend behind last, none of 256 or more, each of 32 bytes. -/
def goodI : Int → List S44 → Bool
  | _, [] => true
  | last, x :: r => decide (last < x.f0) && decide (x.f0 < 256) && decide (x.f1.length = 32) && goodI x.f0 r
def saneN (kd sq : Int) (im : List S44) (os : List S46) : Bool :=
  decide (0 ≤ sq) && decide (sq ≤ 1099511627776) && (if kd = 2 then decide (im.length + os.length = 0) else if kd = 1 then goodI (-1) im && decide (im.length ≤ 256) && (decide (os.length ≤ 256) && !(os.any badO)) else false)
theorem rd44_at (L : List S44) (i : Nat) (h : i < L.length) : rd_T44 L (i : Int) = L[i] := by
  unfold rd_T44; rw [Int.toNat_natCast, List.getD_eq_getElem?_getD, List.getElem?_eq_getElem h]; rfl
theorem rd46_at (L : List S46) (i : Nat) (h : i < L.length) : rd_T46 L (i : Int) = L[i] := by
  unfold rd_T46; rw [Int.toNat_natCast, List.getD_eq_getElem?_getD, List.getElem?_eq_getElem h]; rfl
theorem img_ev (L : List S44) (hL : L.length < 1000000000) : ∀ (n i : Nat) (last : Int), i ≤ L.length → L.length - i = n → Evals (fun k => note_images.l0 k L last L (L.length : Int) (i : Int)) (goodI last (L.drop i) && decide (L.length ≤ 256))
  | 0, i, last, hi, hn => by
    have e : i = L.length := by omega
    refine Evals.succ (Evals.of (fun k => ?_))
    rw [note_images.l0, if_neg (by omega), e, List.drop_length]
    simp [goodI]
    omega
  | n + 1, i, last, hi, hn => by
    have hil : i < L.length := by omega
    have ih := img_ev L hL n (i + 1) (L[i]).f0 (by omega) (by omega)
    have e1 : wrap64 ((i : Int) + 1) = ((i + 1 : Nat) : Int) := by rw [w64_of (by omega) (by omega)]; omega
    rw [List.drop_eq_getElem_cons hil]
    unfold goodI
    by_cases h1 : (L[i]).f0 ≤ last
    · refine Evals.succ (Evals.of (fun k => ?_))
      rw [note_images.l0, if_pos (by omega), if_pos (by omega), if_pos (by omega), rd44_at L i hil, if_pos h1]
      simp; intro h; omega
    · by_cases h2 : (L[i]).f0 ≥ 256
      · refine Evals.succ (Evals.of (fun k => ?_))
        rw [note_images.l0, if_pos (by omega), if_pos (by omega), if_pos (by omega), rd44_at L i hil, if_neg h1, if_pos h2]
        simp; intro _ h; omega
      · by_cases h3 : (L[i]).f1.length = 32
        · have : (decide (last < L[i].f0) && decide (L[i].f0 < 256) && decide (L[i].f1.length = 32) && goodI L[i].f0 (List.drop (i + 1) L)) = goodI L[i].f0 (List.drop (i + 1) L) := by
            rw [decide_eq_true (show last < L[i].f0 by omega), decide_eq_true (show L[i].f0 < 256 by omega), decide_eq_true h3]; rfl
          rw [this]
          refine Evals.succ (Evals.congr (fun k => ?_) ih)
          rw [note_images.l0, if_pos (by omega), if_pos (by omega), if_pos (by omega), rd44_at L i hil, if_neg h1, if_neg h2, if_pos (by omega), e1]
        · refine Evals.succ (Evals.of (fun k => ?_))
          rw [note_images.l0, if_pos (by omega), if_pos (by omega), if_pos (by omega), rd44_at L i hil, if_neg h1, if_neg h2, if_neg (by omega)]
          simp [h3]
theorem sane_ev (kd sq : Int) (im : List S44) (os : List S46) (h1 : im.length < 1000000000) (h2 : os.length < 1000000000) : Evals (fun k => note_Sane.f k kd sq im os) (saneN kd sq im os) := by
  unfold note_Sane.f saneN
  by_cases c1 : sq < 0
  · simp only [if_pos c1]
    refine Evals.succ (Evals.of (fun k => ?_))
    rw [note_Sane.j0, if_pos rfl, decide_eq_false (by omega)]; rfl
  · simp only [if_neg c1]
    by_cases c2 : sq > 1099511627776
    · refine Evals.succ (Evals.of (fun k => ?_))
      rw [note_Sane.j0, if_pos (decide_eq_true c2), decide_eq_false (show ¬ sq ≤ 1099511627776 by omega), Bool.and_false]; rfl
    · rw [decide_eq_true (show 0 ≤ sq by omega), decide_eq_true (show sq ≤ 1099511627776 by omega), Bool.true_and, Bool.true_and]
      have hd : ¬ (decide (sq > 1099511627776) = true) := by simpa using c2
      by_cases c3 : kd = 2
      · rw [if_pos c3]
        refine Evals.succ (Evals.of (fun k => ?_))
        rw [note_Sane.j0, if_neg hd, if_pos c3, w64_of (by omega) (by omega)]
        congr 1
        by_cases h : im.length + os.length = 0
        · rw [decide_eq_true h, beq_iff_eq]; omega
        · rw [decide_eq_false h, beq_eq_false_iff_ne]; omega
      · rw [if_neg c3]
        by_cases c4 : kd = 1
        · rw [if_pos c4]
          have hi := img_ev im h1 im.length 0 (-1) (by omega) (by omega)
          rw [List.drop_zero] at hi
          have ho : note_ops.f os = some (decide (os.length ≤ 256) && !(os.any badO)) := by unfold note_ops.f; rw [if_pos h2]
          refine Evals.succ (Evals.congr (fun k => ?_) (Evals.bind (g := fun k => note_images.f k im) (h := fun _ t => if t = true then some (decide (os.length ≤ 256) && !(os.any badO)) else some false) hi (Evals.of fun _ => ?_)))
          · rw [note_Sane.j0, if_neg hd, if_neg c3, if_pos c4, ho]; rfl
          · cases (goodI (-1) im && decide (im.length ≤ 256)) <;> simp
        · rw [if_neg c4]
          refine Evals.succ (Evals.of (fun k => ?_))
          rw [note_Sane.j0, if_neg hd, if_neg c3, if_neg c4]
end Go.Proofs.Ythcikbbglpdjhaa.Q
