/- NoteTold: at every input the law returns true and its arguments read as before. No condition. -/
import Derived.Test.YthcikbbglpdjhaaQ7
import Derived.Test.YthcikbbglpdjhaaEN
import Derived.Test.YthcikbbglpdjhaaSM
import Derived.Test.YthcikbbglpdjhaaB
import Derived.Test.YthcikbbglpdjhaaFNoteTold
namespace Go.Proofs.Ythcikbbglpdjhaa.Q
open Go.RowKit Go.Proofs.YthcikbbglpdjhaaW Go.Proofs.YthcikbbglpdjhaaW.PrintWords Go.Proofs.YthcikbbglpdjhaaW.PrintLast Go.Proofs.YthcikbbglpdjhaaW.PrintMore
set_option linter.unusedVariables false
set_option linter.unusedSimpArgs false
theorem told_ev (l : List Int) (a : Int) (hb : ∀ x ∈ l, byteB x) : Evals (fun k => heronrylaw18_NoteTold.f k l a) true := by
  unfold heronrylaw18_NoteTold.f
  refine Evals.bind awake_ev ?_
  by_cases hl : (l.length : Int) > 2000
  · simp only [if_pos hl]
    exact Evals.of fun _ => rfl
  · simp only [if_neg hl]
    rw [note_Decode.at_ hb]
    simp only [Option.bind_some]
    cases hp : pNote l with
    | error n =>
      have hn := pNote_errs hp
      have h0 : ¬ n = 0 := by omega
      simp only [toldN]
      simp only [if_neg h0, if_pos]
      refine Evals.bind (g := fun _ => heronrylaw18_theirs.f 0 0 [] []) (a := ()) (Evals.of fun _ => rfl) ?_
      refine Evals.bind (same_ev 0 0 [] [] (by simp) (by simp)) ?_
      refine Evals.of fun _ => ?_
      rcases hn with rfl | rfl <;> rfl
    | ok r =>
      obtain ⟨kd, s, im, os⟩ := r
      obtain ⟨he, hs⟩ := pNote_told hb hp
      obtain ⟨hd, h1, h2⟩ := sane_data hs
      have hen := enc_ev kd s im os (by omega) (by omega) hs
      rw [he] at hen
      have hlen : 11 ≤ l.length := by rw [← he, encN_length kd s im os hd]; omega
      have hmx : mx 1 (l.length : Int) = (l.length : Int) := by unfold mx; rw [if_pos (by omega)]
      have ha : 0 ≤ Go.bits .and .i64 a 65535 := by rw [and_65535]; omega
      obtain ⟨x, hx⟩ : ∃ x, Go.bits .and .i64 a 65535 = x := ⟨_, rfl⟩
      rw [hx] at ha
      have hm : Int.tmod x (l.length : Int) = x % (l.length : Int) := Int.tmod_eq_emod_of_nonneg ha
      have m0 : 0 ≤ x % (l.length : Int) := Int.emod_nonneg _ (by omega)
      have m1 : x % (l.length : Int) < (l.length : Int) := Int.emod_lt_of_pos _ (by omega)
      have hsh := pNote_short hp (x % (l.length : Int)).toNat (by omega)
      have hdc : note_Decode.f (l.take (x % (l.length : Int)).toNat) = some (0, 0, [], [], 2) := by
        rw [note_Decode.at_ (fun y hy => hb y (List.mem_of_mem_take hy)), hsh]; rfl
      have c1 : ¬ (l.length : Int) = 0 := by omega
      have c2 : x % (l.length : Int) ≤ (l.length : Int) := by omega
      simp only [toldN, if_pos, hmx, hx, hm, hdc, Option.bind_some, if_neg c1, if_pos m0, if_pos c2]
      refine Evals.bind hen ?_
      simp only [if_pos]
      have hsn := sane_ev kd s im os (by omega) (by omega)
      rw [hs] at hsn
      refine Evals.bind hsn ?_
      exact Evals.of fun _ => rfl
theorem byte_of {x : Int} (h : (Lit.int .u8 x).wf = true) : byteB x := by
  simp only [Lit.wf, Bool.and_eq_true, decide_eq_true_eq] at h
  have h1 : (IntKind.u8.min : Int) = 0 := by decide
  have h2 : (IntKind.u8.max : Int) = 255 := by decide
  unfold byteB
  omega
end Go.Proofs.Ythcikbbglpdjhaa.Q
namespace Go.Proofs.Ythcikbbglpdjhaa
open Go.RowKit Go.Proofs.YthcikbbglpdjhaaW Go.Proofs.YthcikbbglpdjhaaW.PrintWords Go.Proofs.YthcikbbglpdjhaaW.PrintLast Go.Proofs.YthcikbbglpdjhaaW.PrintMore Go.Proofs.Ythcikbbglpdjhaa.Q
theorem noteTold_holds : Rows.NoteToldSaid := noteTold.said fun A0 c0 l0 a1 w hC hc hb ha => by
  have hb' : ∀ x ∈ l0, byteB x := fun x hx => by
    exact byte_of (hb x hx)
  obtain ⟨k, hk⟩ := (told_ev l0 a1 hb').get
  exact heronrylaw18_NoteTold.calls k A0 c0 l0 a1 true w ⟨rfl⟩ hC hc hk
end Go.Proofs.Ythcikbbglpdjhaa
