/- What the printed functions of the list answer. No condition. -/
import Derived.Test.YtjpoepiidmoegaaYP
import Derived.Test.YtjpoepiidmoegaaQ5
import Derived.Test.YtjpoepiidmoegaaEV
import Derived.Test.YtjpoepiidmoegaaF0
import Derived.Test.YtjpoepiidmoegaaB
namespace Go.Proofs.Ytjpoepiidmoegaa.Q
open Go.RowKit Go.Proofs.YtjpoepiidmoegaaW Go.Proofs.YtjpoepiidmoegaaW.PrintWords Go.Proofs.YtjpoepiidmoegaaW.PrintLast Go.Proofs.YtjpoepiidmoegaaW.PrintMore
set_option linter.unusedVariables false
set_option linter.unusedSimpArgs false

theorem sane_val {L : List S33} (hi : ∀ x ∈ L, inE x = true) (hn : L.length < 1000000000) : oplist_Sane.f L = some (saneL L) := by
  have hall : L.all inE = true := List.all_eq_true.2 hi
  unfold oplist_Sane.f oplist_Entry_38.f oplist_List_open.f saneL
  rw [if_pos rfl, if_pos ⟨hall, hn⟩]
  have hs := openL_spec L
  have hl := openL_len L
  have hop : (opn L).length ≤ L.length := by
    rw [← hl]; unfold openL
    split
    · exact Nat.zero_le _
    · exact outL_len _ _ _
  have ea : L.any (fun x => !soundB x) = !(L.all soundB) := by
    rw [List.all_eq_not_any_not, Bool.not_not]
  simp only [Option.bind_some, ea, hs.2.1, hl]
  cases h1 : L.all soundB with
  | false => rfl
  | true =>
    cases h2 : (opE L []).isSome with
    | false => rfl
    | true =>
      have e : wrap64 ((L.length : Int) + ((opn L).length : Int)) = ((L.length + (opn L).length : Nat) : Int) := by unfold wrap64; omega
      rw [e]
      simp only [Bool.not_true, Bool.true_and, if_true, if_neg (show ¬ (false = true) by decide)]
      congr 1
      rw [decide_eq_decide]
      omega
theorem clone_val {L : List S33} (hn : L.length < 1000000000) : oplist_Entry_31.f L = some L := by
  unfold oplist_Entry_31.f; rw [if_pos (by omega)]
theorem do_ev {L : List S33} (hi : ∀ x ∈ L, inE x = true) (hn : L.length < 900000000) {a b c : Int} (ha : inE ⟨a, b, c, false⟩ = true) : Evals (fun k => oplist_Do.f k L a b c) (doL L ⟨a, b, c, false⟩) := by
  unfold oplist_Do.f doL
  have hs := sane_val hi (by omega)
  have hsn := sound_val ⟨a, b, c, false⟩
  have hi2 : ∀ x ∈ L ++ [(⟨a, b, c, false⟩ : S33)], inE x = true := fun x hx => by
    rcases List.mem_append.1 hx with hx | hx
    · exact hi x hx
    · rw [List.mem_singleton.1 hx]; exact ha
  have hs2 := sane_val hi2 (by simp; omega)
  simp only [hs, hsn, Option.bind_some]
  cases h1 : saneL L with
  | false =>
    rw [if_neg (by simp)]
    refine Evals.succ ?_
    simp only [oplist_Do.j0, if_neg (show ¬ (false = true) by decide), if_pos]
    exact Evals.const _
  | true =>
    simp only [if_pos]
    cases h2 : soundB ⟨a, b, c, false⟩ with
    | false =>
      rw [if_neg (by simp)]
      refine Evals.succ ?_
      simp only [oplist_Do.j0, Bool.not_false, if_pos]
      exact Evals.const _
    | true =>
      rw [if_pos (by simp)]
      refine Evals.succ ?_
      simp only [oplist_Do.j0, Bool.not_true, if_neg (show ¬ (false = true) by decide), clone_val (L := L) (by omega), Option.bind_some, List.length_singleton, if_pos (show L.length + 1 < 4398046511104 by omega), hs2]
      cases saneL (L ++ [(⟨a, b, c, false⟩ : S33)]) with
      | true => simp only [if_pos]; exact Evals.const _
      | false => simp only [if_neg (show ¬ (false = true) by decide)]; exact Evals.const _
theorem undo_val {L : List S33} (h : Fit L) (txs : List Int) : oplist_Undo.f L txs = some (undL L (fun x => decide (x.f0 ∈ txs))) := by
  unfold oplist_Undo.f; rw [if_pos ⟨h.all, by have := h.len; omega⟩]
theorem open_val {L : List S33} (h : Fit L) (tx : Int) : oplist_Open.f L tx = some ((opn L).filter (fun x => decide (x.f0 = tx))) := by
  unfold oplist_Open.f; rw [if_pos ⟨h.all, by have := h.len; omega⟩]

theorem awake_ev : Evals heronrylaw15_awake.f true := by
  have e1 : doL [] ⟨1, 0, 5, false⟩ = ([⟨1, 0, 5, false⟩], 0) := by decide +kernel
  have e2 : doL [⟨1, 0, 5, false⟩] ⟨1, 0, 3, false⟩ = ([⟨1, 0, 5, false⟩, ⟨1, 0, 3, false⟩], 0) := by decide +kernel
  have e3 : undL [⟨1, 0, 5, false⟩, ⟨1, 0, 3, false⟩] (fun x => decide (x.f0 ∈ ([1] : List Int))) = [⟨1, 0, 5, false⟩, ⟨1, 0, 3, false⟩, ⟨1, 0, -3, true⟩, ⟨1, 0, -5, true⟩] := by decide +kernel
  have d1 := do_ev (L := []) (a := 1) (b := 0) (c := 5) (by simp) (by decide) (by decide)
  have d2 := do_ev (L := [⟨1, 0, 5, false⟩]) (a := 1) (b := 0) (c := 3) (by simp; decide) (by decide) (by decide)
  have u := undo_val (L := [⟨1, 0, 5, false⟩, ⟨1, 0, 3, false⟩]) ⟨by simp; decide, by simp; decide, [⟨1, 0, 5, false⟩, ⟨1, 0, 3, false⟩], by decide +kernel, by decide⟩ [1]
  have s := sane_val (L := [⟨1, 0, 5, false⟩, ⟨1, 0, 3, false⟩, ⟨1, 0, -3, true⟩, ⟨1, 0, -5, true⟩]) (by simp; decide) (by decide)
  have es : saneL [⟨1, 0, 5, false⟩, ⟨1, 0, 3, false⟩, ⟨1, 0, -3, true⟩, ⟨1, 0, -5, true⟩] = true := by decide +kernel
  rw [e1] at d1
  rw [e2] at d2
  rw [e3] at u
  rw [es] at s
  show Evals (fun k => heronrylaw15_awake.f k) true
  unfold heronrylaw15_awake.f
  refine Evals.bind d1 ?_
  refine Evals.bind d2 ?_
  simp only [u, s, Option.bind_some]
  exact Evals.of fun k => by simp [rd_T33]
theorem wf74 {x : S74} (h : g74 x) : inI x.f4 = true := by
  have := h.2.2.2.2
  have h' : (decide (-9223372036854775808 ≤ x.f4) && decide (x.f4 ≤ 9223372036854775807)) = true := this
  unfold inI; simpa using h'
theorem rd74 (l : List S74) (k : Nat) (hk : k < l.length) : rd_T74 l (k : Int) = l[k] := by
  unfold rd_T74; simp [List.getD_eq_getElem?_getD, List.getElem?_eq_getElem hk]
theorem inE_small {a b c : Int} {d : Bool} (ha : 0 ≤ a ∧ a < 64) (hb : 0 ≤ b ∧ b < 64) (hc : inI c = true) : inE ⟨a, b, c, d⟩ = true := by
  unfold inE inI at *
  simp only [Bool.and_eq_true, decide_eq_true_eq] at *
  omega
theorem grown_loop (l : List S74) (hl : ∀ y ∈ l, g74 y) (hn : l.length ≤ 200) (d : Nat) : ∀ (i : Nat) (L : List S33), i + d = l.length → Grown L →
    ∃ R, Grown R ∧ Evals (fun k => heronrylaw15_grown.l0 k l (i : Int) L) R := by
  induction d with
  | zero =>
    intro i L hi hL
    refine ⟨L, hL, Evals.succ ?_⟩
    have h0 : ¬ (i : Int) < (l.length : Int) := by omega
    simp only [heronrylaw15_grown.l0, if_neg h0]
    exact Evals.const _
  | succ d ih =>
    intro i L hi hL
    have h0 : (i : Int) < (l.length : Int) := by omega
    have h1 : (0 : Int) ≤ (i : Int) := by omega
    have hx := rd74 l i (by omega)
    have hg := wf74 (hl _ (List.getElem_mem (show i < l.length by omega)))
    generalize l[i] = x at *
    have hw : wrap64 ((i : Int) + 1) = ((i + 1 : Nat) : Int) := by rw [w64 (by omega) (by omega)]; omega
    by_cases h4 : x.f0 = 4
    · obtain ⟨R, hR, hE⟩ := ih (i + 1) _ (by omega) (hL.undo _ (q_tx [x.f1 % 8, x.f2 % 8]))
      refine ⟨R, hR, Evals.succ ?_⟩
      simp only [heronrylaw15_grown.l0, if_pos h0, if_pos h1, hx, if_pos h4, and_7, undo_val hL.fit, Option.bind_some, hw]
      exact hE
    · have hd := do_ev hL.fit.inn (by have := hL.fit.len; omega) (a := x.f1 % 8) (b := x.f3 % 4) (c := x.f4) (inE_small (by omega) (by omega) hg)
      rcases do_ok hL.fit (x := ⟨x.f1 % 8, x.f3 % 4, x.f4, false⟩) (inE_small (by omega) (by omega) hg) rfl with ⟨h5, h6⟩ | h5 | ⟨h5, _⟩
      · obtain ⟨R, hR, hE⟩ := ih (i + 1) _ (by omega) (hL.snoc h6 ⟨by show 0 ≤ x.f1 % 8; omega, by show x.f1 % 8 < 8; omega, by show 0 ≤ x.f3 % 4; omega, by show x.f3 % 4 < 4; omega⟩)
        refine ⟨R, hR, Evals.succ ?_⟩
        simp only [heronrylaw15_grown.l0, if_pos h0, if_pos h1, hx, if_neg h4, and_7, and_3, hw]
        rw [h5] at hd
        refine Evals.bind hd ?_
        simp only [if_pos]
        exact hE
      · obtain ⟨R, hR, hE⟩ := ih (i + 1) _ (by omega) hL
        refine ⟨R, hR, Evals.succ ?_⟩
        simp only [heronrylaw15_grown.l0, if_pos h0, if_pos h1, hx, if_neg h4, and_7, and_3, hw]
        rw [h5] at hd
        refine Evals.bind hd ?_
        simp only [show ¬ ((13 : Int) = 0) by decide, if_false]
        exact hE
      · obtain ⟨R, hR, hE⟩ := ih (i + 1) _ (by omega) hL
        refine ⟨R, hR, Evals.succ ?_⟩
        simp only [heronrylaw15_grown.l0, if_pos h0, if_pos h1, hx, if_neg h4, and_7, and_3, hw]
        rw [h5] at hd
        refine Evals.bind hd ?_
        simp only [show ¬ ((1 : Int) = 0) by decide, if_false]
        exact hE
theorem grown_ev (l : List S74) (hl : ∀ y ∈ l, g74 y) (hn : l.length ≤ 200) : ∃ R, Grown R ∧ Evals (fun k => heronrylaw15_grown.f k l) R := by
  obtain ⟨R, hR, hE⟩ := grown_loop l hl hn l.length 0 [] (by omega) Grown.nil
  exact ⟨R, hR, hE⟩
end Go.Proofs.Ytjpoepiidmoegaa.Q
