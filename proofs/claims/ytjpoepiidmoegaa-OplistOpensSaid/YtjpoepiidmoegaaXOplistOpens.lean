/- OplistOpens: at every input the law returns true and its arguments read as before. No condition. -/
import Derived.Test.YtjpoepiidmoegaaYS
import Derived.Test.YtjpoepiidmoegaaFOplistOpens
import Derived.Test.YtjpoepiidmoegaaQ8
namespace Go.Proofs.Ytjpoepiidmoegaa.Q
open Go.RowKit Go.Proofs.YtjpoepiidmoegaaW Go.Proofs.YtjpoepiidmoegaaW.PrintWords Go.Proofs.YtjpoepiidmoegaaW.PrintLast Go.Proofs.YtjpoepiidmoegaaW.PrintMore
set_option linter.unusedVariables false
set_option linter.unusedSimpArgs false

theorem opens_loop (o x u : List S33) (t : Int) (ho : Fit o) (hu : Fit u) (ht : 0 ≤ t ∧ t < 8) (hle : x.length ≤ u.length) (htk : u.take x.length = x) (hx : x.length ≤ 1000)
    (h1 : (opn u).filter (fun y => decide (y.f0 = t)) = []) (h2 : ∀ i : Int, i ≠ t → (opn o).filter (fun y => decide (y.f0 = i)) = (opn u).filter (fun y => decide (y.f0 = i))) (d : Nat) : ∀ i : Nat, i + d = 8 →
    Evals (fun k => heronrylaw15_OplistOpens.l0 k true t (i : Int) o x u) true := by
  induction d with
  | zero =>
    intro i hi
    have h0 : ¬ (i : Int) < 8 := by omega
    have g1 : (0 : Int) ≤ (x.length : Int) := by omega
    have g2 : (x.length : Int) ≤ (u.length : Int) := by omega
    refine Evals.succ ?_
    simp only [heronrylaw15_OplistOpens.l0, if_neg h0, if_pos, if_pos g1, if_pos g2, Int.toNat_natCast, htk]
    refine Evals.bind (theirs_ev x (by omega)) ?_
    refine Evals.bind (theirs_ev x (by omega)) ?_
    refine Evals.bind (same_ev _ (by simp; omega)) ?_
    exact Evals.const _
  | succ d ih =>
    intro i hi
    have h0 : (i : Int) < 8 := by omega
    have hw : wrap64 ((i : Int) + 1) = ((i + 1 : Nat) : Int) := by rw [w64 (by omega) (by omega)]; omega
    refine Evals.succ ?_
    simp only [heronrylaw15_OplistOpens.l0, if_pos h0, open_val ho, open_val hu, Option.bind_some, hw]
    by_cases hit : (i : Int) = t
    · rw [hit, h1]
      simp only [if_pos, List.length_nil, Int.natCast_zero, if_pos (show ((0 : Nat) : Int) = 0 from rfl)]
      exact ih (i + 1) (by omega)
    · simp only [if_neg hit]
      have hlen : ((opn u).filter (fun y => decide (y.f0 = (i : Int)))).length ≤ 1000000 := by
        have a1 := List.length_filter_le (fun y : S33 => decide (y.f0 = (i : Int))) (opn u)
        obtain ⟨E, e1, e2⟩ := hu.is
        rw [opn_of e1] at a1 ⊢
        omega
      rw [h2 _ hit]
      refine Evals.bind (theirs_ev _ hlen) ?_
      refine Evals.bind (theirs_ev _ hlen) ?_
      refine Evals.bind (same_ev _ (by rw [List.length_map]; exact hlen)) ?_
      simp only [if_pos]
      exact ih (i + 1) (by omega)
theorem undL_le (L : List S33) (q : S33 → Bool) : L.length ≤ (undL L q).length := by unfold undL; rw [List.length_append]; omega
theorem undL_take (L : List S33) (q : S33 → Bool) : (undL L q).take L.length = L := by unfold undL; rw [List.take_left]
theorem num_up (n : Nat) (h : n ≤ 1000) : wrap64 ((n : Int) + 1) = ((n + 1 : Nat) : Int) := by unfold wrap64; omega
theorem num_down (n : Nat) (h : n ≤ 1000) : wrap64 (((n + 1 : Nat) : Int) - 1) = (n : Int) := by unfold wrap64; omega
theorem num_lt (n : Nat) : (n : Int) < ((n + 1 : Nat) : Int) := by omega
theorem num_ge (n : Nat) : (0 : Int) ≤ (n : Int) := by omega
theorem len_append (L : List S33) (e : S33) : (L ++ [e]).length = L.length + 1 := by simp
theorem rd_last (L : List S33) (e : S33) : rd_T33 (L ++ [e]) (L.length : Int) = e := by rw [rd_at _ _ (by simp)]; simp
/-- When one more is done: what follows. -/
theorem opens_done (o E : List S33) (t c b : Int) (ho : Fit o) (e1 : opE o [] = some E) (hE : E.length ≤ 256) (h6 : Fit (o ++ [⟨t, c, b, false⟩])) (ht0 : 0 ≤ t ∧ t < 8) :
    Evals (fun k => heronrylaw15_OplistOpens.j0 k true t false o (o ++ [⟨t, c, b, false⟩])) true := by
  have eo := opn_of e1
  have ex1 := opE_snoc e1 (x := ⟨t, c, b, false⟩) rfl
  have hq := q_tx [t]
  have hu6 := h6.undo _ hq
  have eu := opn_of (opE_undL ex1 _ hq)
  refine Evals.succ ?_
  simp only [heronrylaw15_OplistOpens.j0, if_neg (show ¬ (false = true) by decide), undo_val h6, Option.bind_some]
  refine opens_loop o _ _ t ho hu6 ht0 ?_ ?_ ?_ ?_ ?_ 8 0 (by omega)
  · exact undL_le _ _
  · exact undL_take _ _
  · exact Nat.le_trans h6.len (by decide)
  · rw [eu, List.filter_filter, List.filter_eq_nil_iff]
    intro y _; simp
  · intro i hi
    rw [eu, eo, List.filter_filter, List.filter_append]
    have : ([(⟨t, c, b, false⟩ : S33)]).filter (fun a => decide (a.f0 = i) && !decide (a.f0 ∈ [t])) = [] := by simp
    rw [this, List.append_nil]
    apply List.filter_congr
    intro y _
    by_cases hy : y.f0 = i
    · simp [hy, hi]
    · simp [hy]
theorem opens_ev (l : List S74) (hl : ∀ y ∈ l, g74 y) (a1 a2 a3 : Int) (h3 : inI a3 = true) : Evals (fun k => heronrylaw15_OplistOpens.f k l a1 a2 a3) true := by
  unfold heronrylaw15_OplistOpens.f
  refine Evals.bind awake_ev ?_
  by_cases h : (l.length : Int) > 200
  · simp only [if_pos h]; exact Evals.const _
  · simp only [if_neg h]
    obtain ⟨o, ho, hE⟩ := grown_ev l hl (by omega)
    refine Evals.bind hE ?_
    simp only [and_7, and_3]
    obtain ⟨t, ht⟩ : ∃ t, a1 % 8 = t := ⟨_, rfl⟩
    obtain ⟨c, hc⟩ : ∃ c, a2 % 4 = c := ⟨_, rfl⟩
    have ht0 : 0 ≤ t ∧ t < 8 := by omega
    have hc0 : 0 ≤ c ∧ c < 4 := by omega
    simp only [ht, hc]
    clear ht hc hE
    have hin : inE ⟨t, c, a3, false⟩ = true := inE_small (by omega) (by omega) h3
    have hd := do_ev ho.fit.inn (by have := ho.fit.len; omega) (a := t) (b := c) (c := a3) hin
    rcases do_ok ho.fit (x := ⟨t, c, a3, false⟩) hin rfl with ⟨h5, h6⟩ | h5 | ⟨h5, h7⟩
    · rw [h5] at hd
      refine Evals.bind hd ?_
      obtain ⟨E, e1, e2⟩ := ho.fit.is
      have eo := opn_of e1
      have ex := opn_of (opE_snoc e1 (x := ⟨t, c, a3, false⟩) rfl)
      have hf : (E ++ [(⟨t, c, a3, false⟩ : S33)]).filter (fun x => decide (x.f0 = t)) = E.filter (fun x => decide (x.f0 = t)) ++ [⟨t, c, a3, false⟩] := by
        rw [List.filter_append]; simp
      have hE2 : E.length ≤ 256 := Nat.le_trans (Nat.le_add_left _ _) e2
      have hEl : (E.filter (fun x => decide (x.f0 = t))).length ≤ 1000 := Nat.le_trans (List.length_filter_le _ _) (Nat.le_trans hE2 (by decide))
      have hfin := opens_done o E t c a3 ho.fit e1 hE2 h6 ht0
      have o1 := open_val h6 t
      have o2 := open_val ho.fit t
      rw [ex, hf] at o1
      rw [eo] at o2
      simp only [if_true]
      refine Evals.bind (Evals.of fun _ => o1) ?_
      refine Evals.bind (Evals.of fun _ => o2) ?_
      generalize E.filter (fun x => decide (x.f0 = t)) = M at *
      clear o1 o2 hf ex eo e2 e1 hd h6
      simp only [len_append, num_up M.length hEl, num_down M.length hEl, rd_last, if_pos, if_pos (num_lt M.length), if_pos (num_ge M.length)]
      exact hfin
    · rw [h5] at hd
      refine Evals.bind hd ?_
      simp only [show ¬ ((13 : Int) = 0) by decide, if_false, if_pos, List.length_nil]
      exact Evals.of fun k => by simp
    · rw [h5] at hd
      refine Evals.bind hd ?_
      have hm : a3 = -9223372036854775808 := by
        unfold soundB at h7
        simp only [Bool.and_eq_false_iff, decide_eq_false_iff_not, bne_eq_false_iff_eq] at h7
        omega
      simp only [show ¬ ((1 : Int) = 0) by decide, if_false, if_pos, List.length_nil]
      exact Evals.of fun k => by simp [hm]
end Go.Proofs.Ytjpoepiidmoegaa.Q
namespace Go.Proofs.Ytjpoepiidmoegaa
theorem oplistOpens_holds : Rows.OplistOpensSaid :=
  oplistOpens.said fun A0 c0 l0 a1 a2 a3 w hr hc hg h1 h2 h3 => by
    have hi : Q.inI a3 = true := by
      have h' : (decide (-9223372036854775808 ≤ a3) && decide (a3 ≤ 9223372036854775807)) = true := h3
      unfold Q.inI; simpa using h'
    obtain ⟨k, hk⟩ := (Q.opens_ev l0 hg a1 a2 a3 hi).get
    exact Q.heronrylaw15_OplistOpens.calls k A0 c0 l0 a1 a2 a3 true w ⟨rfl⟩ hr hc hk
end Go.Proofs.Ytjpoepiidmoegaa
