/- OplistTwice: at every input the law returns true and its arguments read as before. No condition. -/
import Derived.Test.YtjpoepiidmoegaaYR
import Derived.Test.YtjpoepiidmoegaaFOplistTwice
import Derived.Test.YtjpoepiidmoegaaQ9
namespace Go.Proofs.Ytjpoepiidmoegaa.Q
open Go.RowKit Go.Proofs.YtjpoepiidmoegaaW Go.Proofs.YtjpoepiidmoegaaW.PrintWords Go.Proofs.YtjpoepiidmoegaaW.PrintLast Go.Proofs.YtjpoepiidmoegaaW.PrintMore
set_option linter.unusedVariables false
set_option linter.unusedSimpArgs false
theorem two_up (n : Nat) (h : n ≤ 1000) : wrap64 ((n : Int) + 1) = ((n + 1 : Nat) : Int) := by unfold wrap64; omega
theorem two_down (n : Nat) (h : n ≤ 1000) : wrap64 (((n + 1 : Nat) : Int) - 1) = (n : Int) := by unfold wrap64; omega
theorem two_lt (n : Nat) : (n : Int) < ((n + 1 : Nat) : Int) := by omega
theorem two_ge (n : Nat) : (0 : Int) ≤ (n : Int) := by omega
theorem two_append (L : List S33) (e : S33) : (L ++ [e]).length = L.length + 1 := by simp
theorem two_last (L : List S33) (e : S33) : rd_T33 (L ++ [e]) (L.length : Int) = e := by rw [rd_at _ _ (by simp)]; simp
theorem und_twice (E : List S33) (q : S33 → Bool) : (E.filter (fun e => !q e)).filter q = [] := by
  rw [List.filter_filter, List.filter_eq_nil_iff]
  intro y _; simp
theorem und_und {L E : List S33} (h : opE L [] = some E) (q : S33 → Bool) (hq : ∀ a b, q a = true → opp b = opp a → q b = true) : undL (undL L q) q = undL L q := by
  have e := opn_of (opE_undL h q hq)
  show undL L q ++ ((opn (undL L q)).filter q).reverse.map opp = undL L q
  rw [e, und_twice]; simp
theorem twice_ev (l : List S74) (hl : ∀ y ∈ l, g74 y) (txs : List Int) (a2 : Int) : Evals (fun k => heronrylaw15_OplistTwice.f k l txs a2) true := by
  unfold heronrylaw15_OplistTwice.f
  refine Evals.bind awake_ev ?_
  have hout : Evals (fun k => heronrylaw15_OplistTwice.j0 k l txs a2 true true) true := by
    refine Evals.succ ?_
    simp only [heronrylaw15_OplistTwice.j0, if_pos]
    exact Evals.const _
  by_cases h : (l.length : Int) > 150
  · simp only [if_pos h]; exact hout
  simp only [if_neg h]
  by_cases h' : (txs.length : Int) > 20
  · simp only [if_pos h']; exact hout
  simp only [if_neg h']
  by_cases h0 : txs.length = 0
  · have e : ((txs.length : Int) == 0) = true := by simp [h0]
    rw [e]; exact hout
  have e : ((txs.length : Int) == 0) = false := beq_eq_false_iff_ne.2 (by omega)
  rw [e]
  clear hout e
  refine Evals.succ ?_
  simp only [heronrylaw15_OplistTwice.j0, if_neg (show ¬ (false = true) by decide)]
  obtain ⟨o, ho, hE⟩ := grown_ev l hl (by omega)
  refine Evals.bind hE ?_
  refine Evals.bind (Evals.of fun _ => undo_val ho.fit txs) ?_
  have hq := q_tx txs
  have hu := ho.fit.undo _ hq
  refine Evals.bind (Evals.of fun _ => undo_val hu txs) ?_
  obtain ⟨E, e1, e2⟩ := ho.fit.is
  rw [und_und e1 _ hq]
  obtain ⟨u, hu_⟩ : ∃ u, undL o (fun x => decide (x.f0 ∈ txs)) = u := ⟨_, rfl⟩
  rw [hu_] at hu ⊢
  have hpos : (0 : Int) < (txs.length : Int) := by omega
  clear hE e1 e2 E hu_ ho o
  simp only [if_pos hpos, if_true, and_7, and_255]
  obtain ⟨t, ht⟩ : ∃ t, rd txs 0 % 8 = t := ⟨_, rfl⟩
  obtain ⟨b, hb⟩ : ∃ b, a2 % 256 = b := ⟨_, rfl⟩
  have ht0 : 0 ≤ t ∧ t < 64 := by omega
  have hb0 : inI b = true := by unfold inI; simp; omega
  have hbm : b ≠ -9223372036854775808 := by omega
  simp only [ht, hb]
  have hin : inE ⟨t, 1, b, false⟩ = true := inE_small ht0 (by decide) hb0
  have hd := do_ev hu.inn (Nat.lt_of_le_of_lt hu.len (by decide)) (a := t) (b := 1) (c := b) hin
  clear ht hb hpos h h' h0
  rcases do_ok hu (x := ⟨t, 1, b, false⟩) hin rfl with ⟨h5, h6⟩ | h5 | ⟨h5, h7⟩
  · rw [h5] at hd
    refine Evals.bind hd ?_
    obtain ⟨E, e1, e2⟩ := hu.is
    have eo := opn_of e1
    have ex := opn_of (opE_snoc e1 (x := ⟨t, 1, b, false⟩) rfl)
    have hf : (E ++ [(⟨t, 1, b, false⟩ : S33)]).filter (fun x => decide (x.f0 = t)) = E.filter (fun x => decide (x.f0 = t)) ++ [⟨t, 1, b, false⟩] := by
      rw [List.filter_append]; simp
    have hEl : (E.filter (fun x => decide (x.f0 = t))).length ≤ 1000 := Nat.le_trans (List.length_filter_le _ _) (Nat.le_trans (Nat.le_trans (Nat.le_add_left _ _) e2) (by decide))
    have o1 := open_val h6 t
    have o2 := open_val hu t
    rw [ex, hf] at o1
    rw [eo] at o2
    refine Evals.bind (Evals.of fun _ => o2) ?_
    refine Evals.bind (Evals.of fun _ => o1) ?_
    generalize E.filter (fun x => decide (x.f0 = t)) = M at *
    clear o1 o2 hf ex eo e2 e1 hd h6
    simp only [two_append, two_up M.length hEl, two_down M.length hEl, two_last, if_neg (show ¬ ((0 : Int) = 13) by decide), if_true, if_pos (two_lt M.length), if_pos (two_ge M.length), beq_self_eq_true]
    exact Evals.const _
  · rw [h5] at hd
    refine Evals.bind hd ?_
    refine Evals.bind (Evals.of fun _ => open_val hu t) ?_
    refine Evals.bind (Evals.of fun _ => open_val Fit.nil t) ?_
    simp only [if_true]
    exact Evals.const _
  · exfalso
    unfold soundB at h7
    simp only [Bool.and_eq_false_iff, decide_eq_false_iff_not, bne_eq_false_iff_eq] at h7
    omega
end Go.Proofs.Ytjpoepiidmoegaa.Q
namespace Go.Proofs.Ytjpoepiidmoegaa
theorem oplistTwice_holds : Rows.OplistTwiceSaid :=
  oplistTwice.said fun A0 c0 l0 A1 c1 l1 a2 w hr0 hc0 hg0 hr1 hc1 hg1 h2 => by
    obtain ⟨k, hk⟩ := (Q.twice_ev l0 hg0 l1 a2).get
    exact Q.heronrylaw15_OplistTwice.calls k A0 c0 l0 A1 c1 l1 a2 true w ⟨rfl⟩ hr0 hc0 hr1 hc1 hk
end Go.Proofs.Ytjpoepiidmoegaa
