/- OplistUndoes: at every input the law returns true and its arguments read as before. No condition. -/
import Derived.Test.YtjpoepiidmoegaaYT
import Derived.Test.YtjpoepiidmoegaaFOplistUndoes
import Derived.Test.YtjpoepiidmoegaaQ11
namespace Go.Proofs.Ytjpoepiidmoegaa.Q
open Go.RowKit Go.Proofs.YtjpoepiidmoegaaW Go.Proofs.YtjpoepiidmoegaaW.PrintWords Go.Proofs.YtjpoepiidmoegaaW.PrintLast Go.Proofs.YtjpoepiidmoegaaW.PrintMore
set_option linter.unusedVariables false
set_option linter.unusedSimpArgs false
theorem undoes_l3 (u M : List S33) (hM : M.length ≤ 1000) (c t : Int) (r : Bool) (d : Nat) : ∀ (i : Nat) (acc : List Int), i + d = M.length → acc.length + d ≤ 100000 →
    Evals (fun k => heronrylaw15_OplistUndoes.l2 k true c (acc ++ addC c (M.drop i)) (wrap64 (t + 1)) u) r → Evals (fun k => heronrylaw15_OplistUndoes.l3 k true c acc t M (i : Int) u) r := by
  induction d with
  | zero =>
    intro i acc hi ha h
    refine Evals.succ ?_
    have h0 : ¬ (i : Int) < (M.length : Int) := by omega
    have ht : M.drop i = [] := List.drop_eq_nil_of_le (by omega)
    have e : addC c [] = [] := rfl
    rw [ht, e, List.append_nil] at h
    simp only [heronrylaw15_OplistUndoes.l3, if_neg h0]
    exact h
  | succ d ih =>
    intro i acc hi ha h
    have h0 : (i : Int) < (M.length : Int) := by omega
    have h1 : (0 : Int) ≤ (i : Int) := by omega
    have hl : acc.length < 17592186044416 := by omega
    have hw := num_succ i M.length (by omega) (by omega)
    have hd : M.drop i = [M[i]] ++ M.drop (i + 1) := List.drop_eq_getElem_cons (by omega)
    rw [hd, addC_app] at h
    refine Evals.succ ?_
    simp only [heronrylaw15_OplistUndoes.l3, if_pos h0, if_pos h1, if_pos hl, rd_at M i (by omega), hw]
    generalize M[i] = x at *
    by_cases hc : x.f1 = c
    · rw [addC_one_yes hc, ← List.append_assoc] at h
      simp only [if_pos hc]
      exact ih (i + 1) _ (by omega) (by rw [List.length_append, List.length_singleton]; omega) h
    · rw [addC_one_no hc, List.nil_append] at h
      simp only [if_neg hc]
      exact ih (i + 1) _ (by omega) (by omega) h
theorem undoes_l2 (u E : List S33) (hu : Fit u) (he : opn u = E) (hE : E.length ≤ 256) (c : Int) (r : Bool) (hlow : ∀ x ∈ E, x.f0 < 8)
    (hnext : Evals (fun k => heronrylaw15_OplistUndoes.l1 k true (wrap64 (c + 1)) u) r) (d : Nat) : ∀ (t : Nat) (acc : List Int), t + d = 8 → acc.length ≤ 256 * t → acc.all inR = true → sumBy id acc = sumC c (lowTx t E) →
    Evals (fun k => heronrylaw15_OplistUndoes.l2 k true c acc (t : Int) u) r := by
  induction d with
  | zero =>
    intro t acc hi ha hr hs
    obtain rfl : t = 8 := by omega
    refine Evals.succ ?_
    have h0 : ¬ ((8 : Nat) : Int) < 8 := by decide
    have hsum := sum_val hr (by omega)
    have hnet := net_ev hu c
    have e8 : lowTx ((8 : Nat) : Int) E = E := lowTx_all _ (fun x hx => hlow x hx)
    rw [hu.sum c, he] at hnet
    rw [hs, e8] at hsum
    simp only [heronrylaw15_OplistUndoes.l2, if_neg h0]
    refine Evals.bind hnet ?_
    refine Evals.bind (Evals.of fun _ => hsum) ?_
    simp only [if_true]
    exact hnext
  | succ d ih =>
    intro t acc hi ha hr hs
    have h0 : (t : Int) < 8 := by omega
    have hw := num_succ t 8 (by omega) (by omega)
    have ho := open_val hu (t : Int)
    rw [he] at ho
    have hM : (E.filter (fun x => decide (x.f0 = (t : Int)))).length ≤ 256 := Nat.le_trans (List.length_filter_le _ _) hE
    refine Evals.succ ?_
    simp only [heronrylaw15_OplistUndoes.l2, if_pos h0]
    refine Evals.bind (Evals.of fun _ => ho) ?_
    have hin : ∀ x ∈ E.filter (fun x => decide (x.f0 = (t : Int))), inE x = true := fun x hx => by
      have := (List.mem_filter.1 hx).1
      rw [← he] at this
      exact opn_mem hu.inn x this
    have hlow1 := sumC_low c (t : Int) E
    have hcast : ((t : Int) + 1) = ((t + 1 : Nat) : Int) := by omega
    rw [hcast] at hlow1
    refine undoes_l3 u _ (by omega) c (t : Int) r _ 0 acc (Nat.zero_add _) (by omega) ?_
    rw [hw, List.drop_zero]
    refine ih (t + 1) _ (by omega) ?_ ?_ ?_
    · rw [List.length_append]
      have := addC_len (E.filter (fun x => decide (x.f0 = (t : Int)))) c
      omega
    · rw [List.all_append, hr, addC_inR hin c]; rfl
    · rw [sumBy_app, hs, hlow1]; rfl
theorem undoes_l1 (u E : List S33) (hu : Fit u) (he : opn u = E) (hE : E.length ≤ 256) (hlow : ∀ x ∈ E, 0 ≤ x.f0 ∧ x.f0 < 8) (d : Nat) : ∀ c : Nat, c + d = 4 → Evals (fun k => heronrylaw15_OplistUndoes.l1 k true (c : Int) u) true := by
  induction d with
  | zero =>
    intro c hi
    have h0 : ¬ (c : Int) < 4 := by omega
    refine Evals.succ ?_
    simp only [heronrylaw15_OplistUndoes.l1, if_neg h0]
    exact Evals.const _
  | succ d ih =>
    intro c hi
    have h0 : (c : Int) < 4 := by omega
    have hw := num_succ c 4 (by omega) (by omega)
    have hn := ih (c + 1) (by omega)
    rw [← hw] at hn
    refine Evals.succ ?_
    simp only [heronrylaw15_OplistUndoes.l1, if_pos h0]
    refine undoes_l2 u E hu he hE (c : Int) true (fun x hx => (hlow x hx).2) hn 8 0 [] (by omega) (by simp) rfl ?_
    have : lowTx ((0 : Nat) : Int) E = [] := lowTx_none (fun x hx => (hlow x hx).1)
    rw [this]; rfl
theorem undoes_l0 (u E : List S33) (txs : List Int) (hn : txs.length ≤ 1000) (hu : Fit u) (he : opn u = E) (hout : ∀ t ∈ txs, E.filter (fun x => decide (x.f0 = t)) = [])
    (hnext : Evals (fun k => heronrylaw15_OplistUndoes.l1 k true 0 u) true) (d : Nat) : ∀ i : Nat, i + d = txs.length → Evals (fun k => heronrylaw15_OplistUndoes.l0 k txs true (i : Int) u) true := by
  induction d with
  | zero =>
    intro i hi
    have h0 : ¬ (i : Int) < (txs.length : Int) := by omega
    refine Evals.succ ?_
    simp only [heronrylaw15_OplistUndoes.l0, if_neg h0]
    exact hnext
  | succ d ih =>
    intro i hi
    have h0 : (i : Int) < (txs.length : Int) := by omega
    have h1 : (0 : Int) ≤ (i : Int) := by omega
    have hw := num_succ i txs.length (by omega) (by omega)
    have hx : rd txs (i : Int) = txs[i] := by simp [rd, List.getD_eq_getElem?_getD, List.getElem?_eq_getElem (show i < txs.length by omega)]
    have ho := open_val hu txs[i]
    rw [he, hout _ (List.getElem_mem _)] at ho
    refine Evals.succ ?_
    simp only [heronrylaw15_OplistUndoes.l0, if_pos h0, if_pos h1, hx]
    refine Evals.bind (Evals.of fun _ => ho) ?_
    rw [hw]
    simp only [List.length_nil, if_pos (show ((0 : Nat) : Int) = 0 from rfl)]
    exact ih (i + 1) (by omega)
theorem undL_ge (L : List S33) (q : S33 → Bool) : ¬ ((undL L q).length : Int) < (L.length : Int) := by unfold undL; rw [List.length_append]; omega
theorem undoes_ev (l : List S74) (hl : ∀ y ∈ l, g74 y) (txs : List Int) : Evals (fun k => heronrylaw15_OplistUndoes.f k l txs) true := by
  unfold heronrylaw15_OplistUndoes.f
  refine Evals.bind awake_ev ?_
  have hout : Evals (fun k => heronrylaw15_OplistUndoes.j0 k l txs true true) true := by
    refine Evals.succ ?_
    simp only [heronrylaw15_OplistUndoes.j0, if_pos]
    exact Evals.const _
  by_cases h : (l.length : Int) > 200
  · simp only [if_pos h]; exact hout
  simp only [if_neg h]
  by_cases h' : (txs.length : Int) > 20
  · rw [decide_eq_true h']; exact hout
  rw [decide_eq_false h']
  clear hout
  refine Evals.succ ?_
  simp only [heronrylaw15_OplistUndoes.j0, if_neg (show ¬ (false = true) by decide)]
  obtain ⟨o, ho, hE⟩ := grown_ev l hl (by omega)
  refine Evals.bind hE ?_
  refine Evals.bind (Evals.of fun _ => undo_val ho.fit txs) ?_
  have hq := q_tx txs
  have hu := ho.undo _ hq
  obtain ⟨E, e1, e2⟩ := ho.fit.is
  have eu := opn_of (opE_undL e1 _ hq)
  have s1 := sane_val ho.fit.inn (Nat.lt_of_le_of_lt ho.fit.len (by decide))
  have s2 := sane_val hu.fit.inn (Nat.lt_of_le_of_lt hu.fit.len (by decide))
  rw [ho.fit.sane] at s1
  rw [hu.fit.sane] at s2
  have g1 := undL_ge o (fun x => decide (x.f0 ∈ txs))
  refine Evals.bind (Evals.of fun _ => s1) ?_
  simp only [if_true]
  refine Evals.bind (Evals.of fun _ => s2) ?_
  simp only [if_true, if_neg g1]
  have hlen : ¬ (((undL o (fun x => decide (x.f0 ∈ txs))).length : Int) > 256) := by have := hu.fit.len; omega
  rw [decide_eq_false hlen]
  refine Evals.succ ?_
  simp only [heronrylaw15_OplistUndoes.j1, if_neg (show ¬ (false = true) by decide)]
  have hfew := opn_mem hu.few
  rw [eu] at hfew
  have hEl : (E.filter (fun e => !decide (e.f0 ∈ txs))).length ≤ 256 := Nat.le_trans (List.length_filter_le _ _) (Nat.le_trans (Nat.le_add_left _ _) e2)
  refine undoes_l0 _ _ txs (by omega) hu.fit eu (fun t ht => ?_) ?_ txs.length 0 (by omega)
  · rw [List.filter_filter, List.filter_eq_nil_iff]
    intro y _
    by_cases hy : y.f0 = t
    · simp [hy, ht]
    · simp [hy]
  · exact undoes_l1 _ _ hu.fit eu hEl (fun x hx => ⟨(hfew x hx).1, (hfew x hx).2.1⟩) 4 0 (by omega)
end Go.Proofs.Ytjpoepiidmoegaa.Q
namespace Go.Proofs.Ytjpoepiidmoegaa
theorem oplistUndoes_holds : Rows.OplistUndoesSaid :=
  oplistUndoes.said fun A0 c0 l0 A1 c1 l1 w hr0 hc0 hg0 hr1 hc1 hg1 => by
    obtain ⟨k, hk⟩ := (Q.undoes_ev l0 hg0 l1).get
    exact Q.heronrylaw15_OplistUndoes.calls k A0 c0 l0 A1 c1 l1 true w ⟨rfl⟩ hr0 hc0 hr1 hc1 hk
end Go.Proofs.Ytjpoepiidmoegaa
