/- OplistIs: at every input the law returns true and its arguments read as before. No condition. -/
import Derived.Test.YtjpoepiidmoegaaYX
import Derived.Test.YtjpoepiidmoegaaQF
import Derived.Test.YtjpoepiidmoegaaQ26
namespace Go.Proofs.Ytjpoepiidmoegaa.Q
open Go.RowKit Go.Proofs.YtjpoepiidmoegaaW Go.Proofs.YtjpoepiidmoegaaW.PrintWords Go.Proofs.YtjpoepiidmoegaaW.PrintLast Go.Proofs.YtjpoepiidmoegaaW.PrintMore
set_option linter.unusedVariables false
set_option linter.unusedSimpArgs false
theorem inI_wf {x : Int} (h : (Lit.int .i64 x).wf = true) : inI x = true := by
  have h' : (decide (-9223372036854775808 ≤ x) && decide (x ≤ 9223372036854775807)) = true := h
  unfold inI; simpa using h'
theorem inE_g83 {x : S83} (h : g83 x) : inE (ou x) = true := by
  unfold inE
  rw [Bool.and_eq_true, Bool.and_eq_true]
  exact ⟨inI_wf h.1, inI_wf h.2.1, inI_wf h.2.2.1⟩
theorem doL_len (L : List S33) (x : S33) : (doL L x).1.length ≤ L.length + 1 := by
  unfold doL
  by_cases h1 : saneL L = true ∧ soundB x = true
  · rw [if_pos h1]
    by_cases h2 : saneL (L ++ [x]) = true
    · rw [if_pos h2]; simp
    · rw [if_neg h2]; simp
  · rw [if_neg h1]; simp
theorem map_th_ou (l : List S83) : (l.map ou).map th = l := by
  rw [List.map_map]
  have e : (th ∘ ou) = id := rfl
  rw [e, List.map_id]
theorem filter_le6 {α : Type} (p : α → Bool) {l : List α} (h : l.length ≤ 256) : (l.filter p).length ≤ 1000000 := Nat.le_trans (List.length_filter_le _ _) (Nat.le_trans h (by decide))
theorem is_last (l : List S83) (hg : ∀ y ∈ l, g83 y) (hn : l.length ≤ 270) (t : List S107) (ht : t.length ≤ 66) (ck tx c : Int) (txs : List Int) (hx : txs.length ≤ 60) :
    Evals (fun k => heronrylaw15_OplistIs.j1 k tx c txs true false l t ck (l.map ou)) true := by
  have hl : ∀ k, k < l.length → inI (gl l k).f2 = true := fun k hk => by
    have := hg _ (List.getElem_mem hk)
    rw [gl_at hk]; exact inI_wf this.2.2.1
  have hi : ∀ x ∈ l.map ou, inE x = true := fun x hx => by
    obtain ⟨y, hy, rfl⟩ := List.mem_map.1 hx
    exact inE_g83 (hg y hy)
  have hn1 : l.length ≤ 1000 := Nat.le_trans hn (by decide)
  refine Evals.succ ?_
  simp only [heronrylaw15_OplistIs.j1, if_neg (show ¬ (false = true) by decide)]
  refine Evals.bind (saneR_ev l hl hn1) ?_
  cases hs : saneL (l.map ou) with
  | false =>
    simp only [if_neg (show ¬ (false = true) by decide)]
    exact Evals.const _
  | true =>
    simp only [if_true]
    have hf := Fit.of_sane hi hs
    obtain ⟨R, hR, hE⟩ := undone_ev l hl hn1
    rcases hR with ⟨_, h⟩ | ⟨h2, hu⟩
    · exfalso
      obtain ⟨E, e1, _⟩ := hf.is
      rw [h] at e1; cases e1
    obtain ⟨E, e1, e2⟩ := hf.is
    have hEl : (opn (l.map ou)).length ≤ 256 := by rw [opn_of e1]; exact Nat.le_trans (Nat.le_add_left _ _) e2
    refine Evals.bind (net_ev hf c) ?_
    refine Evals.bind (netR_ev l hl hn1 c) ?_
    simp only [if_true]
    have hfu := hf.undo _ (q_tx txs)
    have hul : (undL (l.map ou) (fun x => decide (x.f0 ∈ txs))).length ≤ 1000000 := Nat.le_trans hfu.len (by decide)
    refine Evals.bind (Evals.of fun _ => undo_val hf txs) ?_
    refine Evals.bind (theirs_ev _ hul) ?_
    refine Evals.bind (undoR_ev hu h2 hn1 hE txs (Nat.le_trans hx (by decide))) ?_
    refine Evals.bind (same_ev _ (by rw [List.length_map]; exact hul)) ?_
    simp only [if_true]
    have ho := filter_le6 (fun x : S33 => decide (x.f0 = tx)) hEl
    refine Evals.bind (Evals.of fun _ => open_val hf tx) ?_
    refine Evals.bind (theirs_ev _ ho) ?_
    refine Evals.bind (openR_ev hu h2 hn1 hE tx) ?_
    refine Evals.bind (same_ev _ (by rw [List.length_map]; exact ho)) ?_
    simp only [if_true]
    refine Evals.bind (grove_ev t ck (Nat.le_trans ht (by decide))) ?_
    have hov : oplist_Ops.f (l.map ou) (t.map gr) ck tx = some (((opn (l.map ou)).filter (fun x => decide (tx ∈ chain (t.map gr) x.f0))).map opOf) := by
      unfold oplist_Ops.f
      rw [if_pos ⟨hf.all, Nat.lt_of_le_of_lt hf.len (by decide)⟩]
    refine Evals.bind (Evals.of fun _ => hov) ?_
    refine Evals.bind (opsR_ev hu h2 hn1 hE t (Nat.le_trans ht (by decide)) ck tx) ?_
    refine Evals.bind (sameOps_ev _ (by rw [List.length_map]; exact filter_le6 _ hEl)) ?_
    simp only [if_true]
    refine Evals.bind (theirs_ev _ (by rw [List.length_map]; exact Nat.le_trans hn (by decide))) ?_
    rw [map_th_ou]
    refine Evals.bind (same_ev l (Nat.le_trans hn (by decide))) ?_
    exact Evals.const _
theorem is_first (l : List S83) (hg : ∀ y ∈ l, g83 y) (hn : l.length ≤ 270) (t : List S107) (ht : t.length ≤ 66) (ck tx c b : Int) (h1 : inI tx = true) (h2 : inI c = true) (h3 : inI b = true) (txs : List Int) (hx : txs.length ≤ 60) :
    Evals (fun k => heronrylaw15_OplistIs.j0 k tx c b txs true false l t ck) true := by
  have hl : ∀ k, k < l.length → inI (gl l k).f2 = true := fun k hk => by
    have := hg _ (List.getElem_mem hk)
    rw [gl_at hk]; exact inI_wf this.2.2.1
  have hi : ∀ x ∈ l.map ou, inE x = true := fun x hx => by
    obtain ⟨y, hy, rfl⟩ := List.mem_map.1 hx
    exact inE_g83 (hg y hy)
  have hlm : (l.map ou).length ≤ 270 := by rw [List.length_map]; exact hn
  have hin : inE ⟨tx, c, b, false⟩ = true := by
    unfold inE
    rw [h1, h2, h3]; rfl
  have hdl : (doL (l.map ou) ⟨tx, c, b, false⟩).1.length ≤ 1000000 := Nat.le_trans (doL_len _ _) (Nat.le_trans (Nat.add_le_add_right hlm 1) (by decide))
  refine Evals.succ ?_
  simp only [heronrylaw15_OplistIs.j0, if_neg (show ¬ (false = true) by decide)]
  refine Evals.bind (ours_ev l (Nat.le_trans hn (by decide))) ?_
  refine Evals.bind (do_ev hi (Nat.lt_of_le_of_lt hlm (by decide)) hin) ?_
  refine Evals.bind (doR_ev l hl (Nat.le_trans hn (by decide)) tx c b h3) ?_
  refine Evals.bind (theirs_ev _ hdl) ?_
  refine Evals.bind (same_ev _ (by rw [List.length_map]; exact hdl)) ?_
  simp only [if_true]
  refine Evals.bind (Evals.of fun _ => sane_val hi (Nat.lt_of_le_of_lt hlm (by decide))) ?_
  refine Evals.bind (saneR_ev l hl (Nat.le_trans hn (by decide))) ?_
  simp only [bne_self_eq_false]
  exact is_last l hg hn t ht ck tx c txs hx
theorem is_ev (l : List S83) (hg : ∀ y ∈ l, g83 y) (t : List S107) (ck tx c b : Int) (h1 : inI tx = true) (h2 : inI c = true) (h3 : inI b = true) (txs : List Int) :
    Evals (fun k => heronrylaw15_OplistIs.f k l t ck tx c b txs) true := by
  unfold heronrylaw15_OplistIs.f
  refine Evals.bind awake_ev ?_
  have hout : Evals (fun k => heronrylaw15_OplistIs.j0 k tx c b txs true true l t ck) true := by
    refine Evals.succ ?_
    simp only [heronrylaw15_OplistIs.j0, if_true]
    exact Evals.const _
  by_cases g1 : (l.length : Int) > 270
  · simp only [if_pos g1]; exact hout
  simp only [if_neg g1]
  by_cases g2 : (t.length : Int) > 66
  · simp only [if_pos g2]; exact hout
  simp only [if_neg g2]
  by_cases g3 : (txs.length : Int) > 60
  · rw [decide_eq_true g3]; exact hout
  rw [decide_eq_false g3]
  exact is_first l hg (by omega) t (by omega) ck tx c b h1 h2 h3 txs (by omega)
end Go.Proofs.Ytjpoepiidmoegaa.Q
namespace Go.Proofs.Ytjpoepiidmoegaa
theorem oplistIs_holds : Rows.OplistIsSaid :=
  oplistIs.said fun x0 A0 c0 x1 A1 c1 a2 a3 a4 A5 c5 l5 w hg0 hc0 hr0 hg1 hc1 hr1 h2 h3 h4 hr5 hc5 hg5 => by
    obtain ⟨k, hk⟩ := (Q.is_ev x0.f0 hg0 x1.f0 x1.f1 a2 a3 a4 (Q.inI_wf h2) (Q.inI_wf h3) (Q.inI_wf h4) l5).get
    exact Q.heronrylaw15_OplistIs.calls k A0 c0 x0.f0 A1 c1 x1.f0 x1.f1 a2 a3 a4 A5 c5 l5 true w ⟨rfl⟩ hr0 hc0 hr1 hc1 hr5 hc5 hk
end Go.Proofs.Ytjpoepiidmoegaa
