import Derived.Test.YtjbdlgjhnldfbaaY5
import Derived.Test.YtjbdlgjhnldfbaaFSchedIs
import Derived.Test.YtjbdlgjhnldfbaaQ26
namespace Go.Proofs.Ytjbdlgjhnldfbaa.Q
open Go.RowKit Go.Proofs.YtjbdlgjhnldfbaaW Go.Proofs.YtjbdlgjhnldfbaaW.PrintWords Go.Proofs.YtjbdlgjhnldfbaaW.PrintLast Go.Proofs.YtjbdlgjhnldfbaaW.PrintMore
open FL
set_option linter.unusedVariables false
set_option linter.unusedSimpArgs false
theorem addQ_len (l : List S44) (e s r : Int) : (addQ l e s r).1.length ≤ l.length + 1 := by
  unfold addQ; split
  · split
    · simp
    · simp
  · simp
theorem dropQ_len (l : List S44) (e s : Int) : (dropQ l e s).1.length ≤ l.length := by
  unfold dropQ; split
  · split
    · simp
    · exact List.length_eraseIdx_le _ _
  · simp
theorem pickQ_len (l : List S44) (e : Int) (r : List Int) : (pickQ l e r).1.length ≤ l.length := by
  unfold pickQ; split
  · split
    · simp
    · refine Nat.le_trans (List.length_eraseIdx_le _ _) ?_
      rw [bump_len]; exact Nat.le_refl _
  · simp
theorem is_ev (q : List S43) (e s r : Int) (ready : List Int) (hU : ∀ x ∈ q, inU x.f1 = true) (hr : inU r = true) : Evals (fun k => heronrylaw21_SchedIs.f k q e s r ready) true := by
  unfold heronrylaw21_SchedIs.f
  refine Evals.bind awake_ev ?_
  have skip : Evals (fun k => heronrylaw21_SchedIs.j0 k s r ready true true q e) true := Evals.succ (Evals.of (fun k => by rw [heronrylaw21_SchedIs.j0, if_pos rfl]))
  by_cases h1 : (q.length : Int) > 70
  · simp only [if_pos h1]; exact skip
  simp only [if_neg h1]
  by_cases h2 : (ready.length : Int) > 60
  · rw [decide_eq_true h2]; exact skip
  rw [decide_eq_false h2]
  have hq : q.length < 1000000 := by omega
  have hrd : ready.length < 1000000 := by omega
  have hoU : ∀ x ∈ q.map toS, inU x.f1 = true := by
    intro x hx
    obtain ⟨y, hy, rfl⟩ := List.mem_map.1 hx
    exact hU y hy
  have hol : (q.map toS).length = q.length := List.length_map _
  have a1 := add_ev (q.map toS) e s r hoU hr (by omega)
  have a2 := radd_ev q e s r hU hr hq
  have d1 := drop_ev (q.map toS) e s hoU (by omega)
  have d2 := rdrop_ev q e s hU hq
  have p1 := pick_ev (q.map toS) e ready hoU (by omega) hrd
  have p2 := rpick_ev q e ready hU hq hrd
  have al := addQ_len (q.map toS) e s r
  have dl := dropQ_len (q.map toS) e s
  have pl := pickQ_len (q.map toS) e ready
  generalize addQ (q.map toS) e s r = A at a1 a2 al
  generalize dropQ (q.map toS) e s = D at d1 d2 dl
  generalize pickQ (q.map toS) e ready = P at p1 p2 pl
  obtain ⟨A1, A2, A3⟩ := A
  obtain ⟨D1, D2, D3⟩ := D
  obtain ⟨P1, P2, P3, P4⟩ := P
  have s1 := sane_ev (q.map toS) e hoU (by omega)
  have s2 := rsane_ev q e hU hq
  refine Evals.succ (Evals.congr (fun k => by rw [heronrylaw21_SchedIs.j0, if_neg (by decide)]) ?_)
  refine Evals.bind (ours_ev q e hq) (Evals.bind a1 (Evals.bind a2 (Evals.bind d1 (Evals.bind d2 (Evals.bind p1 (Evals.bind p2 ?_))))))
  simp only [if_pos]
  refine Evals.bind s1 (Evals.bind s2 ?_)
  simp only [beq_self_eq_true, if_pos]
  refine Evals.bind (theirs_ev A1 A2 (by dsimp only at al; omega)) (Evals.bind (same_ev (A1.map toR) A2 (by dsimp only at al; rw [List.length_map]; omega)) ?_)
  simp only [if_pos]
  refine Evals.bind (theirs_ev D1 D2 (by dsimp only at dl; omega)) (Evals.bind (same_ev (D1.map toR) D2 (by dsimp only at dl; rw [List.length_map]; omega)) ?_)
  simp only [if_pos]
  refine Evals.bind (theirs_ev P1 P2 (by dsimp only at pl; omega)) (Evals.bind (same_ev (P1.map toR) P2 (by dsimp only at pl; rw [List.length_map]; omega)) ?_)
  simp only [if_pos]
  have b1 : Evals (fun k => sched_Bound.f k (q.map toS) e) (if saneQ (q.map toS) e = true then wrap64 (e + 16) else 0) := by
    unfold sched_Bound.f
    refine Evals.bind s1 ?_
    cases saneQ (q.map toS) e <;> exact Evals.const _
  have b2 : Evals (fun k => heronryref21_Bound.f k q e) (if saneQ (q.map toS) e = true then wrap64 (e + 16) else 0) := by
    unfold heronryref21_Bound.f
    refine Evals.bind s2 ?_
    cases saneQ (q.map toS) e <;> exact Evals.const _
  refine Evals.bind b1 (Evals.bind b2 ?_)
  simp only [if_pos]
  have t1 := theirs_ev (q.map toS) e (by omega)
  rw [toR_toS] at t1
  refine Evals.bind t1 (Evals.bind (same_ev q e hq) ?_)
  exact Evals.const _
end Go.Proofs.Ytjbdlgjhnldfbaa.Q
namespace Go.Proofs.Ytjbdlgjhnldfbaa
theorem schedIs_holds : Rows.SchedIsSaid :=
  schedIs.said fun x A c a1 a2 A3 c3 l w hg hc hr h1 h2 hr3 hc3 _ => by
    obtain ⟨k, hk⟩ := (Q.is_ev x.f0 x.f1 a1 a2 l (fun y hy => Q.inU_of_wf ((hg.1 y hy).2.1)) (Q.inU_of_wf h2)).get
    exact Q.heronrylaw21_SchedIs.calls k A c x.f0 x.f1 a1 a2 A3 c3 l true w ⟨rfl⟩ hr hc hr3 hc3 hk
end Go.Proofs.Ytjbdlgjhnldfbaa
