/- What grown answers: a tree that is sound. And the document's example. No condition. -/
import Derived.Test.YtnlnglfjehohpaaTG
import Derived.Test.YtnlnglfjehohpaaQ6
import Derived.Test.YtnlnglfjehohpaaQ7
namespace Go.Proofs.Ytnlnglfjehohpaa.Q
open Go.RowKit Go.Proofs.YtnlnglfjehohpaaW Go.Proofs.YtnlnglfjehohpaaW.PrintWords
set_option linter.unusedVariables false
set_option linter.unusedSimpArgs false

theorem LeO.up {α : Type} {g : Nat → Option α} (h : ∀ k, LeO (g k) (g (k + 1))) {K : Nat} {r : α} (hr : g K = some r) : ∀ n, g (K + n) = some r
  | 0 => hr
  | n + 1 => h _ _ (LeO.up h hr n)
theorem Evals.mono {α : Type} {g : Nat → Option α} (h : ∀ k, LeO (g k) (g (k + 1))) {K : Nat} {r : α} (hr : g K = some r) : Evals g r :=
  ⟨K, fun k hk => by have := LeO.up h hr (k - K); rwa [show K + (k - K) = k by omega] at this⟩
set_option maxRecDepth 100000 in
theorem awake30 : heronrylaw09_awake.f 30 = some true := by kernel_rfl
theorem awake_ev : Evals heronrylaw09_awake.f true := Evals.mono heronrylaw09_awake.mono awake30

theorem begin_ok {l : List S35} {c id : Int} (h : Tr l c) (e : (beginT l c id).2.2.2 = 0) : (id = -1 ∨ (isB l id = true ∧ (rd_T35 l id).f1 = 1 ∧ (chain l id).length < 8)) ∧ l.length < 64 ∧ beginT l c id = (l ++ [⟨id, 1, c + 1, 0⟩], c + 1, (l.length : Int), 0) := by
  unfold beginT at e ⊢
  by_cases h1 : id ≠ -1 ∧ isB l id = false
  · rw [if_pos h1] at e; exact absurd e (by decide)
  rw [if_neg h1] at e ⊢
  by_cases h2 : id ≠ -1 ∧ (rd_T35 l id).f1 ≠ 1
  · rw [if_pos h2] at e; exact absurd e (by decide)
  rw [if_neg h2] at e ⊢
  by_cases h3 : l.length ≥ 64
  · rw [if_pos h3] at e; exact absurd e (by decide)
  rw [if_neg h3] at e ⊢
  by_cases h4 : id ≠ -1 ∧ (chain l id).length ≥ 8
  · rw [if_pos h4] at e; exact absurd e (by decide)
  rw [if_neg h4]
  refine ⟨?_, by omega, rfl⟩
  by_cases e0 : id = -1
  · exact .inl e0
  · refine .inr ⟨?_, ?_, ?_⟩
    · cases hb : isB l id with
      | true => rfl
      | false => exact absurd ⟨e0, hb⟩ h1
    · by_cases h5 : (rd_T35 l id).f1 = 1
      · exact h5
      · exact absurd ⟨e0, h5⟩ h2
    · by_cases h5 : (chain l id).length < 8
      · exact h5
      · exact absurd ⟨e0, by omega⟩ h4
theorem Tr.beginT {l : List S35} {c id : Int} (h : Tr l c) (e : (beginT l c id).2.2.2 = 0) : Tr (Q.beginT l c id).1 (c + 1) ∧ (Q.beginT l c id).2.1 = c + 1 := by
  obtain ⟨h1, h2, h3⟩ := begin_ok h e
  rw [h3]; exact ⟨h.begin h1 h2, rfl⟩
theorem commit_ok {l : List S35} {c id : Int} (e : (commitT l c id).2.2 = 0) : isB l id = true ∧ insideL isLive l id l.length = [id] ∧ commitT l c id = (endL l [id] 2 (c + 1), c + 1, 0) := by
  unfold commitT at e ⊢
  by_cases h1 : isB l id = false
  · rw [if_pos h1] at e; exact absurd e (by decide)
  rw [if_neg h1] at e ⊢
  by_cases h2 : insideL isLive l id l.length ≠ [id]
  · rw [if_pos h2] at e; exact absurd e (by decide)
  rw [if_neg h2]
  exact ⟨by simpa using h1, Classical.not_not.1 h2, rfl⟩
theorem Tr.commitT {l : List S35} {c id : Int} (h : Tr l c) (e : (commitT l c id).2.2 = 0) : Tr (Q.commitT l c id).1 (c + 1) ∧ (Q.commitT l c id).2.1 = c + 1 := by
  obtain ⟨h1, h2, h3⟩ := commit_ok e
  rw [h3]; exact ⟨h.commit h2, rfl⟩
theorem abort_ok {l : List S35} {c id : Int} (e : (abortT l c id).2.2.2 = 0) : isB l id = true ∧ (rd_T35 l id).f1 = 1 ∧ abortT l c id = (endL l (insideL notUndone l id l.length) 3 (c + 1), c + 1, insideL notUndone l id l.length, 0) := by
  unfold abortT at e ⊢
  by_cases h1 : isB l id = false
  · rw [if_pos h1] at e; exact absurd e (by decide)
  rw [if_neg h1] at e ⊢
  by_cases h2 : (rd_T35 l id).f1 ≠ 1
  · rw [if_pos h2] at e; exact absurd e (by decide)
  rw [if_neg h2]
  exact ⟨by simpa using h1, Classical.not_not.1 h2, rfl⟩
theorem Tr.abortT {l : List S35} {c id : Int} (h : Tr l c) (e : (abortT l c id).2.2.2 = 0) : Tr (Q.abortT l c id).1 (c + 1) ∧ (Q.abortT l c id).2.1 = c + 1 := by
  obtain ⟨h1, h2, h3⟩ := abort_ok e
  rw [h3]; exact ⟨h.abort id, rfl⟩

/-- One thing that is done; then the rest. -/
theorem grown_j2 {acts : List S47} (hn : acts.length ≤ 200) {i : Nat} (hi : i < acts.length)
    (ih : ∀ (l : List S35) (c : Int), Tr l c → c ≤ (i : Int) + 1 → ∃ l' c', Evals (fun k => heronrylaw09_grown.l0 k acts ((i + 1 : Nat) : Int) l c) (l', c') ∧ Tr l' c' ∧ c' ≤ acts.length)
    (l : List S35) (c : Int) (h : Tr l c) (hc : c ≤ i) (id : Int) (b : Bool) :
    ∃ l' c', Evals (fun k => heronrylaw09_grown.j2 k acts (i : Int) id ((rd_T47 acts (i : Int)).f0) b l c) (l', c') ∧ Tr l' c' ∧ c' ≤ acts.length := by
  have hw : wrap64 ((i : Int) + 1) = ((i + 1 : Nat) : Int) := by rw [w64 (by omega) (by omega)]; omega
  have hc0 := h.clk
  obtain ⟨l1, c1, e1, t1, q1⟩ := ih l c h (by omega)
  by_cases hb : b = true
  · have ev := begin_ev h.up h.len hc0 (by omega) id
    by_cases e : (beginT l c id).2.2.2 = 0
    · obtain ⟨g1, g2⟩ := h.beginT e
      obtain ⟨l2, c2, e2, t2, q2⟩ := ih _ _ g1 (by omega)
      refine ⟨l2, c2, Evals.succ (Evals.congr (h := fun k => (tree_Begin.f k l c id).bind fun bt => (if bt.2.2.2 = 0 then heronrylaw09_grown.l0 k acts (wrap64 ((i : Int) + 1)) bt.1 bt.2.1 else heronrylaw09_grown.l0 k acts (wrap64 ((i : Int) + 1)) l c)) (fun k => by rw [heronrylaw09_grown.j2, if_pos hb]) (Evals.bind ev ?_)), t2, q2⟩
      refine Evals.congr (fun k => ?_) e2
      rw [if_pos e, hw, g2]
    · refine ⟨l1, c1, Evals.succ (Evals.congr (h := fun k => (tree_Begin.f k l c id).bind fun bt => (if bt.2.2.2 = 0 then heronrylaw09_grown.l0 k acts (wrap64 ((i : Int) + 1)) bt.1 bt.2.1 else heronrylaw09_grown.l0 k acts (wrap64 ((i : Int) + 1)) l c)) (fun k => by rw [heronrylaw09_grown.j2, if_pos hb]) (Evals.bind ev ?_)), t1, q1⟩
      refine Evals.congr (fun k => ?_) e1
      rw [if_neg e, hw]
  by_cases h2 : (rd_T47 acts (i : Int)).f0 = 2
  · have ev := commit_ev h.len hc0 (by omega) id
    by_cases e : (commitT l c id).2.2 = 0
    · obtain ⟨g1, g2⟩ := h.commitT e
      obtain ⟨l2, c2, e2, t2, q2⟩ := ih _ _ g1 (by omega)
      refine ⟨l2, c2, Evals.succ (Evals.congr (h := fun k => (tree_Commit.f k l c id).bind fun bt => (if bt.2.2 = 0 then heronrylaw09_grown.l0 k acts (wrap64 ((i : Int) + 1)) bt.1 bt.2.1 else heronrylaw09_grown.l0 k acts (wrap64 ((i : Int) + 1)) l c)) (fun k => by rw [heronrylaw09_grown.j2, if_neg hb, if_pos h2]) (Evals.bind ev ?_)), t2, q2⟩
      refine Evals.congr (fun k => ?_) e2
      rw [if_pos e, hw, g2]
    · refine ⟨l1, c1, Evals.succ (Evals.congr (h := fun k => (tree_Commit.f k l c id).bind fun bt => (if bt.2.2 = 0 then heronrylaw09_grown.l0 k acts (wrap64 ((i : Int) + 1)) bt.1 bt.2.1 else heronrylaw09_grown.l0 k acts (wrap64 ((i : Int) + 1)) l c)) (fun k => by rw [heronrylaw09_grown.j2, if_neg hb, if_pos h2]) (Evals.bind ev ?_)), t1, q1⟩
      refine Evals.congr (fun k => ?_) e1
      rw [if_neg e, hw]
  by_cases h3 : (rd_T47 acts (i : Int)).f0 = 3
  · have ev := abort_val h.len hc0 (show c < 1000000 by omega) id
    by_cases e : (abortT l c id).2.2.2 = 0
    · obtain ⟨g1, g2⟩ := h.abortT e
      obtain ⟨l2, c2, e2, t2, q2⟩ := ih _ _ g1 (by omega)
      refine ⟨l2, c2, Evals.succ (Evals.congr (fun k => ?_) e2), t2, q2⟩
      rw [heronrylaw09_grown.j2, if_neg hb, if_neg h2, if_pos h3, ev, Option.bind_some, if_pos e, hw, g2]
    · refine ⟨l1, c1, Evals.succ (Evals.congr (fun k => ?_) e1), t1, q1⟩
      rw [heronrylaw09_grown.j2, if_neg hb, if_neg h2, if_pos h3, ev, Option.bind_some, if_neg e, hw]
  refine ⟨l1, c1, Evals.succ (Evals.congr (fun k => ?_) e1), t1, q1⟩
  rw [heronrylaw09_grown.j2, if_neg hb, if_neg h2, if_neg h3, hw]
theorem grown_j1 {acts : List S47} (hn : acts.length ≤ 200) {i : Nat} (hi : i < acts.length)
    (ih : ∀ (l : List S35) (c : Int), Tr l c → c ≤ (i : Int) + 1 → ∃ l' c', Evals (fun k => heronrylaw09_grown.l0 k acts ((i + 1 : Nat) : Int) l c) (l', c') ∧ Tr l' c' ∧ c' ≤ acts.length)
    (l : List S35) (c : Int) (h : Tr l c) (hc : c ≤ i) (id : Int) :
    ∃ l' c', Evals (fun k => heronrylaw09_grown.j1 k acts (i : Int) id l c) (l', c') ∧ Tr l' c' ∧ c' ≤ acts.length := by
  by_cases h0 : (rd_T47 acts (i : Int)).f0 = 0
  · obtain ⟨l1, c1, e1, t1⟩ := grown_j2 hn hi ih l c h hc id ((rd_T47 acts (i : Int)).f0 == 0)
    refine ⟨l1, c1, Evals.succ (Evals.congr (fun k => ?_) e1), t1⟩
    rw [heronrylaw09_grown.j1, if_pos (by omega), if_pos (by omega), if_pos h0]
  · obtain ⟨l1, c1, e1, t1⟩ := grown_j2 hn hi ih l c h hc id ((rd_T47 acts (i : Int)).f0 == 1)
    refine ⟨l1, c1, Evals.succ (Evals.congr (fun k => ?_) e1), t1⟩
    rw [heronrylaw09_grown.j1, if_pos (by omega), if_pos (by omega), if_neg h0]
theorem grown_go {acts : List S47} (hn : acts.length ≤ 200) : ∀ (n i : Nat), i + n = acts.length → ∀ (l : List S35) (c : Int), Tr l c → c ≤ (i : Int) → ∃ l' c', Evals (fun k => heronrylaw09_grown.l0 k acts (i : Int) l c) (l', c') ∧ Tr l' c' ∧ c' ≤ acts.length
  | 0, i, hi, l, c, h, hc => ⟨l, c, Evals.succ (Evals.of (fun k => by rw [heronrylaw09_grown.l0, if_neg (by omega)])), h, by omega⟩
  | n + 1, i, hi, l, c, h, hc => by
    have ih := fun l c h hc => grown_go hn n (i + 1) (by omega) l c h hc
    have hl := h.len
    by_cases h0 : (l.length : Int) > 0
    · obtain ⟨l1, c1, e1, t1⟩ := grown_j1 hn (show i < acts.length by omega) (fun l c h hc => ih l c h (by omega)) l c h hc (wrap64 ((Int.tmod (Go.bits .and .i64 ((rd_T47 acts (i : Int)).f1) 65535) (wrap64 ((l.length : Int) + 1))) - 1))
      refine ⟨l1, c1, Evals.succ (Evals.congr (fun k => ?_) e1), t1⟩
      rw [heronrylaw09_grown.l0, if_pos (by omega), if_pos h0, if_pos (by omega), if_neg (by rw [w64 (by omega) (by omega)]; omega)]
    · obtain ⟨l1, c1, e1, t1⟩ := grown_j1 hn (show i < acts.length by omega) (fun l c h hc => ih l c h (by omega)) l c h hc (-1)
      refine ⟨l1, c1, Evals.succ (Evals.congr (fun k => ?_) e1), t1⟩
      rw [heronrylaw09_grown.l0, if_pos (by omega), if_neg h0]
/-- What grows is sound. -/
theorem grown_ev {acts : List S47} (hn : acts.length ≤ 200) : ∃ l c, Evals (fun k => heronrylaw09_grown.f k acts) (l, c) ∧ Tr l c ∧ c ≤ acts.length :=
  grown_go hn acts.length 0 (by omega) [] 0 Tr.nil (by omega)
end Go.Proofs.Ytnlnglfjehohpaa.Q
