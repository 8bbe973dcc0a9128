/- TreeEnds: at every input the law returns true and its arguments read as before. No condition. -/
import Derived.Test.YtnlnglfjehohpaaY0
import Derived.Test.YtnlnglfjehohpaaB
import Derived.Test.YtnlnglfjehohpaaFTreeEnds
import Derived.Test.YtnlnglfjehohpaaQE
namespace Go.Proofs.Ytnlnglfjehohpaa.Q
open Go.RowKit Go.Proofs.YtnlnglfjehohpaaW Go.Proofs.YtnlnglfjehohpaaW.PrintWords Go.Proofs.YtnlnglfjehohpaaW.PrintLast Go.Proofs.YtnlnglfjehohpaaW.PrintMore
set_option linter.unusedVariables false
set_option linter.unusedSimpArgs false
theorem end_up (i : Nat) (h : i ≤ 1000) : wrap64 ((i : Int) + 1) = ((i + 1 : Nat) : Int) := by unfold wrap64; omega
theorem end_ck (c : Int) (h0 : 0 ≤ c) (h : c ≤ 1000) : wrap64 (c + 1) = c + 1 := by unfold wrap64; omega
theorem same_tx {x y : S35} (h : x = y) : (!(x.f0 == y.f0) || (!(x.f1 == y.f1) || (!(x.f2 == y.f2) || (!(x.f3 == y.f3))))) = false := by subst h; simp
/-- What an abort and a commit have left. -/
structure Ended (l : List S35) (c id e f : Int) (gone : List Int) (xl : List S35) (xc : Int) (yl : List S35) (yc : Int) : Prop where
  xn : e = 0 → xl.length = l.length
  xk : e = 0 → xc = c + 1
  gn : e = 0 → gone = insideL notUndone l id l.length
  xin : e = 0 → ∀ i, isB l i = true → id ∈ chain l i → (rd_T35 xl i).f1 = 3
  xout : e = 0 → ∀ i, isB l i = true → id ∉ chain l i → rd_T35 xl i = rd_T35 l i
  fe : f = 0 → e = 0
  yn : f = 0 → yl.length = l.length
  yout : f = 0 → ∀ i, isB l i = true → i ≠ id → rd_T35 yl i = rd_T35 l i
  yst : f = 0 → (rd_T35 yl id).f1 = 2
  yck : f = 0 → (rd_T35 yl id).f3 = yc
theorem ends_j2 {l : List S35} {c id e f : Int} {gone : List Int} {xl : List S35} {xc : Int} {yl : List S35} {yc : Int} (hl : l.length ≤ 64) (i : Nat) (hi : i < l.length)
    (h : Evals (fun k => heronrylaw09_TreeEnds.l0 k true id gone e f (((insideL notUndone l id (i + 1)).length : Nat) : Int) ((i + 1 : Nat) : Int) l c xl xc yl yc) true) :
    Evals (fun k => heronrylaw09_TreeEnds.j2 k true id gone e f (((insideL notUndone l id i).length : Nat) : Int) (i : Int) false l c xl xc yl yc) true := by
  have h0 : (i : Int) < (l.length : Int) := by omega
  have h1 : (0 : Int) ≤ (i : Int) := by omega
  have hw := end_up i (by omega)
  have hc := end_up (insideL notUndone l id i).length (Nat.le_trans (insideL_len notUndone l id i) (by omega))
  have hwi : tree_Within.f l c (i : Int) id = some (decide (id ∈ chain l (i : Int))) := rfl
  rw [insideL_snoc] at h
  refine Evals.succ ?_
  simp only [heronrylaw09_TreeEnds.j2, if_neg (show ¬ (false = true) by decide)]
  refine Evals.bind (Evals.of fun _ => hwi) ?_
  by_cases hin : id ∈ chain l (i : Int)
  · have hd := decide_eq_true hin
    rw [hd] at h ⊢
    simp only [if_true, if_pos h0, if_pos h1]
    by_cases h3 : (rd_T35 l (i : Int)).f1 = 3
    · have : notUndone (rd_T35 l (i : Int)) = false := by unfold notUndone; simp [h3]
      rw [this, Bool.false_and, if_neg (by decide), List.append_nil] at h
      simp only [if_pos h3, hw]
      exact h
    · have : notUndone (rd_T35 l (i : Int)) = true := by unfold notUndone; simp [h3]
      rw [this, Bool.true_and, if_pos rfl, List.length_append, List.length_singleton] at h
      simp only [if_neg h3, hw, hc]
      exact h
  · have hd := decide_eq_false hin
    rw [hd, Bool.and_false, if_neg (by decide), List.append_nil] at h
    rw [hd]
    simp only [if_neg (show ¬ (false = true) by decide), hw]
    exact h
theorem ends_l0 {l : List S35} {c id e f : Int} {gone : List Int} {xl : List S35} {xc : Int} {yl : List S35} {yc : Int} (t : Tr l c) (hck : c ≤ 1000) (hb : isB l id = true) (E : Ended l c id e f gone xl xc yl yc) (d : Nat) : ∀ i : Nat, i + d = l.length →
    Evals (fun k => heronrylaw09_TreeEnds.l0 k true id gone e f (((insideL notUndone l id i).length : Nat) : Int) (i : Int) l c xl xc yl yc) true := by
  induction d with
  | zero =>
    intro i hi
    obtain rfl : i = l.length := by omega
    have h0 : ¬ (l.length : Int) < (l.length : Int) := by omega
    obtain ⟨b0, b1⟩ := (isB_iff l id).1 hb
    refine Evals.succ ?_
    simp only [heronrylaw09_TreeEnds.l0, if_neg h0, if_true, end_ck c t.clk hck]
    have hlast : f = 0 → Evals (fun _ : Nat => if 0 ≤ id then (if id < (yl.length : Int) then (if ((rd_T35 yl id).f1) = 2 then (some (((rd_T35 yl id).f3) == yc)) else (none)) else (none)) else (none)) true := fun hf => by
      have g1 : id < (yl.length : Int) := by rw [E.yn hf]; exact b1
      simp only [if_pos b0, if_pos g1, if_pos (E.yst hf), E.yck hf, beq_self_eq_true]
      exact Evals.const _
    by_cases he : e = 0
    · have g2 : (gone.length : Int) = (((insideL notUndone l id l.length).length : Nat) : Int) := by rw [E.gn he]
      simp only [if_pos he, if_pos g2, if_pos (E.xk he)]
      by_cases hf : f = 0
      · simp only [if_pos hf]; exact hlast hf
      · simp only [if_neg hf]; exact Evals.const _
    · simp only [if_neg he]
      by_cases hf : f = 0
      · exact absurd (E.fe hf) he
      · simp only [if_neg hf]; exact Evals.const _
  | succ d ih =>
    intro i hi
    have h0 : (i : Int) < (l.length : Int) := by omega
    have h1 : (0 : Int) ≤ (i : Int) := by omega
    have hbi := isB_of l i (by omega)
    have key := ends_j2 t.len i (by omega) (ih (i + 1) (by omega))
    have hwi : tree_Within.f l c (i : Int) id = some (decide (id ∈ chain l (i : Int))) := rfl
    have hy : f = 0 → (i : Int) ≠ id → (i : Int) < (yl.length : Int) ∧ (!((rd_T35 yl (i : Int)).f0 == (rd_T35 l (i : Int)).f0) || (!((rd_T35 yl (i : Int)).f1 == (rd_T35 l (i : Int)).f1) || (!((rd_T35 yl (i : Int)).f2 == (rd_T35 l (i : Int)).f2) || (!((rd_T35 yl (i : Int)).f3 == (rd_T35 l (i : Int)).f3))))) = false :=
      fun hf hne => ⟨by rw [E.yn hf]; exact h0, same_tx (E.yout hf _ hbi hne)⟩
    refine Evals.succ ?_
    simp only [heronrylaw09_TreeEnds.l0, if_pos h0]
    by_cases he : e = 0
    · have g3 : (i : Int) < (xl.length : Int) := by rw [E.xn he]; exact h0
      simp only [if_pos he]
      refine Evals.bind (Evals.of fun _ => hwi) ?_
      by_cases hin : id ∈ chain l (i : Int)
      · rw [decide_eq_true hin] at hwi ⊢
        simp only [if_true]
        refine Evals.bind (Evals.of fun _ => hwi) ?_
        simp only [if_true, if_pos h1, if_pos g3, if_pos (E.xin he _ hbi hin)]
        by_cases hf : f = 0
        · simp only [if_pos hf]
          by_cases hid : (i : Int) = id
          · simp only [if_pos hid]; exact key
          · obtain ⟨y1, y2⟩ := hy hf hid
            simp only [if_neg hid, if_pos y1, y2]; exact key
        · simp only [if_neg hf]; exact key
      · rw [decide_eq_false hin] at hwi ⊢
        simp only [if_neg (show ¬ (false = true) by decide), if_pos h1, if_pos g3, same_tx (E.xout he _ hbi hin)]
        refine Evals.bind (Evals.of fun _ => hwi) ?_
        simp only [if_neg (show ¬ (false = true) by decide)]
        by_cases hf : f = 0
        · simp only [if_pos hf]
          by_cases hid : (i : Int) = id
          · simp only [if_pos hid]; exact key
          · obtain ⟨y1, y2⟩ := hy hf hid
            simp only [if_neg hid, if_pos y1, y2]; exact key
        · simp only [if_neg hf]; exact key
    · simp only [if_neg he]
      by_cases hf : f = 0
      · exact absurd (E.fe hf) he
      · simp only [if_neg hf]; exact key
theorem ended_of {l : List S35} {c id : Int} (t : Tr l c) (hb : isB l id = true) : Ended l c id (abortT l c id).2.2.2 (commitT l c id).2.2 (abortT l c id).2.2.1 (abortT l c id).1 (abortT l c id).2.1 (commitT l c id).1 (commitT l c id).2.1 := by
  have hks : ∀ x ∈ insideL notUndone l id l.length, isB l x = true := fun x hx => ((mem_insideL notUndone l id x).1 hx).1
  have hk1 : ∀ x ∈ [id], isB l x = true := fun x hx => by rw [List.mem_singleton.1 hx]; exact hb
  refine ⟨fun he => ?_, fun he => ?_, fun he => ?_, fun he i hi hin => ?_, fun he i hi hin => ?_, fun hf => ?_, fun hf => ?_, fun hf i hi hne => ?_, fun hf => ?_, fun hf => ?_⟩
  · rw [(abort_ok he).2.2]; exact endL_len _ _ _ _
  · rw [(abort_ok he).2.2]
  · rw [(abort_ok he).2.2]
  · rw [(abort_ok he).2.2]
    show (rd_T35 (endL l (insideL notUndone l id l.length) 3 (c + 1)) i).f1 = 3
    rw [rd_endL _ _ _ _ hks i hi]
    by_cases hm : i ∈ insideL notUndone l id l.length
    · rw [if_pos hm]
    · rw [if_neg hm]
      have : notUndone (rd_T35 l i) ≠ true := fun hn => hm ((mem_insideL notUndone l id i).2 ⟨hi, hn, hin⟩)
      unfold notUndone at this
      simpa using this
  · rw [(abort_ok he).2.2]
    show rd_T35 (endL l (insideL notUndone l id l.length) 3 (c + 1)) i = _
    rw [rd_endL _ _ _ _ hks i hi, if_neg (fun hm => hin ((mem_insideL notUndone l id i).1 hm).2.2)]
  · obtain ⟨_, h2, _⟩ := commit_ok hf
    obtain ⟨h3, h4, _⟩ := commit_live h2
    unfold abortT
    rw [if_neg (by rw [h3]; decide), if_neg (by rw [h4]; decide)]
  · rw [(commit_ok hf).2.2]; exact endL_len _ _ _ _
  · rw [(commit_ok hf).2.2]
    show rd_T35 (endL l [id] 2 (c + 1)) i = _
    rw [rd_endL _ _ _ _ hk1 i hi, if_neg (fun hm => hne (List.mem_singleton.1 hm))]
  · rw [(commit_ok hf).2.2]
    show (rd_T35 (endL l [id] 2 (c + 1)) id).f1 = 2
    rw [rd_endL _ _ _ _ hk1 id hb, if_pos (List.mem_singleton.2 rfl)]
  · rw [(commit_ok hf).2.2]
    show (rd_T35 (endL l [id] 2 (c + 1)) id).f3 = c + 1
    rw [rd_endL _ _ _ _ hk1 id hb, if_pos (List.mem_singleton.2 rfl)]
theorem abort_st {l : List S35} {c id : Int} (hb : isB l id = true) : (((abortT l c id).2.2.2 == 0) != ((rd_T35 l id).f1 == 1)) = false := by
  unfold abortT
  rw [if_neg (by rw [hb]; decide)]
  by_cases h : (rd_T35 l id).f1 = 1
  · rw [if_neg (by simp [h])]; simp [h]
  · rw [if_pos h]; simp [h]
theorem ends_main {l : List S35} {c id : Int} (t : Tr l c) (hck : c ≤ 1000) (hb : isB l id = true) :
    Evals (fun k => heronrylaw09_TreeEnds.j0 k true id (abortT l c id).2.2.1 (abortT l c id).2.2.2 (commitT l c id).2.2 false l c (abortT l c id).1 (abortT l c id).2.1 (commitT l c id).1 (commitT l c id).2.1) true := by
  refine Evals.succ ?_
  simp only [heronrylaw09_TreeEnds.j0, if_neg (show ¬ (false = true) by decide)]
  exact ends_l0 t hck hb (ended_of t hb) l.length 0 (by omega)
theorem ends_ev (acts : List S47) (a : Int) : Evals (fun k => heronrylaw09_TreeEnds.f k acts a) true := by
  unfold heronrylaw09_TreeEnds.f
  refine Evals.bind awake_ev ?_
  by_cases h : (acts.length : Int) > 100
  · simp only [if_pos h]; exact Evals.const _
  simp only [if_neg h]
  obtain ⟨l, c, e, t, hc⟩ := grown_ev (acts := acts) (by omega)
  refine Evals.bind e ?_
  by_cases h0 : (l.length : Int) = 0
  · simp only [if_pos h0]; exact Evals.const _
  simp only [if_neg h0, and_65535]
  obtain ⟨id, hid⟩ : ∃ id, Int.tmod (a % 65536) (l.length : Int) = id := ⟨_, rfl⟩
  have hb : isB l id = true := by
    rw [isB_iff, ← hid]
    have h1 : 0 ≤ a % 65536 := by omega
    exact ⟨Int.tmod_nonneg _ h1, Int.tmod_lt_of_pos _ (by omega)⟩
  obtain ⟨b0, b1⟩ := (isB_iff l id).1 hb
  have hck : c ≤ 1000 := by omega
  simp only [hid]
  clear hid e h h0
  have E := ended_of t hb
  have M := ends_main t hck hb
  refine Evals.bind (Evals.of fun _ => abort_val t.len t.clk (by omega) id) ?_
  refine Evals.bind (commit_ev t.len t.clk (by omega) id) ?_
  simp only [if_pos b0, if_pos b1, abort_st hb, if_neg (show ¬ (false = true) by decide)]
  by_cases hf : (commitT l c id).2.2 = 0
  · have he := E.fe hf
    have n1 : ((abortT l c id).1.length : Int) = (l.length : Int) := by rw [E.xn he]
    have n2 : (((commitT l c id).1.length : Int) != (l.length : Int)) = false := by rw [E.yn hf]; simp
    simp only [if_pos hf, if_pos he, if_pos n1, n2]
    exact M
  · simp only [if_neg hf]
    by_cases he : (abortT l c id).2.2.2 = 0
    · have n1 : ((abortT l c id).1.length : Int) = (l.length : Int) := by rw [E.xn he]
      simp only [if_pos he, if_pos n1]
      exact M
    · simp only [if_neg he]
      exact M
end Go.Proofs.Ytnlnglfjehohpaa.Q
namespace Go.Proofs.Ytnlnglfjehohpaa
theorem treeEnds_holds : Rows.TreeEndsSaid :=
  treeEnds.said fun A c l a w hr hc hg _ => by
    obtain ⟨k, hk⟩ := (Q.ends_ev l a).get
    exact Q.heronrylaw09_TreeEnds.calls k A c l a true w ⟨rfl⟩ hr hc hk
end Go.Proofs.Ytnlnglfjehohpaa
