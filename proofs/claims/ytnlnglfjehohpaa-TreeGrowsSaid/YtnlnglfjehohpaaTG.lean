/- What Begin, Commit and Abort answer, by the plain words. No condition. -/
import Derived.Test.YtnlnglfjehohpaaTM
import Derived.Test.YtnlnglfjehohpaaQ1
import Derived.Test.YtnlnglfjehohpaaQ3
import Derived.Test.YtnlnglfjehohpaaQ5
namespace Go.Proofs.Ytnlnglfjehohpaa.Q
open Go.RowKit Go.Proofs.YtnlnglfjehohpaaW Go.Proofs.YtnlnglfjehohpaaW.PrintWords
set_option linter.unusedVariables false
set_option linter.unusedSimpArgs false

theorem deep_val {l : List S35} (h : Up l) (c id : Int) : tree_Deep.f l c id = some ((chain l id).length : Int) := by unfold tree_Deep.f; rw [if_pos (chain_nodup h id)]
theorem tick_val {l : List S35} (hl : l.length < 4398046511104) {c : Int} (h0 : 0 ≤ c) (h1 : c < 9223372036854775807) : tree_Tree_tick.f l c = some (l, c + 1) := by
  unfold tree_Tree_tick.f tree_Tx.f
  rw [if_pos hl, Option.bind_some, w64 h0 h1]
theorem is_val (l : List S35) (c id : Int) : tree_Tree_is.f l c id = some (isB l id) := by
  unfold tree_Tree_is.f isB
  by_cases h : id ≥ 0
  · rw [if_pos h]
    have : decide (0 ≤ id) = true := decide_eq_true h
    rw [this, Bool.true_and]
  · rw [if_neg h]
    have : decide (0 ≤ id) = false := decide_eq_false (by omega)
    rw [this, Bool.false_and]

theorem begin_ev {l : List S35} (hu : Up l) (hl : l.length ≤ 64) {c : Int} (h0 : 0 ≤ c) (h1 : c < 1000000) (id : Int) : Evals (fun k => tree_Begin.f k l c id) (beginT l c id) := by
  have hlast : ∀ p : Int, wrap64 (((l ++ [(⟨p, 1, c + 1, 0⟩ : S35)]).length : Int) - 1) = (l.length : Int) := by
    intro p
    rw [List.length_append, List.length_singleton, w64_of (by omega) (by omega)]; omega
  have htick := tick_val (l := l) (by omega) h0 (by omega)
  by_cases e : id = -1
  · subst e
    refine Evals.congr (h := fun k => tree_Begin.j0 k (-1) false false l c) (fun k => by unfold tree_Begin.f; rw [if_pos rfl]; rfl) ?_
    refine Evals.succ (Evals.congr (h := fun k => tree_Begin.j1 k (-1) false false l c) (fun k => by rw [tree_Begin.j0]; simp) ?_)
    refine Evals.succ ?_
    unfold beginT
    rw [if_neg (by simp), if_neg (by simp)]
    by_cases h64 : l.length ≥ 64
    · rw [if_pos h64]
      exact Evals.of (fun k => by simp only [tree_Begin.j1]; rw [if_neg (by simp), if_pos (by omega)])
    · rw [if_neg h64, if_neg (by simp)]
      refine Evals.of (fun k => ?_)
      simp only [tree_Begin.j1]
      rw [if_neg (by simp), if_neg (by omega), if_neg (by simp), htick, Option.bind_some]
      dsimp only
      rw [if_pos (by omega), Option.bind_some, hlast]
  · have eb : (id != (-1)) = true := bne_iff_ne.2 e
    refine Evals.congr (h := fun k => tree_Begin.j0 k id true (!isB l id) l c) (fun k => by unfold tree_Begin.f; rw [if_neg e, is_val, Option.bind_some, eb]) ?_
    refine Evals.succ ?_
    unfold beginT
    cases hb : isB l id with
    | false =>
      rw [if_pos ⟨e, rfl⟩]
      exact Evals.of (fun k => by simp only [tree_Begin.j0]; rw [if_pos (by simp)])
    | true =>
      obtain ⟨i0, i1⟩ := (isB_iff l id).1 hb
      rw [if_neg (fun h => absurd h.2 (by decide))]
      refine Evals.congr (h := fun k => tree_Begin.j1 k id true ((rd_T35 l id).f1 != 1) l c) (fun k => by rw [tree_Begin.j0, if_neg (by simp), if_pos rfl, if_pos i0, if_pos i1]) ?_
      refine Evals.succ ?_
      by_cases hs : (rd_T35 l id).f1 = 1
      · rw [if_neg (fun h => h.2 hs)]
        have hsb : ((rd_T35 l id).f1 != 1) = false := by rw [hs]; rfl
        rw [hsb]
        by_cases h64 : l.length ≥ 64
        · rw [if_pos h64]
          exact Evals.of (fun k => by simp only [tree_Begin.j1]; rw [if_neg (by simp), if_pos (by omega)])
        · rw [if_neg h64]
          by_cases h8 : (chain l id).length ≥ 8
          · rw [if_pos ⟨e, h8⟩]
            exact Evals.of (fun k => by simp only [tree_Begin.j1]; rw [if_neg (by simp), if_neg (by omega), if_pos (by simp), deep_val hu, Option.bind_some, if_pos (by omega)])
          · rw [if_neg (fun h => h8 h.2)]
            refine Evals.of (fun k => ?_)
            simp only [tree_Begin.j1]
            rw [if_neg (by simp), if_neg (by omega), if_pos (by simp), deep_val hu, Option.bind_some, if_neg (by omega), htick, Option.bind_some]
            dsimp only
            rw [if_pos (by omega), Option.bind_some, hlast]
      · rw [if_pos ⟨e, hs⟩]
        have hsb : ((rd_T35 l id).f1 != 1) = true := bne_iff_ne.2 hs
        rw [hsb]
        exact Evals.of (fun k => by simp only [tree_Begin.j1]; rw [if_pos (by simp)])

theorem inside_abort_val {l : List S35} (hl : l.length ≤ 64) (c id : Int) : tree_Tree_inside.f l c id 22 = some (insideL notUndone l id l.length) := by
  unfold tree_Tree_inside.f; rw [if_pos (by omega), if_pos rfl]
theorem inside_commit_val {l : List S35} (hl : l.length ≤ 64) (c id : Int) : tree_Tree_inside.f l c id 24 = some (insideL isLive l id l.length) := by
  unfold tree_Tree_inside.f; rw [if_pos (by omega), if_neg (by decide), if_pos rfl]
theorem end_val {l : List S35} (hl : l.length ≤ 64) {c : Int} (h0 : 0 ≤ c) (h1 : c < 1000000) {ks : List Int} (hk : ∀ x ∈ ks, isB l x = true) (st : Int) : tree_Tree_end.f l c ks st = some (endL l ks st (c + 1), c + 1) := by
  unfold tree_Tree_end.f
  rw [if_pos ⟨by omega, fun x hx => (isB_iff l x).1 (hk x hx)⟩, w64 h0 (by omega)]
  rfl
theorem abort_val {l : List S35} (hl : l.length ≤ 64) {c : Int} (h0 : 0 ≤ c) (h1 : c < 1000000) (id : Int) : tree_Abort.f l c id = some (abortT l c id) := by
  unfold tree_Abort.f abortT
  rw [is_val, Option.bind_some]
  cases hb : isB l id with
  | false => rw [if_neg (by decide), if_pos rfl]
  | true =>
    obtain ⟨i0, i1⟩ := (isB_iff l id).1 hb
    rw [if_pos rfl, if_pos i0, if_pos i1, if_neg (show ¬ (true = false) by decide)]
    by_cases hs : (rd_T35 l id).f1 = 1
    · rw [if_pos hs, if_neg (fun h => h hs), inside_abort_val hl, Option.bind_some, end_val hl h0 h1 (fun x hx => ((mem_insideL _ _ _ _).1 hx).1), Option.bind_some]
    · rw [if_neg hs, if_pos hs]
theorem rd_drop {a : List Int} {i : Nat} (h : i < a.length) : a.drop i = rd a (i : Int) :: a.drop (i + 1) := by
  rw [List.drop_eq_getElem_cons h]; congr 1; simp [rd, h]
theorem equal_go (a b : List Int) (hl : a.length = b.length) (hm : a.length < 1000000) : ∀ (n i : Nat), i + n = a.length → Evals (fun k => slices_Equal_int_int.l0 k a b (a.length : Int) (i : Int)) (decide (a.drop i = b.drop i))
  | 0, i, h => by
    refine Evals.succ (Evals.of (fun k => ?_))
    have : decide (a.drop i = b.drop i) = true := by rw [List.drop_eq_nil_of_le (by omega), List.drop_eq_nil_of_le (by omega)]; rfl
    simp only [slices_Equal_int_int.l0]
    rw [if_neg (by omega), this]
  | n + 1, i, h => by
    refine Evals.succ ?_
    have hw : wrap64 ((i : Int) + 1) = ((i + 1 : Nat) : Int) := by rw [w64 (by omega) (by omega)]; omega
    by_cases e : rd a (i : Int) = rd b (i : Int)
    · have : decide (a.drop i = b.drop i) = decide (a.drop (i + 1) = b.drop (i + 1)) := by
        rw [rd_drop (show i < a.length by omega), rd_drop (show i < b.length by omega), e]
        simp
      rw [this]
      refine Evals.congr (fun k => ?_) (equal_go a b hl hm n (i + 1) (by omega))
      simp only [slices_Equal_int_int.l0]
      rw [if_pos (by omega), if_pos (by omega), if_pos (by omega), if_pos (by omega), if_pos e, hw]
    · have : decide (a.drop i = b.drop i) = false := by
        rw [rd_drop (show i < a.length by omega), rd_drop (show i < b.length by omega)]
        simp [e]
      rw [this]
      refine Evals.of (fun k => ?_)
      simp only [slices_Equal_int_int.l0]
      rw [if_pos (by omega), if_pos (by omega), if_pos (by omega), if_pos (by omega), if_neg e]
theorem equal_ev (a b : List Int) (hm : a.length < 1000000) : Evals (fun k => slices_Equal_int_int.f k a b) (decide (a = b)) := by
  by_cases hl : a.length = b.length
  · refine Evals.congr (h := fun k => slices_Equal_int_int.l0 k a b (a.length : Int) ((0 : Nat) : Int)) (fun k => by unfold slices_Equal_int_int.f; rw [if_pos (by omega)]; rfl) ?_
    exact equal_go a b hl hm a.length 0 (by omega)
  · have : decide (a = b) = false := decide_eq_false (fun e => hl (by rw [e]))
    rw [this]
    exact Evals.of (fun k => by unfold slices_Equal_int_int.f; rw [if_neg (by omega)])
theorem insideL_len' (p : S35 → Bool) (l : List S35) (id : Int) (n : Nat) : (insideL p l id n).length ≤ n := by
  unfold insideL; rw [List.length_map]
  exact Nat.le_trans (List.length_filter_le _ _) (by simp)
theorem commit_ev {l : List S35} (hl : l.length ≤ 64) {c : Int} (h0 : 0 ≤ c) (h1 : c < 1000000) (id : Int) : Evals (fun k => tree_Commit.f k l c id) (commitT l c id) := by
  unfold commitT
  cases hb : isB l id with
  | false =>
    rw [if_pos rfl]
    exact Evals.of (fun k => by unfold tree_Commit.f; rw [is_val, Option.bind_some, hb, if_neg (by decide)])
  | true =>
    rw [if_neg (by decide)]
    have hlen := insideL_len' isLive l id l.length
    refine Evals.congr (h := fun k => (slices_Equal_int_int.f k (insideL isLive l id l.length) [id]).bind fun t => (if t = true then ((tree_Tree_end.f l c (insideL isLive l id l.length) 2).bind fun bt => some (bt.1, bt.2, 0)) else some ([], 0, 7))) (fun k => by unfold tree_Commit.f; rw [is_val, Option.bind_some, hb, if_pos rfl, inside_commit_val hl, Option.bind_some]) ?_
    refine Evals.bind (equal_ev _ _ (by omega)) ?_
    by_cases e : insideL isLive l id l.length = [id]
    · rw [if_neg (show ¬ (insideL isLive l id l.length ≠ [id]) from fun h => h e)]
      refine Evals.of (fun k => ?_)
      rw [if_pos (decide_eq_true e), e, end_val hl h0 h1 (fun x hx => by rw [List.mem_singleton.1 hx]; exact hb), Option.bind_some]
    · rw [if_pos (show insideL isLive l id l.length ≠ [id] from e)]
      refine Evals.of (fun k => ?_)
      rw [if_neg (by simpa using e)]
end Go.Proofs.Ytnlnglfjehohpaa.Q
