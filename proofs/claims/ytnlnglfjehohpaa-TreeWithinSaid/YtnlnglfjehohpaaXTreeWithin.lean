/- TreeWithin: at every input the law returns true and its arguments read as before. No condition. -/
import Derived.Test.YtnlnglfjehohpaaY0
import Derived.Test.YtnlnglfjehohpaaFTreeWithin
import Derived.Test.YtnlnglfjehohpaaQ9
import Derived.Test.YtnlnglfjehohpaaB
namespace Go.Proofs.Ytnlnglfjehohpaa.Q
open Go.RowKit Go.Proofs.YtnlnglfjehohpaaW Go.Proofs.YtnlnglfjehohpaaW.PrintWords Go.Proofs.YtnlnglfjehohpaaW.PrintLast Go.Proofs.YtnlnglfjehohpaaW.PrintMore
set_option linter.unusedVariables false

/-- How many below i are met in the chain. -/
def metN (l : List S35) (id : Int) (i : Nat) : Nat := ((List.range i).filter (fun k : Nat => decide ((k : Int) ∈ chain l id))).length
theorem metN_succ (l : List S35) (id : Int) (i : Nat) : metN l id (i + 1) = metN l id i + (if (i : Int) ∈ chain l id then 1 else 0) := by
  unfold metN
  rw [List.range_succ, List.filter_append, List.length_append]
  congr 1
  by_cases h : (i : Int) ∈ chain l id
  · simp [h]
  · simp [h]
theorem metN_le (l : List S35) (id : Int) (i : Nat) : metN l id i ≤ i := by
  unfold metN; exact Nat.le_trans (List.length_filter_le _ _) (by simp)

theorem within_l0 {l : List S35} {c : Int} (h : Tr l c) {id : Int} (hid : isB l id = true) : ∀ (n i : Nat), i + n = l.length →
    Evals (fun k => heronrylaw09_TreeWithin.l0 k true id ((metN l id i : Nat) : Int) (i : Int) l c) true
  | 0, i, hi => by
    obtain ⟨i0, i1⟩ := (isB_iff l id).1 hid
    obtain ⟨t1, t2⟩ := top_of h.up id hid
    obtain ⟨t3, t4⟩ := chain_in l id _ t1
    have hm : ((metN l id i : Nat) : Int) = ((chain l id).length : Int) := by
      have := count_chain h.up id
      unfold metN
      rw [show i = l.length by omega, this]
    refine Evals.succ (Evals.of (fun k => ?_))
    simp only [heronrylaw09_TreeWithin.l0]
    rw [if_neg (by omega)]
    show (tree_Top.f l c id).bind _ = _
    unfold tree_Top.f
    rw [Option.bind_some]
    rw [if_pos trivial, deep_val h.up, Option.bind_some, if_pos hm.symm, if_pos t3, if_pos t4, if_pos t3, if_pos t2]
    unfold tree_Within.f
    rw [Option.bind_some, decide_eq_true t1]
  | n + 1, i, hi => by
    obtain ⟨i0, i1⟩ := (isB_iff l id).1 hid
    have hlen := h.len
    have ih := within_l0 h hid n (i + 1) (by omega)
    have hmn := metN_le l id i
    have hw : wrap64 ((i : Int) + 1) = ((i + 1 : Nat) : Int) := by rw [w64 (by omega) (by omega)]; omega
    have hch := chain_eq h.up id hid
    have hup := h.up.at hid
    -- what is told of one
    have key : Evals (fun k => heronrylaw09_TreeWithin.j1 k true id ((metN l id i : Nat) : Int) (i : Int) (decide ((i : Int) ∈ chain l id)) false l c) true := by
      refine Evals.succ ?_
      by_cases hin : (i : Int) ∈ chain l id
      · have hsame := top_same h.up id _ hin
        have hm : wrap64 (((metN l id i : Nat) : Int) + 1) = ((metN l id (i + 1) : Nat) : Int) := by
          rw [metN_succ, if_pos hin, w64 (by omega) (by omega)]; omega
        refine Evals.congr (fun k => ?_) ih
        rw [heronrylaw09_TreeWithin.j1, if_neg (by simp), if_pos (decide_eq_true hin)]
        unfold tree_Top.f
        rw [Option.bind_some, Option.bind_some, if_pos hsame, hm, hw]
      · have hm : metN l id i = metN l id (i + 1) := by rw [metN_succ, if_neg hin]; omega
        rw [← hm] at ih
        refine Evals.congr (fun k => ?_) ih
        rw [heronrylaw09_TreeWithin.j1, if_neg (by simp), if_neg (by simpa using hin), hw]
    refine Evals.succ (Evals.congr (fun k => ?_) key)
    rw [heronrylaw09_TreeWithin.l0, if_pos (by omega)]
    unfold tree_Within.f
    rw [Option.bind_some, if_pos i0, if_pos i1]
    by_cases e : (i : Int) = id
    · rw [if_pos e]
      have : decide ((i : Int) ∈ chain l id) = true := decide_eq_true (by rw [e]; exact chain_self h.up hid)
      rw [this]; rfl
    · rw [if_neg e]
      by_cases hp : (rd_T35 l id).f0 ≥ 0
      · rw [if_pos hp, Option.bind_some]
        have : decide ((i : Int) ∈ chain l id) = decide ((i : Int) ∈ chain l (rd_T35 l id).f0) := by rw [hch]; simp [e]
        rw [← this]
        simp
      · rw [if_neg hp]
        have : decide ((i : Int) ∈ chain l id) = false := by
          rw [hch, chain_out l _ (isB_neg l _ (by omega))]; simp [e]
        rw [this]; rfl
theorem within_ev (acts : List S47) (a : Int) : Evals (fun k => heronrylaw09_TreeWithin.f k acts a) true := by
  unfold heronrylaw09_TreeWithin.f
  refine Evals.bind awake_ev ?_
  by_cases h : (acts.length : Int) > 100
  · simp only [if_pos h]; exact Evals.const _
  · simp only [if_neg h]
    obtain ⟨l, c, e, t, hc⟩ := grown_ev (acts := acts) (by omega)
    refine Evals.bind e ?_
    dsimp only
    by_cases h0 : (l.length : Int) = 0
    · obtain rfl : l = [] := List.length_eq_zero_iff.1 (by omega)
      refine Evals.of (fun k => ?_)
      rw [if_pos (by rfl), if_pos (by simp), deep_val t.up, Option.bind_some]
      have : chain ([] : List S35) a = [] := rfl
      rw [this, if_pos (by rfl)]
      rfl
    · simp only [if_neg h0]
      rw [and_65535]
      have hb : isB l (Int.tmod (a % 65536) (l.length : Int)) = true := by
        rw [isB_iff]
        have h1 : 0 ≤ a % 65536 := by omega
        exact ⟨Int.tmod_nonneg _ h1, Int.tmod_lt_of_pos _ (by omega)⟩
      exact within_l0 t hb l.length 0 (by omega)
end Go.Proofs.Ytnlnglfjehohpaa.Q
namespace Go.Proofs.Ytnlnglfjehohpaa
theorem treeWithin_holds : Rows.TreeWithinSaid :=
  treeWithin.said fun A c l a w hr hc hg _ => by
    obtain ⟨k, hk⟩ := (Q.within_ev l a).get
    exact Q.heronrylaw09_TreeWithin.calls k A c l a true w ⟨rfl⟩ hr hc hk
end Go.Proofs.Ytnlnglfjehohpaa
