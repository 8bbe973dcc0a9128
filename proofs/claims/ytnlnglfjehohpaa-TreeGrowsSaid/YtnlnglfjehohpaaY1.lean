/- What grows may be: Sane answers true of a tree that is sound. No condition. -/
import Derived.Test.YtnlnglfjehohpaaY0
import Derived.RowKit
import Derived.Laws.BitsLemmas
import Derived.Laws.Entries
namespace Go.Proofs.Ytnlnglfjehohpaa.Q
open Go.RowKit Go.Proofs.YtnlnglfjehohpaaW Go.Proofs.YtnlnglfjehohpaaW.PrintWords
set_option linter.unusedVariables false
set_option linter.unusedSimpArgs false

theorem sound_j1 {l : List S35} {c : Int} (t : Tr l c) {id : Int} (hb : isB l id = true) : Evals (fun k => tree_Tree_sound.j1 k false l c ((rd_T35 l id).f0) ((rd_T35 l id).f1) ((rd_T35 l id).f2) ((rd_T35 l id).f3)) true := by
  refine Evals.succ (Evals.of fun k => ?_)
  simp only [tree_Tree_sound.j1, if_neg (show ¬ (false = true) by decide)]
  have hs := t.st id hb
  generalize rd_T35 l id = x at *
  rcases hs with ⟨h1, h2⟩ | ⟨h1, h2, h3⟩
  · rw [if_pos h1, h2]; rfl
  · have g : x.f3 > x.f2 := h2
    rcases h1 with h1 | h1
    · rw [if_neg (by omega), if_pos h1, if_pos g, decide_eq_true h3]
    · rw [if_neg (by omega), if_neg (by omega), if_pos h1, if_pos g, decide_eq_true h3]
theorem sound_ev {l : List S35} {c : Int} (t : Tr l c) {id : Int} (hb : isB l id = true) : Evals (fun k => tree_Tree_sound.f k l c id) true := by
  obtain ⟨b0, b1⟩ := (isB_iff l id).1 hb
  obtain ⟨u0, u1⟩ := t.up.at hb
  obtain ⟨g0, g1⟩ := t.beg id hb
  have hl := t.len
  unfold tree_Tree_sound.f
  simp only [if_pos b0, if_pos b1, if_neg (show ¬ (rd_T35 l id).f0 < -1 by omega), if_neg (show ¬ (rd_T35 l id).f0 ≥ id by omega), if_neg (show ¬ (rd_T35 l id).f2 < 1 by omega), decide_eq_false (show ¬ (rd_T35 l id).f2 > c by omega)]
  refine Evals.succ ?_
  simp only [tree_Tree_sound.j0, if_neg (show ¬ (false = true) by decide)]
  by_cases h0 : id > 0
  · have hw : wrap64 (id - 1) = id - 1 := by unfold wrap64; omega
    have hb1 : isB l (id - 1) = true := (isB_iff l _).2 ⟨by omega, by omega⟩
    have := t.asc (id - 1) id hb1 hb (by omega)
    simp only [if_pos h0, hw, if_pos (show 0 ≤ id - 1 by omega), if_pos (show id - 1 < (l.length : Int) by omega), decide_eq_false (show ¬ (rd_T35 l (id - 1)).f2 ≥ (rd_T35 l id).f2 by omega)]
    exact sound_j1 t hb
  · simp only [if_neg h0]
    exact sound_j1 t hb
theorem nested_val {l : List S35} {c : Int} (t : Tr l c) {id : Int} (hb : isB l id = true) : tree_Tree_nested.f l c id = some true := by
  unfold tree_Tree_nested.f
  rw [if_pos ⟨hb, chain_nodup t.up id⟩]
  unfold nestedB
  have h1 : (chain l id).any (fun x => badS (rd_T35 l id).f1 (rd_T35 l x).f1) = false := by rw [List.any_eq_false]; intro x hx; rw [t.nest id x hx]; decide
  rw [h1, decide_eq_true (t.deep id)]; rfl
theorem apartF_ok : ∀ (suf : List S35) (pre : List S35) (kv : List (Int × Bool)), (∀ p ∈ kv, ∃ y ∈ pre, y.f1 ≠ 1 ∧ p = (y.f3, y.f1 == 3)) →
    (pre ++ suf).Pairwise (fun a b => a.f1 ≠ 1 → b.f1 ≠ 1 → a.f3 = b.f3 → a.f1 = 3 ∧ b.f1 = 3) → apartF suf kv = true
  | [], _, _, _, _ => rfl
  | x :: suf, pre, kv, hk, hp => by
    have hp' : ((pre ++ [x]) ++ suf).Pairwise (fun a b : S35 => a.f1 ≠ 1 → b.f1 ≠ 1 → a.f3 = b.f3 → a.f1 = 3 ∧ b.f1 = 3) := by rw [List.append_assoc]; exact hp
    have hk' : ∀ p ∈ kv, ∃ y ∈ pre ++ [x], y.f1 ≠ 1 ∧ p = (y.f3, y.f1 == 3) := fun p h => by
      obtain ⟨y, h1, h2⟩ := hk p h
      exact ⟨y, List.mem_append.2 (.inl h1), h2⟩
    unfold apartF
    by_cases h1 : x.f1 = 1
    · rw [if_pos h1]; exact apartF_ok suf (pre ++ [x]) kv hk' hp'
    rw [if_neg h1]
    by_cases h2 : (x.f1 == 3 && kv.any (fun p => p.1 == x.f3 && p.2)) = true
    · rw [if_pos h2]; exact apartF_ok suf (pre ++ [x]) kv hk' hp'
    rw [if_neg h2]
    by_cases h3 : kv.any (fun p => p.1 == x.f3) = true
    · exfalso
      obtain ⟨p, hp1, hp2⟩ := List.any_eq_true.1 h3
      obtain ⟨y, hy, hy1, rfl⟩ := hk p hp1
      have hxy := (List.pairwise_append.1 hp).2.2 y hy x List.mem_cons_self hy1 h1 (by simpa using hp2)
      refine h2 ?_
      rw [Bool.and_eq_true, List.any_eq_true]
      exact ⟨by simp [hxy.2], _, hp1, by rw [Bool.and_eq_true]; exact ⟨hp2, by simp [hxy.1]⟩⟩
    rw [if_neg h3]
    refine apartF_ok suf (pre ++ [x]) _ (fun p h => ?_) hp'
    rcases List.mem_append.1 h with h | h
    · exact hk' p h
    · obtain rfl := List.mem_singleton.1 h
      exact ⟨x, List.mem_append.2 (.inr (List.mem_singleton.2 rfl)), h1, rfl⟩
theorem apart_val {l : List S35} {c : Int} (t : Tr l c) : tree_Tree_apart.f l c = some true := by
  unfold tree_Tree_apart.f
  refine congrArg some (apartF_ok l [] [] (fun p h => by cases h) ?_)
  rw [List.nil_append, List.pairwise_iff_getElem]
  intro i j hi hj hij h1 h2 h3
  have := t.apart (i : Int) (j : Int) (isB_of l i hi) (isB_of l j hj) (by omega)
  rw [rd_tx l i hi, rd_tx l j hj] at this
  exact this h1 h2 h3
theorem sane_l0 {l : List S35} {c : Int} (t : Tr l c) : ∀ (d i : Nat), i + d = l.length → Evals (fun k => tree_Sane.l0 k (l.length : Int) (i : Int) l c) true
  | 0, i, hi => by
    refine Evals.succ ?_
    simp only [tree_Sane.l0, if_neg (show ¬ (i : Int) < (l.length : Int) by omega)]
    exact Evals.bind (Evals.of fun _ => apart_val t) (Evals.const _)
  | d + 1, i, hi => by
    have hb := isB_of l i (by omega)
    have hl := t.len
    have hw : wrap64 ((i : Int) + 1) = ((i + 1 : Nat) : Int) := by unfold wrap64; omega
    refine Evals.succ ?_
    simp only [tree_Sane.l0, if_pos (show (i : Int) < (l.length : Int) by omega), hw]
    refine Evals.bind (sound_ev t hb) ?_
    simp only [if_true]
    refine Evals.bind (Evals.of fun _ => nested_val t hb) ?_
    simp only [if_true]
    exact sane_l0 t d (i + 1) (by omega)
theorem sane_ev {l : List S35} {c : Int} (t : Tr l c) : Evals (fun k => tree_Sane.f k l c) true := by
  have hl := t.len
  have hc := t.clk
  unfold tree_Sane.f
  simp only [if_neg (show ¬ (l.length : Int) > 64 by omega), decide_eq_false (show ¬ c < 0 by omega)]
  refine Evals.succ ?_
  simp only [tree_Sane.j0, if_neg (show ¬ (false = true) by decide)]
  exact sane_l0 t l.length 0 (by omega)
end Go.Proofs.Ytnlnglfjehohpaa.Q
