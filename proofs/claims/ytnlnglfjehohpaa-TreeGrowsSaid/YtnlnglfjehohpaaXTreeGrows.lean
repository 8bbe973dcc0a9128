/- TreeGrows: at every input the law returns true and its arguments read as before. No condition. -/
import Derived.Test.YtnlnglfjehohpaaY0
import Derived.Test.YtnlnglfjehohpaaY1
import Derived.Test.YtnlnglfjehohpaaY2
import Derived.Test.YtnlnglfjehohpaaFTreeGrows
import Derived.Test.YtnlnglfjehohpaaQ12
namespace Go.Proofs.Ytnlnglfjehohpaa.Q
open Go.RowKit Go.Proofs.YtnlnglfjehohpaaW Go.Proofs.YtnlnglfjehohpaaW.PrintWords Go.Proofs.YtnlnglfjehohpaaW.PrintLast Go.Proofs.YtnlnglfjehohpaaW.PrintMore
set_option linter.unusedVariables false

theorem rd_getg (o : List Int) (j : Nat) (h : j < o.length) : rd o (j : Int) = o[j] := by
  unfold rd; rw [Int.toNat_natCast, List.getD_eq_getElem?_getD, List.getElem?_eq_getElem h]; rfl
theorem lost_not {l : List S35} {c : Int} (t : Tr l c) {id : Int} (hb : isB l id = true) (h : fxd l id = true ∨ (rd_T35 l id).f1 = 1) : tree_Lost.f l c id = some false := by
  unfold tree_Lost.f
  rw [hb]
  have : anyUp (fun x => x.f1 == 3) l id = false := by
    unfold anyUp
    rw [List.any_eq_false]
    intro x hx
    rcases h with h | h
    · show ¬ ((rd_T35 l x).f1 == 3) = true
      rw [(fxd_at h).2 x hx]; decide
    · have := (badS_iff _ _).1 (t.nest id x hx)
      show ¬ ((rd_T35 l x).f1 == 3) = true
      rw [this.1 h]; decide
  rw [this]; rfl
theorem grows_l1 {l : List S35} {c : Int} (t : Tr l c) {m : List Int} (hm : m.length = l.length) (hv : ∀ x : Nat, x < l.length → rd m (x : Int) = if fxd l (x : Int) = true then 1 else 0) :
    ∀ (d i : Nat), i + d = l.length → Evals (fun k => heronrylaw09_TreeGrows.l1 k true m (i : Int) l c) true
  | 0, i, hi => by
    refine Evals.succ (Evals.congr (fun k => ?_) (sane_ev t))
    rw [heronrylaw09_TreeGrows.l1, if_neg (by omega), if_pos rfl]
    cases tree_Sane.f k l c <;> rfl
  | d + 1, i, hi => by
    have ih := grows_l1 t hm hv d (i + 1) (by omega)
    have hl := t.len
    have hb : isB l (i : Int) = true := isB_of l i (by omega)
    have hw : wrap64 ((i : Int) + 1) = ((i + 1 : Nat) : Int) := by rw [w64 (by omega) (by omega)]; omega
    have hd := t.deep (i : Int)
    have hvi := hv i (by omega)
    refine Evals.succ (Evals.congr (fun k => ?_) ih)
    have hfx : tree_Fixed.f l c (i : Int) = some (fxd l (i : Int)) := rfl
    rw [heronrylaw09_TreeGrows.l1, if_pos (by omega), hfx, Option.bind_some, hw, deep_val t.up, hvi]
    have hdeep : ¬ (((chain l (i : Int)).length : Int) > 8) := by omega
    cases hf : fxd l (i : Int) with
    | true =>
      rw [if_pos rfl, if_pos (by omega), if_pos (by omega), if_pos rfl, if_pos rfl, lost_not t hb (.inl hf), Option.bind_some, if_neg (by simp)]
      by_cases h1 : (rd_T35 l (i : Int)).f1 = 1
      · rw [if_pos h1, Option.bind_some, if_neg (by simp), Option.bind_some, if_neg hdeep]
      · rw [if_neg h1, Option.bind_some, if_neg hdeep]
    | false =>
      rw [if_neg (by simp), if_pos (by omega), if_pos (by omega), if_neg (by simp : ¬ (false = true)), if_pos rfl]
      by_cases h1 : (rd_T35 l (i : Int)).f1 = 1
      · rw [if_pos h1, lost_not t hb (.inr h1), Option.bind_some, if_neg (by simp), Option.bind_some, if_neg hdeep]
      · rw [if_neg h1, Option.bind_some, if_neg hdeep]
theorem grows_l0 {l : List S35} {c : Int} (t : Tr l c) {o : List Int} (hnd : o.Nodup) (hmem : ∀ x, x ∈ o ↔ fxd l x = true) (hlen : o.length ≤ 1000) :
    ∀ (d i : Nat), i + d = o.length → ∀ m : List Int, m.length = l.length → (∀ x : Nat, x < l.length → rd m (x : Int) = if (x : Int) ∈ o.take i then 1 else 0) → Evals (fun k => heronrylaw09_TreeGrows.l0 k true o m (i : Int) l c) true
  | 0, i, hi, m, hm, hv => by
    refine Evals.succ (Evals.congr (fun k => ?_) (grows_l1 t hm (fun x hx => ?_) l.length 0 (by omega)))
    · rw [heronrylaw09_TreeGrows.l0, if_neg (by omega)]
      rfl
    · rw [hv x hx, List.take_of_length_le (by omega)]
      by_cases h : (x : Int) ∈ o
      · rw [if_pos h, if_pos ((hmem _).1 h)]
      · rw [if_neg h, if_neg (fun e => h ((hmem _).2 e))]
  | d + 1, i, hi, m, hm, hv => by
    have hil : i < o.length := by omega
    have hx := (isB_iff l _).1 (fxd_at ((hmem _).1 (List.getElem_mem hil))).1
    obtain ⟨x, hxe⟩ : ∃ x : Nat, o[i] = (x : Int) := ⟨o[i].toNat, by omega⟩
    have hni : (x : Int) ∉ o.take i := by
      intro h
      obtain ⟨j, hj, e⟩ := List.getElem_of_mem h
      rw [List.length_take] at hj
      rw [List.getElem_take] at e
      exact List.pairwise_iff_getElem.1 hnd j i (by omega) hil (by omega) (e.trans hxe.symm)
    have hxl : x < l.length := by omega
    have hvx := hv x hxl
    rw [if_neg hni] at hvx
    have htk : o.take (i + 1) = o.take i ++ [(x : Int)] := by rw [take_snoc o i hil, hxe]
    have ih := grows_l0 t hnd hmem hlen d (i + 1) (by omega) (m.set x 1) (by rw [List.length_set]; exact hm) (fun y hy => by
      have hym : y < m.length := by omega
      rw [rd_getg _ y (by rw [List.length_set]; exact hym), List.getElem_set, htk]
      by_cases e : x = y
      · subst e; rw [if_pos rfl, if_pos (by simp)]
      · rw [if_neg e]
        have := hv y hy
        rw [rd_getg m y hym] at this
        rw [this]
        have hne : (y : Int) ≠ (x : Int) := by omega
        simp [hne])
    refine Evals.succ (Evals.congr (fun k => ?_) ih)
    have hw : wrap64 ((i : Int) + 1) = ((i + 1 : Nat) : Int) := by rw [w64 (by omega) (by omega)]; omega
    rw [heronrylaw09_TreeGrows.l0, if_pos (by omega), if_pos (by omega), rd_getg o i hil, hxe, if_neg (by omega), if_neg (by omega), if_pos (by omega), if_pos (by omega), hvx, hw, Int.toNat_natCast]
    rw [show wrap64 ((0 : Int) + 1) = 1 from w64 (i := 0) (by omega) (by omega)]
theorem grows_ev (acts : List S47) : Evals (fun k => heronrylaw09_TreeGrows.f k acts) true := by
  unfold heronrylaw09_TreeGrows.f
  refine Evals.bind awake_ev ?_
  by_cases h : (acts.length : Int) > 150
  · simp only [if_pos h]; exact Evals.const _
  · simp only [if_neg h]
    obtain ⟨l, c, e, t, hc⟩ := grown_ev (acts := acts) (by omega)
    refine Evals.bind e ?_
    dsimp only
    obtain ⟨o, h1, h2, h3, h4⟩ := order_spec t
    refine Evals.bind (Evals.of fun _ => h1) ?_
    have hr : ∀ x ∈ o, 0 ≤ x ∧ x < (l.length : Int) := fun x hx => (isB_iff l x).1 (fxd_at ((h4 x).1 hx)).1
    have hn := nodup_len l.length o h3 hr
    have hl := t.len
    have g1 : (0 : Int) ≤ (l.length : Int) := by omega
    have g2 : ((l.length : Int)).toNat ≤ 35184372088832 := by omega
    simp only [if_pos g1, if_pos g2]
    refine grows_l0 t h3 h4 (by omega) o.length 0 (by omega) _ (by simp) (fun x hx => ?_)
    rw [rd_getg _ x (by simpa using hx)]
    simp
end Go.Proofs.Ytnlnglfjehohpaa.Q
namespace Go.Proofs.Ytnlnglfjehohpaa
theorem treeGrows_holds : Rows.TreeGrowsSaid :=
  treeGrows.said fun A c l w hr hc hg => by
    obtain ⟨k, hk⟩ := (Q.grows_ev l).get
    exact Q.heronrylaw09_TreeGrows.calls k A c l true w ⟨rfl⟩ hr hc hk
end Go.Proofs.Ytnlnglfjehohpaa
