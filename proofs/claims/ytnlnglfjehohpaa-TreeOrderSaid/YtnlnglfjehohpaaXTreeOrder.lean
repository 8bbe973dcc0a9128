/- TreeOrder: at every input the law returns true and its arguments read as before. No condition. -/
import Derived.Test.YtnlnglfjehohpaaY0
import Derived.Test.YtnlnglfjehohpaaY2
import Derived.Test.YtnlnglfjehohpaaFTreeOrder
import Derived.Test.YtnlnglfjehohpaaQ11
namespace Go.Proofs.Ytnlnglfjehohpaa.Q
open Go.RowKit Go.Proofs.YtnlnglfjehohpaaW Go.Proofs.YtnlnglfjehohpaaW.PrintWords Go.Proofs.YtnlnglfjehohpaaW.PrintLast Go.Proofs.YtnlnglfjehohpaaW.PrintMore
set_option linter.unusedVariables false

theorem rd_get (o : List Int) (j : Nat) (h : j < o.length) : rd o (j : Int) = o[j] := by
  unfold rd; rw [Int.toNat_natCast, List.getD_eq_getElem?_getD, List.getElem?_eq_getElem h]; rfl
theorem order_l1 {l : List S35} {c : Int} {o : List Int} (hp : o.Pairwise (Ahd l)) (hr : ∀ x ∈ o, 0 ≤ x ∧ x < (l.length : Int)) (hlen : o.length ≤ 1000) {i : Nat} (hi : i < o.length)
    (cont : Evals (fun k => heronrylaw09_TreeOrder.l0 k true o ((i + 1 : Nat) : Int) l c) true) : ∀ (d j : Nat), j + d = i → Evals (fun k => heronrylaw09_TreeOrder.l1 k true o (i : Int) (j : Int) l c) true
  | 0, j, hj => by
    obtain rfl : j = i := by omega
    refine Evals.succ (Evals.congr (fun k => ?_) cont)
    rw [heronrylaw09_TreeOrder.l1, if_neg (by omega), w64 (by omega) (by omega)]
    rfl
  | d + 1, j, hj => by
    have ih := order_l1 hp hr hlen hi cont d (j + 1) (by omega)
    have hjl : j < o.length := by omega
    have h1 := hr _ (List.getElem_mem hjl)
    have h2 := hr _ (List.getElem_mem hi)
    have ha := List.pairwise_iff_getElem.1 hp j i hjl hi (by omega)
    refine Evals.succ (Evals.congr (fun k => ?_) ih)
    rw [heronrylaw09_TreeOrder.l1, if_pos (by omega), if_pos (by omega), if_pos (by omega), rd_get o j hjl, rd_get o i hi, if_pos h1.1, if_pos h1.2, if_pos (by omega), if_pos (by omega), if_pos h2.1, if_pos h2.2]
    have hw : wrap64 ((j : Int) + 1) = ((j + 1 : Nat) : Int) := by rw [w64 (by omega) (by omega)]; omega
    have hin : tree_Within.f l c o[j] o[i] = some false := by unfold tree_Within.f; rw [decide_eq_false ha.2]
    rw [hin, hw]
    by_cases e : (rd_T35 l o[j]).f0 = (rd_T35 l o[i]).f0
    · have h3 : (rd_T35 l o[j]).f3 < (rd_T35 l o[i]).f3 := ha.1 e
      rw [if_pos e, if_neg (by omega)]
      rfl
    · rw [if_neg e]
      rfl
theorem order_l0 {l : List S35} {c : Int} {o : List Int} (hp : o.Pairwise (Ahd l)) (hr : ∀ x ∈ o, 0 ≤ x ∧ x < (l.length : Int)) (hlen : o.length ≤ 1000) : ∀ (d i : Nat), i + d = o.length → Evals (fun k => heronrylaw09_TreeOrder.l0 k true o (i : Int) l c) true
  | 0, i, hi => by
    refine Evals.succ (Evals.of (fun k => ?_))
    rw [heronrylaw09_TreeOrder.l0, if_neg (by omega)]
  | d + 1, i, hi => by
    have ih := order_l0 (c := c) hp hr hlen d (i + 1) (by omega)
    refine Evals.succ (Evals.congr (fun k => ?_) (order_l1 hp hr hlen (by omega) ih i 0 (by omega)))
    rw [heronrylaw09_TreeOrder.l0, if_pos (by omega)]
    rfl
theorem order_ev (acts : List S47) : Evals (fun k => heronrylaw09_TreeOrder.f k acts) true := by
  unfold heronrylaw09_TreeOrder.f
  refine Evals.bind awake_ev ?_
  by_cases h : (acts.length : Int) > 120
  · simp only [if_pos h]; exact Evals.const _
  · simp only [if_neg h]
    obtain ⟨l, c, e, t, hc⟩ := grown_ev (acts := acts) (by omega)
    refine Evals.bind e ?_
    dsimp only
    obtain ⟨o, h1, h2, h3, h4⟩ := order_spec t
    refine Evals.bind (Evals.of fun _ => h1) ?_
    have hr : ∀ x ∈ o, 0 ≤ x ∧ x < (l.length : Int) := fun x hx => (isB_iff l x).1 (fxd_at ((h4 x).1 hx)).1
    have := nodup_len l.length o h3 hr
    exact order_l0 h2 hr (by have := t.len; omega) o.length 0 (by omega)
end Go.Proofs.Ytnlnglfjehohpaa.Q
namespace Go.Proofs.Ytnlnglfjehohpaa
theorem treeOrder_holds : Rows.TreeOrderSaid :=
  treeOrder.said fun A c l w hr hc hg => by
    obtain ⟨k, hk⟩ := (Q.order_ev l).get
    exact Q.heronrylaw09_TreeOrder.calls k A c l true w ⟨rfl⟩ hr hc hk
end Go.Proofs.Ytnlnglfjehohpaa
