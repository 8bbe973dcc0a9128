-- Cut to what one claim reaches, out of what the kit's print laid for this seat (wip/tools/trim.py).
/- Short names for steps that stand often in the printed texts. No condition. -/
import Derived.Test.YtjpoepiidmoegaaQ0
namespace Go.Proofs.Ytjpoepiidmoegaa.Q
open Go.RowKit Go.Proofs.YtjpoepiidmoegaaW.PrintWords Go.Proofs.YtjpoepiidmoegaaW.PrintLast Go.Proofs.YtjpoepiidmoegaaW.PrintMore
set_option linter.unusedVariables false
theorem bk_ {P R : Prop} (h0 : P) (h : P → R := by intro hh; (with_reducible repeat (first | refine blk_drewN ?_ _ | refine blk_drew ?_ | refine blk_alloc ?_ _)); exact hh) : R := h h0
theorem ro_ {P R : Prop} (h0 : P) (h : P → R := by intro hh; (with_reducible repeat (first | apply Kd.R_alloc | apply Kd.R_drewN | apply Kd.R_drew)); exact hh) : R := h h0
theorem be_ {P R : Prop} (h0 : P) (h : P → R := by intro hh; (repeat (first | (with_reducible first | exact hh | apply below_alloc | apply pw_below_drewN | apply below_drew1 | refine below_set ?_ (Aside0.out (by assumption))) | exact hh))) : R := h h0
theorem pu_ {α : Sort _} {a b : α} (h : a = b := by first | (simp only [putAll, Act.put, List.setIfInBounds_toArray, List.set_cons_zero, List.set_cons_succ]; done) | (simp only [putAll, Act.put, List.setIfInBounds_toArray, List.set_cons_zero, List.set_cons_succ]; rfl)) : a = b := h
theorem ma_ {α : Sort _} {a b : α} (h : a = b := by (try simp only [List.map_toArray, List.map_cons, List.map_nil]); first | done | rfl | (simp only [List.length_drop, List.length_take]; rfl)) : a = b := h
theorem am_ {p : Prop} (h : p) : Aside0 p := ⟨h⟩
theorem bb_ {w0 w w1 : World} {g : Nat} {o : Obj} (h0 : w0.heap[g]? = some o) (hb : Below w.heap.size w w1) (h : w0.heap[g]? = some o → w.heap[g]? = some o := by intro hh; (with_reducible repeat (first | refine blk_drewN ?_ _ | refine blk_drew ?_ | refine blk_alloc ?_ _)); exact hh) : w1.heap[g]? = some o := blk_below (h h0) hb
theorem bl_ {w0 w : World} {g : Nat} {o : Obj} (h0 : w0.heap[g]? = some o) (h : w0.heap[g]? = some o → w.heap[g]? = some o := by intro hh; (with_reducible repeat (first | refine blk_drewN ?_ _ | refine blk_drew ?_ | refine blk_alloc ?_ _)); exact hh) : g < w.heap.size := blk_lt (h h0)
end Go.Proofs.Ytjpoepiidmoegaa.Q
