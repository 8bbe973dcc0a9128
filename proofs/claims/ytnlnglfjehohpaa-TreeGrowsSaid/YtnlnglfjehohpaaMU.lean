/- Maps of whole numbers, entry by entry: a new key laid, a key looked up, how many. No condition. -/
import Derived.WideMake
import Derived.Maps.Own
import Derived.Maps.OwnIn
import Derived.RowKit
import Derived.RangeFuncNested
namespace Go.Proofs.Ytnlnglfjehohpaa.MU
open Go Go.RowKit

/-- The map in block M holds kv, in the order in which they came. -/
def IsM (W : World) (M : Nat) (kv : List (Int × Value)) : Prop :=
  ∃ es clock, W.heap[M]? = some (.map es clock) ∧ es.toList.map (fun e => (e.key, e.val)) = kv.map (fun p => (Value.int .i64 p.1, p.2))
theorem IsM.made {W : World} {M : Nat} (h : W.heap[M]? = some (.map #[] 0)) : IsM W M [] := ⟨#[], 0, h, rfl⟩
theorem IsM.same {W W' : World} {M : Nat} {kv : List (Int × Value)} (h : IsM W M kv) (hs : W'.heap[M]? = W.heap[M]?) : IsM W' M kv := by
  obtain ⟨es, c, h1, h2⟩ := h
  exact ⟨es, c, hs.trans h1, h2⟩
theorem IsM.lt {W : World} {M : Nat} {kv : List (Int × Value)} (h : IsM W M kv) : M < W.heap.size := by
  obtain ⟨es, c, h1, h2⟩ := h
  exact (Array.getElem?_eq_some_iff.1 h1).1
theorem findNow_new (k : Int) : ∀ (es : List MapEntry) (kv : List (Int × Value)) (i : Nat), es.map (fun e => (e.key, e.val)) = kv.map (fun p => (Value.int .i64 p.1, p.2)) → (∀ p ∈ kv, p.1 ≠ k) → Instr.findNow (.int .i64) (.int .i64 k) es i = some none
  | [], _, _, _, _ => rfl
  | e :: es, [], _, h, _ => by simp at h
  | e :: es, p :: kv, i, h, hn => by
    simp only [List.map_cons, List.cons.injEq, Prod.mk.injEq] at h
    have h1 : (k == p.1) = false := by have := hn p List.mem_cons_self; simp; omega
    unfold Instr.findNow
    rw [h.1.1]
    simp only [Instr.sameNow, h1]
    exact findNow_new k es kv (i + 1) h.2 (fun q hq => hn q (List.mem_cons_of_mem _ hq))
theorem findNow_old (k : Int) : ∀ (es : List MapEntry) (kv : List (Int × Value)) (i : Nat) (p : Int × Value), es.map (fun e => (e.key, e.val)) = kv.map (fun p => (Value.int .i64 p.1, p.2)) → kv.find? (fun p => p.1 == k) = some p → ∃ j, Instr.findNow (.int .i64) (.int .i64 k) es i = some (some (j, p.2))
  | [], [], _, _, _, h => by simp at h
  | [], q :: kv, _, _, h, _ => by simp at h
  | e :: es, [], _, _, h, _ => by simp at h
  | e :: es, q :: kv, i, p, h, hf => by
    simp only [List.map_cons, List.cons.injEq, Prod.mk.injEq] at h
    unfold Instr.findNow
    rw [h.1.1]
    by_cases hq : q.1 = k
    · have h1 : (k == q.1) = true := by simp [hq]
      have h2 : p = q := by simpa [hq] using hf.symm
      simp only [Instr.sameNow, h1]
      exact ⟨i, by rw [h.1.2, h2]; rfl⟩
    · have h1 : (k == q.1) = false := by simp; omega
      have h2 : kv.find? (fun p => p.1 == k) = some p := by simpa [hq] using hf
      simp only [Instr.sameNow, h1]
      exact findNow_old k es kv (i + 1) p h.2 h2

variable {P : Program}
theorem run_getMap {W : World} {M : Nat} {es : Array MapEntry} {c : Nat} (h : W.heap[M]? = some (.map es c)) : (getObj M).run P W = .ok (.map es c) W := by
  simp [getObj, Sem.run, h]
theorem run_setMap {W : World} {M : Nat} {es : Array MapEntry} {c : Nat} (h : W.heap[M]? = some (.map es c)) (o : Obj) : (setObj M o).run P W = .ok () (W.putObj M o) := by
  simp [setObj, Sem.run, World.putObj, h]
theorem run_check {kt : TypeId} {k : Int} (hk : P.underlying kt = some (.int .i64)) (b : Bool) (W : World) : (Instr.checkKey b 10000 kt (.int .i64 k)).run P W = .ok () W := by
  unfold Instr.checkKey
  simp [Sem.run_bind, run_underlying hk, Result.andThen]

theorem run_update {W : World} {M : Nat} {kv : List (Int × Value)} {t kt et : TypeId} (h : IsM W M kv) (ht : P.underlying t = some (.map kt et)) (hk : P.underlying kt = some (.int .i64)) (k : Int) (v : Value) (hn : ∀ p ∈ kv, p.1 ≠ k) :
    ∃ o, (Instr.mapUpdate t (.map (some M)) (.int .i64 k) v).run P W = .ok () (W.putObj M o) ∧ IsM (W.putObj M o) M (kv ++ [(k, v)]) := by
  obtain ⟨es, c, h1, h2⟩ := h
  have hf := findNow_new k es.toList kv 0 h2 hn
  refine ⟨.map (es.push { key := .int .i64 k, val := v, born := c }) (c + 1), ?_, ⟨_, _, World.putObj_heap_same (Array.getElem?_eq_some_iff.1 h1).1, by simp [h2]⟩⟩
  unfold Instr.mapUpdate
  simp only [Sem.run_bind, run_underlying ht, Result.andThen, run_getMap h1, run_check hk, Instr.findKey, run_underlying hk, hf, Sem.run_pure, run_setMap h1]

theorem run_lookup_none {W : World} {M : Nat} {kv : List (Int × Value)} {t kt et : TypeId} (h : IsM W M kv) (ht : P.underlying t = some (.map kt et)) (hk : P.underlying kt = some (.int .i64)) (z : Value) (hz : (zeroValue et).run P W = .ok z W) (k : Int) (hn : ∀ p ∈ kv, p.1 ≠ k) :
    (Instr.lookup t (.map (some M)) (.int .i64 k) false).run P W = .ok z W := by
  obtain ⟨es, c, h1, h2⟩ := h
  have hf := findNow_new k es.toList kv 0 h2 hn
  unfold Instr.lookup
  simp [Sem.run_bind, run_underlying ht, Result.andThen, run_getMap h1, run_check hk, Instr.findKey, run_underlying hk, hf, hz]
theorem run_lookup_some {W : World} {M : Nat} {kv : List (Int × Value)} {t kt et : TypeId} (h : IsM W M kv) (ht : P.underlying t = some (.map kt et)) (hk : P.underlying kt = some (.int .i64)) (k : Int) (p : Int × Value) (hp : kv.find? (fun p => p.1 == k) = some p) :
    (Instr.lookup t (.map (some M)) (.int .i64 k) false).run P W = .ok p.2 W := by
  obtain ⟨es, c, h1, h2⟩ := h
  obtain ⟨j, hf⟩ := findNow_old k es.toList kv 0 p h2 hp
  unfold Instr.lookup
  simp [Sem.run_bind, run_underlying ht, Result.andThen, run_getMap h1, run_check hk, Instr.findKey, run_underlying hk, hf, Sem.run_pure]
theorem run_len {W : World} {M : Nat} {kv : List (Int × Value)} {t kt et : TypeId} (h : IsM W M kv) (ht : P.underlying t = some (.map kt et)) (ty : TypeId) :
    (Builtin.len_ #[t] ty #[.map (some M)]).run P W = .ok (.int .i64 kv.length) W := by
  obtain ⟨es, c, h1, h2⟩ := h
  have hl : es.size = kv.length := by have := congrArg List.length h2; simpa using this
  unfold Builtin.len_
  simp [Sem.run_bind, run_underlying ht, Result.andThen, run_getMap h1, Sem.run_pure, hl, goInt]

section
variable {ops : Array Oper} {rest : List Oper} {o : Oper} {a : Act} {Q : Exit → Act → World → Prop} {F : Fence} {nF : Nat} {W : World}
theorem at_update_in (hg : o.guard = none) (m x v : Operand) (t kt et : TypeId) (hop : o.op = Op.mapUpdate t m x v) (ht : P.underlying t = some (.map kt et)) (hk : P.underlying kt = some (.int .i64)) (M : Nat) (kv : List (Int × Value)) (k : Int) (val : Value)
    (hm : a.eval m = .map (some M)) (hx : a.eval x = .int .i64 k) (hv : a.eval v = val) (h : IsM W M kv) (hn : ∀ p ∈ kv, p.1 ≠ k)
    (hK : ∀ o', IsM (W.putObj M o') M (kv ++ [(k, val)]) → wpListIn F nF P ops Q rest (a.put o.dst undef) (W.putObj M o')) : wpListIn F nF P ops Q (o :: rest) a W := by
  refine wpListIn_plain hg fun K' hK' => ?_
  obtain ⟨o', hrun, r1⟩ := run_update h ht hk k val hn
  unfold Oper.wpIn
  refine ⟨by simp [Oper.about, hop], ?_⟩
  rw [Oper.semAt_plain F _ _ (by rw [hop]; intro c hc'; cases hc')]
  simp [execOp, hop, hm, hx, hv, hrun, Result.andThen]
  exact hK' _ _ (hK o' r1)
end
end Go.Proofs.Ytnlnglfjehohpaa.MU
