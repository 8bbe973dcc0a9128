/- How two pends compare, plain; and what order answers. No condition. -/
import Derived.Test.YtdnkbmjlcdddcaaQ6
import Derived.Test.YtdnkbmjlcdddcaaEV
namespace Go.Proofs.Ytdnkbmjlcdddcaa.Q
open Go.RowKit Go.Proofs.YtdnkbmjlcdddcaaW Go.Proofs.YtdnkbmjlcdddcaaW.PrintWords
set_option linter.unusedVariables false
set_option linter.unusedSimpArgs false
def cmpI (a b : Int) : Int := if a < b then -1 else if a > b then 1 else 0
def cmpP (a b : S83) : Int := if cmpI a.f0 b.f0 ≠ 0 then cmpI a.f0 b.f0 else cmpI a.f1 b.f1
theorem cmpP_lt (a b : S83) : cmpP a b < 0 ↔ a.f0 < b.f0 ∨ (a.f0 = b.f0 ∧ a.f1 < b.f1) := by
  unfold cmpP cmpI
  (repeat' split) <;> simp_all <;> omega
theorem cmpP_eq (a b : S83) : cmpP a b = 0 ↔ a.f0 = b.f0 ∧ a.f1 = b.f1 := by
  unfold cmpP cmpI
  (repeat' split) <;> simp_all <;> omega
theorem cmpP_trans {a b c : S83} (h1 : cmpP a b < 0) (h2 : cmpP b c < 0) : cmpP a c < 0 := by
  rw [cmpP_lt] at *; omega
theorem compare_val (a b : Int) : cmp_Compare_int.f a b = some (cmpI a b) := by
  unfold cmp_Compare_int.f cmp_isNaN_int.f cmpI
  simp only [bne_self_eq_false, Option.bind_some]
  rw [if_neg (by decide), if_neg (by decide)]
  (repeat' split) <;> rfl
theorem or_ev (a b : Int) : Evals (fun k => cmp_Or_int.f k [a, b]) (if a ≠ 0 then a else b) := by
  unfold cmp_Or_int.f
  refine Evals.succ ?_
  by_cases ha : a = 0
  · refine Evals.congr (h := fun k => cmp_Or_int.l0 k 0 [a, b] 2 1) (fun k => by simp [cmp_Or_int.l0, rd, ha, wrap64]) ?_
    refine Evals.succ ?_
    by_cases hb : b = 0
    · refine Evals.congr (h := fun k => cmp_Or_int.l0 k 0 [a, b] 2 2) (fun k => by simp [cmp_Or_int.l0, rd, hb, wrap64]) ?_
      refine Evals.succ ?_
      refine Evals.of (fun k => by simp [cmp_Or_int.l0, ha, hb])
    · refine Evals.of (fun k => by simp [cmp_Or_int.l0, rd, ha, hb])
  · refine Evals.of (fun k => by simp [cmp_Or_int.l0, rd, ha])
theorem order_ev (a b : S83) : Evals (fun k => escrow_order.f k a.f0 a.f1 a.f2 a.f3 b.f0 b.f1 b.f2 b.f3) (cmpP a b) := by
  unfold escrow_order.f
  refine Evals.bind (Evals.of fun _ => compare_val _ _) ?_
  refine Evals.bind (Evals.of fun _ => compare_val _ _) ?_
  refine Evals.bind (or_ev _ _) ?_
  exact Evals.const _
theorem order_any (a b : S83) (w : World) : Calls Try.prog 38 #[.agg #[.int .i64 a.f0, .int .i64 a.f1, .int .i64 a.f2, .int .i64 a.f3], .agg #[.int .i64 b.f0, .int .i64 b.f1, .int .i64 b.f2, .int .i64 b.f3]] w fun e w' => e = .returned (.int .i64 (cmpP a b)) ∧ Below w.heap.size w w' := by
  obtain ⟨k, hk⟩ := (order_ev a b).get
  exact escrow_order.calls k _ _ _ _ _ _ _ _ _ w hk
/-- Where one belongs among pends that are in order. -/
def Srt (l : List S83) : Prop := l.Pairwise (fun a b => cmpP a b < 0)
instance (l : List S83) : Decidable (Srt l) := by unfold Srt; infer_instance
def posP (l : List S83) (t : S83) : Nat := (l.takeWhile (fun x => decide (cmpP x t < 0))).length
theorem posP_eq : ∀ (l : List S83) (t : S83) (i : Nat) (hi : i ≤ l.length), (∀ m (hm : m < i), cmpP (l[m]'(by omega)) t < 0) → (∀ h : i < l.length, ¬ cmpP l[i] t < 0) → posP l t = i
  | [], t, i, hi, _, _ => by simp at hi; subst hi; rfl
  | x :: l, t, 0, hi, _, h2 => by
    have := h2 (by simp)
    simp only [List.getElem_cons_zero] at this
    unfold posP
    rw [List.takeWhile_cons, decide_eq_false this]; rfl
  | x :: l, t, i + 1, hi, h1, h2 => by
    have h0 := h1 0 (by omega)
    simp only [List.getElem_cons_zero] at h0
    have ih := posP_eq l t i (by simpa using hi) (fun m hm => by have := h1 (m + 1) (by omega); simpa using this) (fun h => by have := h2 (by simpa using h); simpa using this)
    unfold posP at ih ⊢
    rw [List.takeWhile_cons, decide_eq_true h0, if_pos rfl, List.length_cons, ih]
theorem Srt.mono {l : List S83} (h : Srt l) (t : S83) {i j : Nat} (hj : j < l.length) (hij : i < j) (ht : cmpP l[j] t < 0) : cmpP (l[i]'(by omega)) t < 0 :=
  cmpP_trans (List.pairwise_iff_getElem.1 h i j (by omega) hj hij) ht
end Go.Proofs.Ytdnkbmjlcdddcaa.Q
