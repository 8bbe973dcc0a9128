/- What a printed loop answers, with rounds enough: small laws. No condition. -/
import Derived.RowKit
namespace Go.Proofs.Ythcikbbglpdjhaa.Q
open Go.RowKit
/-- With rounds enough, g answers r. -/
def Evals {α : Type} (g : Nat → Option α) (r : α) : Prop := ∃ K, ∀ k, K ≤ k → g k = some r
theorem Evals.of {α : Type} {g : Nat → Option α} {r : α} (h : ∀ k, g k = some r) : Evals g r := ⟨0, fun k _ => h k⟩
theorem Evals.succ {α : Type} {g : Nat → Option α} {r : α} (h : Evals (fun k => g (k + 1)) r) : Evals g r := by
  obtain ⟨K, hK⟩ := h
  refine ⟨K + 1, fun k hk => ?_⟩
  have : g (k - 1 + 1) = some r := hK (k - 1) (by omega)
  rwa [show k - 1 + 1 = k by omega] at this
theorem Evals.bind {α β : Type} {g : Nat → Option α} {h : Nat → α → Option β} {a : α} {r : β} (hg : Evals g a) (hh : Evals (fun k => h k a) r) : Evals (fun k => (g k).bind (h k)) r := by
  obtain ⟨K, hK⟩ := hg
  obtain ⟨J, hJ⟩ := hh
  refine ⟨max K J, fun k hk => ?_⟩
  show (g k).bind (h k) = some r
  rw [hK k (by omega), Option.bind_some]
  exact hJ k (by omega)
theorem Evals.congr {α : Type} {g h : Nat → Option α} {r : α} (e : ∀ k, g k = h k) (hh : Evals h r) : Evals g r := by
  obtain ⟨K, hK⟩ := hh
  exact ⟨K, fun k hk => (e k).trans (hK k hk)⟩
theorem Evals.get {α : Type} {g : Nat → Option α} {r : α} (h : Evals g r) : ∃ k, g k = some r := by
  obtain ⟨K, hK⟩ := h
  exact ⟨K, hK K (Nat.le_refl _)⟩
theorem w64_of {x : Int} (h0 : -9223372036854775808 ≤ x) (h1 : x ≤ 9223372036854775807) : wrap64 x = x := by unfold wrap64; omega
end Go.Proofs.Ythcikbbglpdjhaa.Q
