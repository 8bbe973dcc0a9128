/- What awake answers, and small words about the counters. No condition. -/
import Derived.Test.YtdnkbmjlcdddcaaYP
import Derived.Test.YtdnkbmjlcdddcaaQW
import Derived.Test.YtdnkbmjlcdddcaaB
namespace Go.Proofs.Ytdnkbmjlcdddcaa.Q
open Go.RowKit Go.Proofs.YtdnkbmjlcdddcaaW Go.Proofs.YtdnkbmjlcdddcaaW.PrintWords
set_option linter.unusedVariables false
set_option linter.unusedSimpArgs false
theorem LeO.up {α : Type} {g : Nat → Option α} (h : ∀ k, LeO (g k) (g (k + 1))) {K : Nat} {r : α} (hr : g K = some r) : ∀ n, g (K + n) = some r
  | 0 => hr
  | n + 1 => h _ _ (LeO.up h hr n)
theorem Evals.mono {α : Type} {g : Nat → Option α} (h : ∀ k, LeO (g k) (g (k + 1))) {K : Nat} {r : α} (hr : g K = some r) : Evals g r :=
  ⟨K, fun k hk => by have := LeO.up h hr (k - K); rwa [show K + (k - K) = k by omega] at this⟩
theorem begin1 : Evals (fun k => tree_Begin.f k ([] : List (S74)) 0 (-1)) ([⟨-1, 1, 1, 0⟩], 1, 0, 0) := Evals.mono (K := 3) (fun k => tree_Begin.mono _ _ _ k) (by kernel_rfl)
theorem begin2 : Evals (fun k => tree_Begin.f k [⟨-1, 1, 1, 0⟩] 1 0) ([⟨-1, 1, 1, 0⟩, ⟨0, 1, 2, 0⟩], 2, 1, 0) := Evals.mono (K := 3) (fun k => tree_Begin.mono _ _ _ k) (by kernel_rfl)
theorem begin3 : Evals (fun k => tree_Begin.f k [⟨-1, 1, 1, 0⟩, ⟨0, 1, 2, 0⟩] 2 (-1)) ([⟨-1, 1, 1, 0⟩, ⟨0, 1, 2, 0⟩, ⟨-1, 1, 3, 0⟩], 3, 2, 0) := Evals.mono (K := 3) (fun k => tree_Begin.mono _ _ _ k) (by kernel_rfl)
set_option maxRecDepth 100000 in
theorem awake30 : heronrylaw13_awake.f 40 = some true := by kernel_rfl
theorem awake_ev : Evals heronrylaw13_awake.f true := Evals.mono heronrylaw13_awake.mono awake30
end Go.Proofs.Ytdnkbmjlcdddcaa.Q
