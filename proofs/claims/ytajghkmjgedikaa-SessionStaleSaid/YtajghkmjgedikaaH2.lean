import Derived.Test.YtajghkmjgedikaaH1
import Derived.Test.YtajghkmjgedikaaQ1
import Derived.Deep.MidRow
import Derived.WideMake
namespace Go.Proofs.Ytajghkmjgedikaa.Q
open Go.RowKit Go.Proofs.YtajghkmjgedikaaW Go.Proofs.YtajghkmjgedikaaW.PrintWords Go.Proofs.YtajghkmjgedikaaW.PrintLast Go.Proofs.YtajghkmjgedikaaW.PrintMore
set_option linter.unusedVariables false
set_option linter.unusedSimpArgs false

theorem load_all {W : World} {g : Nat} {t u : TypeId} {cs : Array Value} {d : TypeDesc} (hb : W.heap[g]? = some (.cells cs t (0, 0))) (hu : Try.prog.underlying u = some d) (hd : d.isRow = true) (hi : (Try.prog.info? u).map (·.size) = some cs.size) :
    W.rangeAt g 0 cs.toList ∧ (Instr.loadAt u (.pointer (some ⟨g, 0, none⟩))).run Try.prog W = .ok (.agg cs) W := by
  have hr : W.rangeAt g 0 cs.toList := by
    intro j v hv
    rw [Nat.zero_add, blk_cell hb j, ← hv]
    simp
  refine ⟨hr, ?_⟩
  have := run_loadAt_mid (P := Try.prog) W g 0 u cs.toList d hr hu hd (by simpa using hi)
  simpa using this

theorem run_slot (cs : Array Value) (k : Nat) (hk : k < 16) (a b c : Value) (e1 : cs[k * 3]? = some a) (e2 : cs[k * 3 + 1]? = some b) (e3 : cs[k * 3 + 2]? = some c) (w : World) :
    (Instr.index 26 (.agg cs) (.int .i64 (k : Int))).run Try.prog w = .ok (.agg #[a, b, c]) w := by
  have hx : cs.extract (k * 3) (k * 3 + 3) = #[a, b, c] := by
    apply Array.ext_getElem?
    intro i
    rw [Array.getElem?_extract]
    by_cases h3 : k * 3 + 2 < cs.size
    · match i with
      | 0 => rw [if_pos (by omega), Nat.add_zero, e1]; rfl
      | 1 => rw [if_pos (by omega), e2]; rfl
      | 2 => rw [if_pos (by omega), e3]; rfl
      | i + 3 => rw [if_neg (by omega)]; simp
    · rw [Array.getElem?_eq_none (by omega)] at e3; cases e3
  have h0 : (0 : Int) ≤ (k : Int) ∧ (k : Int) < 16 := by omega
  simp [Instr.index, run_underlying Try.underlying26, asIntOf, h0, go_sem]
  rw [if_pos hk, hx]

end Go.Proofs.Ytajghkmjgedikaa.Q
