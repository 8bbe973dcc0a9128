/- What an argument's reading opens to: rows of numbers, bools, structs, slices of these, as the words of kinds tell them. No condition. -/
import Derived.Test.YthcikbbglpdjhaaWMore
import Derived.ProofKit
import Derived.OpenShut
import Derived.Deep.Slices
namespace Go.Proofs.YthcikbbglpdjhaaW
open Go.RowKit Go.Proofs.YthcikbbglpdjhaaW.PrintWords
variable {α β : Type}
/-- Every reading at type t is one that d tells, of a good value. -/
def Opens (P : Program) (t : TypeId) (d : Kd α) (good : α → Prop) : Prop :=
  ∀ (H : Type) (enc : TypeId × Value → H) (w : World) (fuel : Nat) (cs : List Value) (x : DataW H × List MemPlace), DataW.trod enc P w 0 (fun _ => true) true fuel t cs = some x → ∃ a, d.K w a cs ∧ good a

theorem opens_int {P : Program} {t : TypeId} {k : IntKind} (ht : P.underlying t = some (.int k)) : Opens P t (Kd.int k) (fun n => (Lit.int k n).wf = true) := by
  intro H enc w fuel cs x h
  obtain ⟨n, rfl, _, hw⟩ := DataW.trod_int ht h
  exact ⟨n, rfl, hw⟩

theorem addr_add_add (a : Addr) (x y : Nat) : (a.add x).add y = a.add (x + y) := by
  unfold Addr.add
  by_cases h1 : x = 0 <;> by_cases h2 : y = 0 <;> simp [h1, h2, Nat.add_assoc]

theorem opens_slice {P : Program} {t e : TypeId} {d : Kd α} {good : α → Prop} (ht : P.underlying t = some (.slice e)) (hs : P.cellsOf e = d.sz) (he : Opens P e d good) :
    Opens P t (Kd.slice e d) (fun xs => ∀ x ∈ xs, good x) := by
  intro H enc w fuel cs x h
  rcases Go.Deep.open_slice ht h with ⟨rfl, _⟩ | ⟨a, len, cap, m, n, D, Pl, rfl, hb, hl, hm, hme, _, hc⟩
  · exact ⟨[], ⟨none, 0, rfl, Nat.le_refl _, ⟨rfl, by simp, fun h => absurd h (by simp)⟩⟩, by simp⟩
  · have hm' : m = cap := by simpa using hme
    have each : ∀ i : Fin len, ∃ z, (∃ cs', w.cells? 0 (a.add (i.val * P.cellsOf e)) (P.cellsOf e) = some cs' ∧ d.K w z cs') ∧ good z := by
      intro i
      obtain ⟨cs', h1, h2⟩ := hc i (by omega)
      obtain ⟨z, hz, hg⟩ := he H enc w n cs' _ h2
      exact ⟨z, ⟨cs', h1, hz⟩, hg⟩
    have hx : ∃ f : Fin len → α, ∀ i : Fin len, (∃ cs', w.cells? 0 (a.add (i.val * P.cellsOf e)) (P.cellsOf e) = some cs' ∧ d.K w (f i) cs') ∧ good (f i) := ⟨fun i => (each i).choose, fun i => (each i).choose_spec⟩
    obtain ⟨f, hf⟩ := hx
    refine ⟨List.ofFn f, ⟨some a, cap, by simp, by simpa using hl, ?_⟩, ?_⟩
    · refine ⟨rfl, by simp; unfold maxLen at hm; omega, fun _ => ⟨a, rfl, fun j p hj => ?_⟩⟩
      rw [List.getElem?_ofFn] at hj
      split at hj
      · rename_i hlt
        injection hj with hj
        subst hj
        obtain ⟨⟨cs', h1, h2⟩, _⟩ := hf ⟨j, hlt⟩
        refine ⟨cs', d.K_len h2, h2, fun i u hu => ?_⟩
        obtain ⟨_, h3, h4⟩ := World.cells?_some h1
        have hi : i < cs'.length := (List.getElem?_eq_some_iff.1 hu).1
        have h5 := h4 i (by omega)
        rw [addr_add_add, hs] at h5
        rw [h5]; exact hu
      · cases hj
    · intro x hx
      obtain ⟨i, rfl⟩ := List.mem_ofFn.1 hx
      exact (hf i).2

/-- A slice argument, opened. -/
theorem open_row {H : Type} {enc : TypeId × Value → H} {P : Program} {W : World} {t e : TypeId} {d : Kd α} {good : List α → Prop} (h : Opens P t (Kd.slice e d) good) {A : Option Addr} {len cap : Nat} {x : DataW H} {ps : List MemPlace}
    (ht : DataW.Trod enc P W 0 (fun _ => true) true t (.slice A len cap) x ps) : ∃ l : List α, l.length = len ∧ len ≤ cap ∧ d.C W A l.length l ∧ good l := by
  obtain ⟨fuel, hf⟩ := ht
  obtain ⟨l, ⟨A', c', e', h1, h2⟩, hg⟩ := h H enc W fuel _ _ hf
  have e' : [Value.slice A len cap] = [Value.slice A' l.length c'] := e'
  injection e' with e' _
  injection e' with e1 e2 e3
  subst e1 e2 e3
  exact ⟨l, rfl, h1, h2, hg⟩
end Go.Proofs.YthcikbbglpdjhaaW
