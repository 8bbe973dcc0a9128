/- What an argument's reading opens to: rows of numbers, bools, structs, slices of these, as the words of kinds tell them. No condition. -/
import Derived.Test.YthcikbbglpdjhaaWMore
import Derived.ProofKit
import Derived.OpenShut
import Derived.Deep.Slices
namespace Go.Proofs.YthcikbbglpdjhaaW
open Go.RowKit Go.Proofs.YthcikbbglpdjhaaW.PrintWords
variable {α β : Type}
/-- Every reading at type t is one that d tells, of a good value. -/
def Opens (P : Program) (t : TypeId) (d : Kd α) (good : α → Prop) : Prop :=
  ∀ (H : Type) (enc : TypeId × Value → H) (w : World) (fuel : Nat) (cs : List Value) (x : DataW H × List MemPlace), DataW.trod enc P w 0 (fun _ => true) true fuel t cs = some x → ∃ a, d.K w a cs ∧ good a

theorem opens_int {P : Program} {t : TypeId} {k : IntKind} (ht : P.underlying t = some (.int k)) : Opens P t (Kd.int k) (fun n => (Lit.int k n).wf = true) := by
  intro H enc w fuel cs x h
  obtain ⟨n, rfl, _, hw⟩ := DataW.trod_int ht h
  exact ⟨n, rfl, hw⟩

theorem addr_add_add (a : Addr) (x y : Nat) : (a.add x).add y = a.add (x + y) := by
  unfold Addr.add
  by_cases h1 : x = 0 <;> by_cases h2 : y = 0 <;> simp [h1, h2, Nat.add_assoc]

theorem opens_slice {P : Program} {t e : TypeId} {d : Kd α} {good : α → Prop} (ht : P.underlying t = some (.slice e)) (hs : P.cellsOf e = d.sz) (he : Opens P e d good) :
    Opens P t (Kd.slice e d) (fun xs => ∀ x ∈ xs, good x) := by
  intro H enc w fuel cs x h
  rcases Go.Deep.open_slice ht h with ⟨rfl, _⟩ | ⟨a, len, cap, m, n, D, Pl, rfl, hb, hl, hm, hme, _, hc⟩
  · exact ⟨[], ⟨none, 0, rfl, Nat.le_refl _, ⟨rfl, by simp, fun h => absurd h (by simp)⟩⟩, by simp⟩
  · have hm' : m = cap := by simpa using hme
    have each : ∀ i : Fin len, ∃ z, (∃ cs', w.cells? 0 (a.add (i.val * P.cellsOf e)) (P.cellsOf e) = some cs' ∧ d.K w z cs') ∧ good z := by
      intro i
      obtain ⟨cs', h1, h2⟩ := hc i (by omega)
      obtain ⟨z, hz, hg⟩ := he H enc w n cs' _ h2
      exact ⟨z, ⟨cs', h1, hz⟩, hg⟩
    have hx : ∃ f : Fin len → α, ∀ i : Fin len, (∃ cs', w.cells? 0 (a.add (i.val * P.cellsOf e)) (P.cellsOf e) = some cs' ∧ d.K w (f i) cs') ∧ good (f i) := ⟨fun i => (each i).choose, fun i => (each i).choose_spec⟩
    obtain ⟨f, hf⟩ := hx
    refine ⟨List.ofFn f, ⟨some a, cap, by simp, by simpa using hl, ?_⟩, ?_⟩
    · refine ⟨rfl, by simp; unfold maxLen at hm; omega, fun _ => ⟨a, rfl, fun j p hj => ?_⟩⟩
      rw [List.getElem?_ofFn] at hj
      split at hj
      · rename_i hlt
        injection hj with hj
        subst hj
        obtain ⟨⟨cs', h1, h2⟩, _⟩ := hf ⟨j, hlt⟩
        refine ⟨cs', d.K_len h2, h2, fun i u hu => ?_⟩
        obtain ⟨_, h3, h4⟩ := World.cells?_some h1
        have hi : i < cs'.length := (List.getElem?_eq_some_iff.1 hu).1
        have h5 := h4 i (by omega)
        rw [addr_add_add, hs] at h5
        rw [h5]; exact hu
      · cases hj
    · intro x hx
      obtain ⟨i, rfl⟩ := List.mem_ofFn.1 hx
      exact (hf i).2

/-- The fields from offset o on. -/
def OpensFs (P : Program) (fs : List Field) (o : Nat) (d : Kd α) (good : α → Prop) : Prop :=
  ∀ (H : Type) (enc : TypeId × Value → H) (w : World) (n : Nat) (cs : List Value), cs.length = o + d.sz → (∀ f ∈ fs, ∃ y, DataW.trod enc P w 0 (fun _ => true) true n f.type ((cs.drop f.offset).take (P.cellsOf f.type)) = some y) → ∃ a, d.K w a (cs.drop o) ∧ good a

theorem opensFs_one {P : Program} {f : Field} {o : Nat} {d : Kd α} {good : α → Prop} (ho : f.offset = o) (hs : P.cellsOf f.type = d.sz) (h : Opens P f.type d good) : OpensFs P [f] o d good := by
  intro H enc w n cs hl hf
  obtain ⟨y, hy⟩ := hf f (List.mem_singleton.2 rfl)
  obtain ⟨a, ha, hg⟩ := h H enc w n _ y hy
  refine ⟨a, ?_, hg⟩
  rw [ho, hs, List.take_of_length_le (by rw [List.length_drop]; omega)] at ha
  exact ha
theorem opensFs_cons {P : Program} {f : Field} {fs : List Field} {o : Nat} {d : Kd α} {d' : Kd β} {good : α → Prop} {good' : β → Prop} (ho : f.offset = o) (hs : P.cellsOf f.type = d.sz) (h : Opens P f.type d good) (h' : OpensFs P fs (o + d.sz) d' good') :
    OpensFs P (f :: fs) o (Kd.pair d d') (fun x => good x.1 ∧ good' x.2) := by
  intro H enc w n cs hl hf
  obtain ⟨y, hy⟩ := hf f List.mem_cons_self
  obtain ⟨a, ha, hg⟩ := h H enc w n _ y hy
  have hl' : cs.length = o + (d.sz + d'.sz) := hl
  obtain ⟨b, hb, hg'⟩ := h' H enc w n cs (by omega) (fun g hg => hf g (List.mem_cons_of_mem _ hg))
  refine ⟨(a, b), ⟨(cs.drop o).take d.sz, (cs.drop o).drop d.sz, (List.take_append_drop _ _).symm, ?_, ?_⟩, hg, hg'⟩
  · rw [ho, hs] at ha; exact ha
  · rw [List.drop_drop]; exact hb
theorem opens_struct {P : Program} {t : TypeId} {fs : Array Field} {d : Kd α} {good : α → Prop} (ht : P.underlying t = some (.struct fs)) (hs : P.cellsOf t = d.sz) (h : OpensFs P fs.toList 0 d good) : Opens P t d good := by
  intro H enc w fuel cs x hx
  obtain ⟨xs, n, _, _, hl, hlen, hf⟩ := DataW.trod_struct ht hx
  obtain ⟨a, ha, hg⟩ := h H enc w n cs (by omega) (fun f hf' => by
    obtain ⟨i, hi⟩ := List.getElem?_of_mem hf'
    have hi' : fs[i]? = some f := by simpa using hi
    have hlt : i < xs.length := by rw [hlen]; exact (Array.getElem?_eq_some_iff.1 hi').1
    exact ⟨xs[i], by rw [hf i f hi', List.getElem?_eq_getElem hlt]⟩)
  exact ⟨a, by simpa using ha, hg⟩
theorem opens_iso {P : Program} {t : TypeId} {d : Kd α} {good : α → Prop} (f : β → α) (g : α → β) (hfg : ∀ a, f (g a) = a) (h : Opens P t d good) : Opens P t (Kd.iso d f) (fun x => good (f x)) := by
  intro H enc w fuel cs x hx
  obtain ⟨a, ha, hg⟩ := h H enc w fuel cs x hx
  exact ⟨g a, by show d.K w (f (g a)) cs; rw [hfg]; exact ha, by show good (f (g a)); rw [hfg]; exact hg⟩

theorem open_agg {H : Type} {enc : TypeId × Value → H} {P : Program} {W : World} {t : TypeId} {d : Kd α} {good : α → Prop} (h : Opens P t d good) {cs : Array Value} {x : DataW H} {ps : List MemPlace}
    (ht : DataW.Trod enc P W 0 (fun _ => true) true t (.agg cs) x ps) : ∃ a : α, d.K W a cs.toList ∧ good a := by
  obtain ⟨fuel, hf⟩ := ht
  exact h H enc W fuel _ _ hf
end Go.Proofs.YthcikbbglpdjhaaW
