/- Maps whose keys obey a key law (structs of whole numbers and Bools), entry by entry. No condition beyond the law. -/
import Derived.Test.YtnlnglfjehohpaaMU
import Derived.WideKeyEntry
import Derived.DeepKeys5
import Derived.Maps.Keyed
namespace Go.Proofs.Ytnlnglfjehohpaa.MS
open Go Go.RowKit
open Go.WideMaps (KeyLaw)
open Go.WideElems (findIdx_born findIdx_arr modify_last set_self)
set_option linter.unusedVariables false
set_option linter.unusedSimpArgs false

structure IsK (P : Program) (k : TypeId) (W : World) (M : Nat) (es : Array MapEntry) (c : Nat) (kv : List (Value × Value)) : Prop where
  at_ : W.heap[M]? = some (.map es c)
  kv_ : es.toList.map (fun e => (e.key, e.val)) = kv
  born : ∀ e ∈ es.toList, e.born < c
  nod : (es.toList.map (·.born)).Nodup
  keys : ∀ e ∈ es.toList, ∃ l, keyOf P k e.key = some l
/-- The map in block M holds kv. -/
def Is (P : Program) (k : TypeId) (W : World) (M : Nat) (kv : List (Value × Value)) : Prop := ∃ es c, IsK P k W M es c kv
variable {P : Program} {k : TypeId} {W : World} {M : Nat} {kv : List (Value × Value)}
theorem Is.made (h : W.heap[M]? = some (.map #[] 0)) : Is P k W M [] := ⟨#[], 0, h, rfl, by simp, by simp, by simp⟩
theorem Is.same {W' : World} (h : Is P k W M kv) (hs : W'.heap[M]? = W.heap[M]?) : Is P k W' M kv := by
  obtain ⟨es, c, h1, h2, h3, h4, h5⟩ := h
  exact ⟨es, c, hs.trans h1, h2, h3, h4, h5⟩
theorem Is.lt (h : Is P k W M kv) : M < W.heap.size := by
  obtain ⟨es, c, h1, _⟩ := h
  exact (Array.getElem?_eq_some_iff.1 h1).1
theorem run_lookup (K : Go.Maps.Keyed P k) {t e : TypeId} (h : Is P k W M kv) (ht : P.underlying t = some (.map k e)) {z : Value} (hz : (zeroValue e).run P W = .ok z W) {x : Value} {l : Lit} (hkey : keyOf P k x = some l) :
    (∃ (j : Nat) (v : Value), kv[j]? = some (x, v) ∧ (Instr.lookup t (.map (some M)) x false).run P W = .ok v W) ∨ ((∀ p ∈ kv, p.1 ≠ x) ∧ (Instr.lookup t (.map (some M)) x false).run P W = .ok z W) := by
  obtain ⟨es, c, h1, h2, h3, h4, h5⟩ := h
  rcases K.find W hkey es.toList h5 with ⟨f1, f2⟩ | ⟨j, e0, f1, f2, f3⟩
  · right
    refine ⟨fun p hp => ?_, ?_⟩
    · rw [← h2] at hp
      obtain ⟨e1, he1, rfl⟩ := List.mem_map.1 hp
      exact f2 e1 he1
    · simp [Instr.lookup, run_underlying ht, MU.run_getMap h1, K.check W _ hkey, f1, hz, Result.andThen]
  · left
    refine ⟨j, e0.val, by rw [← h2, List.getElem?_map, f2, ← f3]; rfl, ?_⟩
    simp [Instr.lookup, run_underlying ht, MU.run_getMap h1, K.check W _ hkey, f1, Result.andThen]
theorem kv_set {es : Array MapEntry} {j : Nat} {e0 : MapEntry} (h : es.toList[j]? = some e0) (val : Value) : (es.modify j (fun e => { e with val := val })).toList.map (fun e => (e.key, e.val)) = (es.toList.map (fun e => (e.key, e.val))).set j (e0.key, val) := by
  rw [Array.toList_modify]
  apply List.ext_getElem?
  intro i
  rw [List.getElem?_map, List.getElem?_modify, List.getElem?_set]
  by_cases hi : j = i
  · subst hi
    have hl : j < es.toList.length := by obtain ⟨h', _⟩ := List.getElem?_eq_some_iff.1 h; exact h'
    simp [h, hl]
    simpa using hl
  · simp [hi]
theorem modify_keep {es : Array MapEntry} {j : Nat} (val : Value) (f : MapEntry → Prop) (hf : ∀ e, f e → f { e with val := val }) (h : ∀ e ∈ es.toList, f e) : ∀ e ∈ (es.modify j (fun e => { e with val := val })).toList, f e := by
  intro e he
  rw [Array.toList_modify] at he
  obtain ⟨i, hi, rfl⟩ := List.mem_iff_getElem.1 he
  rw [List.getElem_modify]
  by_cases hj : j = i
  · simp only [hj, if_true]; exact hf _ (h _ (List.getElem_mem _))
  · simp only [hj, if_false]; exact h _ (List.getElem_mem _)
theorem modify_born {es : Array MapEntry} {j : Nat} (val : Value) : (es.modify j (fun e => { e with val := val })).toList.map (·.born) = es.toList.map (·.born) := by
  rw [Array.toList_modify]
  apply List.ext_getElem?
  intro i
  rw [List.getElem?_map, List.getElem?_modify, List.getElem?_map]
  by_cases hj : j = i
  · subst hj; cases es.toList[j]? <;> simp
  · cases es.toList[i]? <;> simp [hj]
theorem IsK.set {es : Array MapEntry} {c : Nat} (h : IsK P k W M es c kv) {j : Nat} {e0 : MapEntry} (hj : es.toList[j]? = some e0) (val : Value) (W2 : World) (hM : M < W2.heap.size) :
    Is P k (W2.putObj M (.map (es.modify j (fun e => { e with val := val })) c)) M (kv.set j (e0.key, val)) := by
  refine ⟨_, c, World.putObj_heap_same hM, ?_, ?_, ?_, ?_⟩
  · rw [kv_set hj, h.kv_]
  · exact modify_keep val (fun e => e.born < c) (fun e he => he) h.born
  · rw [modify_born]; exact h.nod
  · exact modify_keep val (fun e => ∃ l, keyOf P k e.key = some l) (fun e he => he) h.keys
theorem IsK.push {es : Array MapEntry} {c : Nat} (h : IsK P k W M es c kv) {x : Value} {l : Lit} (hkey : keyOf P k x = some l) (val : Value) (W2 : World) (hM : M < W2.heap.size) :
    Is P k (W2.putObj M (.map (es.push ⟨x, val, c⟩) (c + 1))) M (kv ++ [(x, val)]) := by
  refine ⟨_, _, World.putObj_heap_same hM, ?_, ?_, ?_, ?_⟩
  · rw [Array.toList_push, List.map_append, h.kv_]; rfl
  · intro e he
    rw [Array.toList_push] at he
    rcases List.mem_append.1 he with he | he
    · have := h.born e he; omega
    · rw [List.mem_singleton.1 he]; exact Nat.lt_succ_self _
  · rw [Array.toList_push, List.map_append]
    refine List.nodup_append.2 ⟨h.nod, by simp, fun a ha b hb e1 => ?_⟩
    simp only [List.map_cons, List.map_nil, List.mem_singleton] at hb
    obtain ⟨y, hy, rfl⟩ := List.mem_map.1 ha
    have := h.born y hy
    omega
  · intro e he
    rw [Array.toList_push] at he
    rcases List.mem_append.1 he with he | he
    · exact h.keys e he
    · rw [List.mem_singleton.1 he]; exact ⟨l, hkey⟩
/-- A key that is there is stored into. -/
theorem run_update_old (K : Go.Maps.Keyed P k) {t e : TypeId} (h : Is P k W M kv) (ht : P.underlying t = some (.map k e)) {x : Value} {l : Lit} (hkey : keyOf P k x = some l) (hin : ∃ p ∈ kv, p.1 = x) (val : Value) :
    ∃ (j : Nat) (v0 : Value) (o : Obj), kv[j]? = some (x, v0) ∧ (Instr.mapUpdate t (.map (some M)) x val).run P W = .ok () (W.putObj M o) ∧ Is P k (W.putObj M o) M (kv.set j (x, val)) := by
  obtain ⟨es, c, hK⟩ := h
  have h1 := hK.at_
  rcases K.find W hkey es.toList hK.keys with ⟨f1, f2⟩ | ⟨j, e0, f1, f2, f3⟩
  · obtain ⟨p, hp, rfl⟩ := hin
    rw [← hK.kv_] at hp
    obtain ⟨e1, he1, he2⟩ := List.mem_map.1 hp
    exact absurd (by rw [← he2]) (f2 e1 he1)
  · have hj : es[j]? = some e0 := by simpa using f2
    have hmod : es.modify j (fun e' => { e' with key := x, val := val }) = es.modify j (fun e => { e with val := val }) := by
      apply Array.ext'
      rw [Array.toList_modify, Array.toList_modify, List.modify_eq_set, List.modify_eq_set, f2, ← f3]
      rfl
    have hs := hK.set f2 val W (Array.getElem?_eq_some_iff.1 h1).1
    rw [f3] at hs
    refine ⟨j, e0.val, .map (es.modify j (fun e => { e with val := val })) c, by rw [← hK.kv_, List.getElem?_map, f2, ← f3]; rfl, ?_, hs⟩
    simp [Instr.mapUpdate, run_underlying ht, MU.run_getMap h1, K.check W false hkey, f1, hj, f3, K.stays W hkey, hmod, MU.run_setMap h1, Result.andThen]
/-- A key that is not there is laid. -/
theorem run_update_new (K : Go.Maps.Keyed P k) {t e : TypeId} (h : Is P k W M kv) (ht : P.underlying t = some (.map k e)) {x : Value} {l : Lit} (hkey : keyOf P k x = some l) (hno : ∀ p ∈ kv, p.1 ≠ x) (val : Value) :
    ∃ o : Obj, (Instr.mapUpdate t (.map (some M)) x val).run P W = .ok () (W.putObj M o) ∧ Is P k (W.putObj M o) M (kv ++ [(x, val)]) := by
  obtain ⟨es, c, hK⟩ := h
  have h1 := hK.at_
  rcases K.find W hkey es.toList hK.keys with ⟨f1, f2⟩ | ⟨j, e0, f1, f2, f3⟩
  · refine ⟨.map (es.push ⟨x, val, c⟩) (c + 1), ?_, hK.push hkey val W (Array.getElem?_eq_some_iff.1 h1).1⟩
    simp [Instr.mapUpdate, run_underlying ht, MU.run_getMap h1, K.check W false hkey, f1, MU.run_setMap h1, Result.andThen]
  · exact absurd f3 (hno (e0.key, e0.val) (by rw [← hK.kv_]; exact List.mem_map.2 ⟨e0, List.mem_of_getElem? f2, rfl⟩))
end Go.Proofs.Ytnlnglfjehohpaa.MS
