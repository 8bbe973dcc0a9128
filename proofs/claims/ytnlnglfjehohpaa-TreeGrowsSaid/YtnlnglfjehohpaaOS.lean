/- A map of slices of whole numbers by entries: what it holds, and how it moves. No condition beyond the entries' ranges. -/
import Derived.Test.YtnlnglfjehohpaaMS
import Derived.Test.YtnlnglfjehohpaaQ0
import Derived.Test.YtnlnglfjehohpaaMU
import Derived.Maps.AppendAt
import Derived.Test.YtnlnglfjehohpaaSK
namespace Go.Proofs.Ytnlnglfjehohpaa.Q
open Go.RowKit Go.Proofs.YtnlnglfjehohpaaW Go.Proofs.YtnlnglfjehohpaaW.PrintWords Go.Proofs.YtnlnglfjehohpaaW.PrintLast Go.Proofs.YtnlnglfjehohpaaW.PrintMore
open Go.WideMaps (KeyLaw)
set_option linter.unusedVariables false
set_option linter.unusedSimpArgs false

def inI (n : Int) : Bool := decide (-9223372036854775808 ≤ n ∧ n ≤ 9223372036854775807)
def encE (x : Int) : Value := .int .i64 x
theorem encE_inj {x y : Int} (h : encE x = encE y) : x = y := by
  unfold encE at h
  simpa using h
theorem key_law : Go.Maps.Keyed Try.prog 3 := Go.Maps.int_keyed Try.underlying3
theorem wf_of {n : Int} (h : inI n = true) : (Lit.int .i64 n).wf = true := by
  show (decide (IntKind.i64.min ≤ n) && decide (n ≤ IntKind.i64.max)) = true
  have h2 : IntKind.i64.min = -9223372036854775808 := by decide
  have h3 : IntKind.i64.max = 9223372036854775807 := by decide
  rw [h2, h3]
  unfold inI at h; simpa using h
theorem key_enc (x : Int) (h : inI x = true) : ∃ l, keyOf Try.prog 3 (encE x) = some l := by
  exact ⟨_, Go.Maps.keyOf_int_mk Try.underlying3 (wf_of h)⟩
theorem below_put {B r : Nat} {w D : World} (h : Below B w D) (hr : B ≤ r) (o : Obj) : Below B w (D.putObj r o) := ⟨h.os, h.tape, h.output, by simpa using h.size, fun k hk => (World.putObj_heap_other (by omega)).trans (h.block k hk)⟩
abbrev Ent := Int × Value × List Int
def iV (xs : List Int) : List Value := xs.map (Value.int .i64)
def upd (st : Int → List Int) (x : Int) (v : List Int) : Int → List Int := fun y => if y = x then v else st y
/-- The map in block M: each entry's numbers lie in a row of the call's own, no two in one. -/
structure Stk (W : World) (base M : Nat) (l : List Ent) (st : Int → List Int) : Prop where
  map : MS.Is Try.prog 3 W M (l.map fun t => (encE t.1, t.2.1))
  own : ∀ t ∈ l, W.ownsRow base 3 1 t.2.1 t.2.2.length (iV t.2.2)
  key : l.Pairwise (fun a b => a.1 ≠ b.1)
  apart : l.Pairwise (fun a b => a.2.1.ownBlock = none ∨ a.2.1.ownBlock ≠ b.2.1.ownBlock)
  low : M < base
  hi : base ≤ W.heap.size
  has : ∀ t ∈ l, st t.1 = t.2.2
  no : ∀ x, (∀ t ∈ l, t.1 ≠ x) → st x = []
theorem owns_move {W W' : World} {base : Nat} {e : TypeId} {size : Nat} {v : Value} {n : Nat} {xs : List Value} (h : W.ownsRow base e size v n xs) (hg : ∀ g, base ≤ g → g < W.heap.size → W'.heap[g]? = W.heap[g]?) : W'.ownsRow base e size v n xs := by
  obtain ⟨h1, h2⟩ := h
  refine ⟨h1, ?_⟩
  rcases h2 with h2 | ⟨g, cap, cur, rfl, hb, hh, r⟩
  · exact .inl h2
  · exact .inr ⟨g, cap, cur, rfl, hb, (hg g hb (Array.getElem?_eq_some_iff.1 hh).1).trans hh, r⟩
theorem Stk.move {W W' : World} {base M : Nat} {l : List Ent} {st : Int → List Int} (h : Stk W base M l st) (hM : W'.heap[M]? = W.heap[M]?) (hg : ∀ g, base ≤ g → g < W.heap.size → W'.heap[g]? = W.heap[g]?) (hs : W.heap.size ≤ W'.heap.size) : Stk W' base M l st :=
  ⟨h.map.same hM, fun t ht => owns_move (h.own t ht) hg, h.key, h.apart, h.low, Nat.le_trans h.hi hs, h.has, h.no⟩
theorem Stk.start {W : World} {base M : Nat} (h : W.heap[M]? = some (.map #[] 0)) (hl : M < base) (hi : base ≤ W.heap.size) : Stk W base M [] (fun _ => []) :=
  ⟨MS.Is.made h, by simp, List.Pairwise.nil, List.Pairwise.nil, hl, hi, by simp, fun _ _ => rfl⟩
theorem mem_kv {l : List Ent} {j : Nat} {x : Int} {v : Value} (h : (l.map fun t => (encE t.1, t.2.1))[j]? = some (encE x, v)) : ∃ xs, l[j]? = some (x, v, xs) := by
  rw [List.getElem?_map] at h
  cases hj : l[j]? with
  | none => rw [hj] at h; cases h
  | some t =>
    rw [hj] at h
    simp only [Option.map_some, Option.some.injEq, Prod.mk.injEq] at h
    obtain ⟨t1, t2, t3⟩ := t
    obtain ⟨h1, h2⟩ := h
    have := encE_inj h1
    simp only at this h2
    subst this; subst h2
    exact ⟨t3, rfl⟩
set_option maxRecDepth 100000 in
theorem zero28 (W : World) : (zeroValue 28).run Try.prog W = .ok (.slice none 0 0) W := by rfl
theorem pairwise_set {α : Type} {R : α → α → Prop} (hsym : ∀ a b, R a b → R b a) {l : List α} (h : l.Pairwise R) (j : Nat) (a : α) (ha : ∀ i (hi : i < l.length), i ≠ j → R l[i] a) : (l.set j a).Pairwise R := by
  rw [List.pairwise_iff_getElem] at h ⊢
  intro i k hi hk hik
  simp only [List.length_set] at hi hk
  rw [List.getElem_set, List.getElem_set]
  by_cases e1 : j = i
  · rw [if_pos e1, if_neg (by omega)]; exact hsym _ _ (ha k hk (by omega))
  · rw [if_neg e1]
    by_cases e2 : j = k
    · rw [if_pos e2]; exact ha i hi (by omega)
    · rw [if_neg e2]; exact h i k hi hk hik
/-- An entry's row is another one, or was moved: the rest stays. -/
theorem Stk.stored {W W2 : World} {base M : Nat} {l : List Ent} {st : Int → List Int} (h : Stk W base M l st) {j : Nat} {x : Int} {v0 v' : Value} {xs xs' : List Int} (hj : l[j]? = some (x, v0, xs)) (hmap : MS.Is Try.prog 3 W2 M ((l.map fun t => (encE t.1, t.2.1)).set j (encE x, v')))
    (hown : W2.ownsRow base 3 1 v' xs'.length (iV xs')) (hat : v'.ownBlock = v0.ownBlock ∨ ∃ b, v'.ownBlock = some b ∧ W.heap.size ≤ b) (hs : W.heap.size ≤ W2.heap.size)
    (hg : ∀ g, base ≤ g → g < W.heap.size → v0.ownBlock ≠ some g → W2.heap[g]? = W.heap[g]?) : Stk W2 base M (l.set j (x, v', xs')) (upd st x xs') := by
  have hjl : j < l.length := by obtain ⟨h', _⟩ := List.getElem?_eq_some_iff.1 hj; exact h'
  have hjv : l[j] = (x, v0, xs) := by obtain ⟨_, h'⟩ := List.getElem?_eq_some_iff.1 hj; exact h'
  have hkey : ∀ i (hi : i < l.length), i ≠ j → l[i].1 ≠ x := by
    intro i hi hij
    have hp := List.pairwise_iff_getElem.1 h.key
    by_cases hlt : i < j
    · have := hp i j hi hjl hlt; rw [hjv] at this; exact this
    · have := hp j i hjl hi (by omega); rw [hjv] at this; exact fun e => this e.symm
  have hap : ∀ i (hi : i < l.length), i ≠ j → l[i].2.1.ownBlock = none ∨ l[i].2.1.ownBlock ≠ v0.ownBlock := by
    intro i hi hij
    have hp := List.pairwise_iff_getElem.1 h.apart
    by_cases hlt : i < j
    · have := hp i j hi hjl hlt; rw [hjv] at this; exact this
    · have := hp j i hjl hi (by omega); rw [hjv] at this
      rcases this with h1 | h1
      · by_cases h2 : l[i].2.1.ownBlock = none
        · exact .inl h2
        · refine .inr (fun e => h2 (e.trans h1))
      · exact .inr (fun e => h1 e.symm)
  have hmem : ∀ t ∈ l.set j (x, v', xs'), t = (x, v', xs') ∨ ∃ i, ∃ hi : i < l.length, i ≠ j ∧ t = l[i] := by
    intro t ht
    obtain ⟨i, hi, rfl⟩ := List.mem_iff_getElem.1 ht
    rw [List.getElem_set]
    simp only [List.length_set] at hi
    by_cases e : j = i
    · rw [if_pos e]; exact .inl rfl
    · rw [if_neg e]; exact .inr ⟨i, hi, fun e' => e e'.symm, rfl⟩
  refine ⟨?_, ?_, ?_, ?_, h.low, Nat.le_trans h.hi hs, ?_, ?_⟩
  · rw [List.map_set]; exact hmap
  · intro t ht
    rcases hmem t ht with rfl | ⟨i, hi, hij, rfl⟩
    · exact hown
    · have ho := h.own _ (List.getElem_mem hi)
      rcases hap i hi hij with h1 | h1
      · obtain ⟨q1, q2⟩ := ho
        refine ⟨q1, ?_⟩
        rcases q2 with q2 | ⟨g, cap, cur, q3, _⟩
        · exact .inl q2
        · rw [q3] at h1; cases h1
      · obtain ⟨q1, q2⟩ := ho
        refine ⟨q1, ?_⟩
        rcases q2 with q2 | ⟨g, cap, cur, q3, hb, hh, r⟩
        · exact .inl q2
        · have hb' : l[i].2.1.ownBlock = some g := by rw [q3]; rfl
          exact .inr ⟨g, cap, cur, q3, hb, (hg g hb (Array.getElem?_eq_some_iff.1 hh).1 (fun e => h1 (hb'.trans e.symm))).trans hh, r⟩
  · exact pairwise_set (fun a b h e => h e.symm) h.key j _ hkey
  · refine pairwise_set (fun a b h => ?_) h.apart j _ (fun i hi hij => ?_)
    · rcases h with h1 | h1
      · by_cases h2 : b.2.1.ownBlock = none
        · exact .inl h2
        · exact .inr (fun e => h2 (e.trans h1))
      · exact .inr (fun e => h1 e.symm)
    · rcases hat with e | ⟨b0, e, hb0⟩
      · simp only [e]; exact hap i hi hij
      · simp only [e]
        by_cases h2 : l[i].2.1.ownBlock = none
        · exact .inl h2
        · right
          intro e2
          have := (World.ownsRow.lt (h.own _ (List.getElem_mem hi)) _ e2).2
          omega
  · intro t ht
    rcases hmem t ht with rfl | ⟨i, hi, hij, rfl⟩
    · unfold upd; rw [if_pos rfl]
    · unfold upd; rw [if_neg (hkey i hi hij)]; exact h.has _ (List.getElem_mem hi)
  · intro y hy
    have hxy : y ≠ x := fun e => hy (x, v', xs') (List.mem_of_getElem? (i := j) (by rw [List.getElem?_set_self hjl])) e.symm
    unfold upd; rw [if_neg hxy]
    refine h.no y (fun t ht => ?_)
    obtain ⟨i, hi, rfl⟩ := List.mem_iff_getElem.1 ht
    by_cases hij : i = j
    · subst hij; rw [hjv]; exact fun e => hxy e.symm
    · exact hy _ (by
        refine List.mem_of_getElem? (i := i) ?_
        rw [List.getElem?_set_ne (by omega), List.getElem?_eq_getElem hi])
/-- An entry that was not there. -/
theorem Stk.pushed {W W2 : World} {base M : Nat} {l : List Ent} {st : Int → List Int} (h : Stk W base M l st) {x : Int} {v' : Value} {xs' : List Int} (hx : ∀ t ∈ l, t.1 ≠ x) (hmap : MS.Is Try.prog 3 W2 M ((l.map fun t => (encE t.1, t.2.1)) ++ [(encE x, v')]))
    (hown : W2.ownsRow base 3 1 v' xs'.length (iV xs')) (hat : v'.ownBlock = none ∨ ∃ b, v'.ownBlock = some b ∧ W.heap.size ≤ b) (hs : W.heap.size ≤ W2.heap.size)
    (hg : ∀ g, base ≤ g → g < W.heap.size → W2.heap[g]? = W.heap[g]?) : Stk W2 base M (l ++ [(x, v', xs')]) (upd st x xs') := by
  refine ⟨?_, ?_, ?_, ?_, h.low, Nat.le_trans h.hi hs, ?_, ?_⟩
  · rw [List.map_append]; exact hmap
  · intro t ht
    rcases List.mem_append.1 ht with ht | ht
    · exact owns_move (h.own t ht) hg
    · rw [List.mem_singleton.1 ht]; exact hown
  · rw [List.pairwise_append]
    refine ⟨h.key, List.pairwise_singleton _ _, fun a ha b hb => ?_⟩
    rw [List.mem_singleton.1 hb]; exact hx a ha
  · rw [List.pairwise_append]
    refine ⟨h.apart, List.pairwise_singleton _ _, fun a ha b hb => ?_⟩
    rw [List.mem_singleton.1 hb]
    by_cases h2 : a.2.1.ownBlock = none
    · exact .inl h2
    · right
      intro e
      rcases hat with e2 | ⟨b0, e2, hb0⟩
      · exact h2 (e.trans e2)
      · have := (World.ownsRow.lt (h.own _ ha) _ (e.trans e2)).2
        omega
  · intro t ht
    rcases List.mem_append.1 ht with ht | ht
    · unfold upd; rw [if_neg (hx t ht)]; exact h.has t ht
    · rw [List.mem_singleton.1 ht]; unfold upd; rw [if_pos rfl]
  · intro y hy
    have hxy : y ≠ x := fun e => hy (x, v', xs') (by simp) e.symm
    unfold upd; rw [if_neg hxy]
    exact h.no y (fun t ht => hy t (by simp [ht]))
/-- 'm[x] = v' behind an append to what lay there. -/
theorem Stk.update {W W2 : World} {base M : Nat} {l : List Ent} {st : Int → List Int} (h : Stk W base M l st) (x : Int) (hx : inI x = true) (v0 v' : Value) (xs' : List Int) (hat0 : (∃ (j : Nat) (xs : List Int), l[j]? = some (x, v0, xs)) ∨ (∀ t ∈ l, t.1 ≠ x) ∧ v0.ownBlock = none) (hM : W2.heap[M]? = W.heap[M]?)
    (hg : ∀ g, base ≤ g → g < W.heap.size → v0.ownBlock ≠ some g → W2.heap[g]? = W.heap[g]?) (hs : W.heap.size ≤ W2.heap.size) (ho : W2.ownsRow base 3 1 v' xs'.length (iV xs')) (hat : v'.ownBlock = v0.ownBlock ∨ ∃ b, v'.ownBlock = some b ∧ W.heap.size ≤ b) :
    ∃ o l', (Instr.mapUpdate 59 (.map (some M)) (encE x) v').run Try.prog W2 = .ok () (W2.putObj M o) ∧ Stk (W2.putObj M o) base M l' (upd st x xs') := by
  obtain ⟨lx, hk⟩ := key_enc x hx
  have hlow := h.low
  have hmap := h.map.same hM
  have ho' : ∀ o, (W2.putObj M o).ownsRow base 3 1 v' xs'.length (iV xs') := fun o => owns_move ho (fun g hb _ => World.putObj_heap_other (by omega))
  rcases hat0 with ⟨j0, xs0, hj0⟩ | ⟨hno, hv0⟩
  · obtain ⟨j, v1, o, h1, h2, h3⟩ := MS.run_update_old key_law hmap Try.underlying59 hk ⟨(encE x, v0), List.mem_map.2 ⟨_, List.mem_of_getElem? hj0, rfl⟩, rfl⟩ v'
    obtain ⟨xs1, h4⟩ := mem_kv h1
    have e12 : v1 = v0 := by
      have hj : j < l.length := by obtain ⟨h', _⟩ := List.getElem?_eq_some_iff.1 h4; exact h'
      have hj2 : j0 < l.length := by obtain ⟨h', _⟩ := List.getElem?_eq_some_iff.1 hj0; exact h'
      have a1 : l[j] = (x, v1, xs1) := by obtain ⟨_, h'⟩ := List.getElem?_eq_some_iff.1 h4; exact h'
      have a2 : l[j0] = (x, v0, xs0) := by obtain ⟨_, h'⟩ := List.getElem?_eq_some_iff.1 hj0; exact h'
      have hp := List.pairwise_iff_getElem.1 h.key
      by_cases e : j = j0
      · subst e; rw [a1] at a2; simp only [Prod.mk.injEq] at a2; exact a2.2.1
      · exfalso
        by_cases hlt : j < j0
        · have := hp j j0 hj hj2 hlt; rw [a1, a2] at this; exact this rfl
        · have := hp j0 j hj2 hj (by omega); rw [a1, a2] at this; exact this rfl
    subst e12
    refine ⟨o, _, h2, h.stored h4 h3 (ho' o) hat (by simpa using hs) (fun g hb hgs hne => ?_)⟩
    rw [World.putObj_heap_other (by omega)]; exact hg g hb hgs hne
  · obtain ⟨o, h2, h3⟩ := MS.run_update_new key_law hmap Try.underlying59 hk (fun p hp e => by
      obtain ⟨t, ht, rfl⟩ := List.mem_map.1 hp
      exact hno t ht (encE_inj e)) v'
    refine ⟨o, _, h2, h.pushed hno h3 (ho' o) (by rw [hv0] at hat; exact hat) (by simpa using hs) (fun g hb hgs => ?_)⟩
    rw [World.putObj_heap_other (by omega)]; exact hg g hb hgs (by rw [hv0]; intro e; cases e)
/-- What lies at x. -/
theorem Stk.look2 {W : World} {base M : Nat} {l : List Ent} {st : Int → List Int} (h : Stk W base M l st) (x : Int) (hx : inI x = true) :
    ∃ v, (Instr.lookup 59 (.map (some M)) (encE x) false).run Try.prog W = .ok v W ∧ W.ownsRow base 3 1 v (st x).length (iV (st x)) ∧ ((∃ (j : Nat), l[j]? = some (x, v, st x)) ∨ (∀ t ∈ l, t.1 ≠ x) ∧ v = .slice none 0 0 ∧ st x = []) := by
  obtain ⟨lx, hk⟩ := key_enc x hx
  rcases MS.run_lookup key_law h.map Try.underlying59 (z := .slice none 0 0) (zero28 W) hk with ⟨j, v, h1, h2⟩ | ⟨h1, h2⟩
  · obtain ⟨xs, h3⟩ := mem_kv h1
    have hm := List.mem_of_getElem? h3
    have h4 := h.has _ hm
    have h5 := h.own _ hm
    simp only at h4 h5
    rw [h4]
    exact ⟨v, h2, h5, .inl ⟨j, h3⟩⟩
  · have hno : ∀ t ∈ l, t.1 ≠ x := fun t ht e => h1 (encE t.1, t.2.1) (List.mem_map.2 ⟨t, ht, rfl⟩) (by rw [e])
    have h3 : st x = [] := h.no x hno
    refine ⟨_, h2, ?_, .inr ⟨hno, rfl, h3⟩⟩
    rw [h3]
    exact World.ownsRow_nil _ _ _ _
/-- What is looked up hangs on the map's block alone. -/
theorem Stk.lookAll {W : World} {base M : Nat} {l : List Ent} {st : Int → List Int} (h : Stk W base M l st) (x : Int) (hx : inI x = true) (v : Value) (hin : (∃ (j : Nat), l[j]? = some (x, v, st x)) ∨ (∀ t ∈ l, t.1 ≠ x) ∧ v = .slice none 0 0 ∧ st x = []) (W' : World) (hM : W'.heap[M]? = W.heap[M]?) :
    (Instr.lookup 59 (.map (some M)) (encE x) false).run Try.prog W' = .ok v W' := by
  obtain ⟨lx, hk⟩ := key_enc x hx
  rcases MS.run_lookup key_law (h.map.same hM) Try.underlying59 (z := .slice none 0 0) (zero28 W') hk with ⟨j, v1, h1, h2⟩ | ⟨h1, h2⟩
  · obtain ⟨xs, h3⟩ := mem_kv h1
    rcases hin with ⟨j0, h4⟩ | ⟨h4, _⟩
    · have hj : j < l.length := by obtain ⟨h', _⟩ := List.getElem?_eq_some_iff.1 h3; exact h'
      have hj2 : j0 < l.length := by obtain ⟨h', _⟩ := List.getElem?_eq_some_iff.1 h4; exact h'
      have a1 : l[j] = (x, v1, xs) := by obtain ⟨_, h'⟩ := List.getElem?_eq_some_iff.1 h3; exact h'
      have a2 : l[j0] = (x, v, st x) := by obtain ⟨_, h'⟩ := List.getElem?_eq_some_iff.1 h4; exact h'
      have hp := List.pairwise_iff_getElem.1 h.key
      have : v1 = v := by
        by_cases e : j = j0
        · subst e; rw [a1] at a2; simp only [Prod.mk.injEq] at a2; exact a2.2.1
        · exfalso
          by_cases hlt : j < j0
          · have := hp j j0 hj hj2 hlt; rw [a1, a2] at this; exact this rfl
          · have := hp j0 j hj2 hj (by omega); rw [a1, a2] at this; exact this rfl
      rw [← this]; exact h2
    · exact absurd rfl (h4 _ (List.mem_of_getElem? h3))
  · rcases hin with ⟨j0, h4⟩ | ⟨_, h4, _⟩
    · exact absurd rfl (h1 (encE x, v) (List.mem_map.2 ⟨_, List.mem_of_getElem? h4, rfl⟩))
    · rw [h4]; exact h2
end Go.Proofs.Ytnlnglfjehohpaa.Q
