/- A map of slices of whole numbers by entries: what it holds, and how it moves. No condition beyond the entries' ranges. -/
import Derived.Test.YtjpoepiidmoegaaMS
import Derived.Test.YtjpoepiidmoegaaQ0
import Derived.Maps.AppendAt
namespace Go.Proofs.Ytjpoepiidmoegaa.Q
open Go.RowKit Go.Proofs.YtjpoepiidmoegaaW Go.Proofs.YtjpoepiidmoegaaW.PrintWords Go.Proofs.YtjpoepiidmoegaaW.PrintLast Go.Proofs.YtjpoepiidmoegaaW.PrintMore
open Go.WideMaps (KeyLaw)
set_option linter.unusedVariables false
set_option linter.unusedSimpArgs false

instance : DecidableEq S33 := fun a b =>
  if h : a.f0 = b.f0 ∧ a.f1 = b.f1 ∧ a.f2 = b.f2 ∧ a.f3 = b.f3 then .isTrue (by cases a; cases b; simp_all) else .isFalse (fun e => h (by subst e; simp))
def inI (n : Int) : Bool := decide (-9223372036854775808 ≤ n ∧ n ≤ 9223372036854775807)
def inE (x : S33) : Bool := inI x.f0 && (inI x.f1 && inI x.f2)
def encE (x : S33) : Value := .agg #[.int .i64 x.f0, .int .i64 x.f1, .int .i64 x.f2, .bool x.f3]
theorem encE_inj {x y : S33} (h : encE x = encE y) : x = y := by
  unfold encE at h
  cases x; cases y
  simp_all
theorem laid33 : laidOutB Try.prog = true := by kernel_rfl
theorem key_law : KeyLaw Try.prog 33 := deep_law_gate laid33 (of_decide_eq_true (by kernel_rfl)) (of_decide_eq_true (by kernel_rfl)) (by kernel_rfl) (by kernel_rfl)
theorem wf_of {n : Int} (h : inI n = true) : (Lit.int .i64 n).wf = true := by
  show (decide (IntKind.i64.min ≤ n) && decide (n ≤ IntKind.i64.max)) = true
  have h2 : IntKind.i64.min = -9223372036854775808 := by decide
  have h3 : IntKind.i64.max = 9223372036854775807 := by decide
  rw [h2, h3]
  unfold inI at h; simpa using h
theorem key_enc (x : S33) (h : inE x = true) : ∃ l, keyOf Try.prog 33 (encE x) = some l := by
  unfold inE at h
  simp only [Bool.and_eq_true] at h
  have h0 := wf_of h.1
  have h1 := wf_of h.2.1
  have h2 := wf_of h.2.2
  have hk : Try.prog.keyType 33 = true := by kernel_rfl
  have hc : Try.prog.cellsOf 33 = 4 := by kernel_rfl
  have hc3 : Try.prog.cellsOf 3 = 1 := by kernel_rfl
  have hc4 : Try.prog.cellsOf 4 = 1 := by kernel_rfl
  have hf : (encE x).formed Try.prog 33 = true := by unfold encE Value.formed; simp [Try.underlying33, hc]
  obtain ⟨n, hn⟩ : ∃ n, Try.prog.types.size = n + 1 := ⟨Try.prog.types.size - 1, by have : 0 < Try.prog.types.size := of_decide_eq_true (by kernel_rfl); omega⟩
  have hl : ∃ ls, Try.prog.keyLits (Try.prog.types.size + 1) 33 (encE x).cells.toList = some ls := by
    rw [hn]
    unfold encE
    refine ⟨[.int .i64 x.f0, .int .i64 x.f1, .int .i64 x.f2, .bool x.f3], ?_⟩
    simp [Program.keyLits, Try.underlying33, Try.underlying3, Try.underlying4, Value.cells, hc, hc3, hc4, h0, h1, h2]
  obtain ⟨ls, hls⟩ := hl
  unfold keyOf
  simp only [Try.underlying33, hk, hf, Bool.and_self, if_true, hls, Option.map_some]
  exact ⟨_, rfl⟩

theorem below_put {B r : Nat} {w D : World} (h : Below B w D) (hr : B ≤ r) (o : Obj) : Below B w (D.putObj r o) := ⟨h.os, h.tape, h.output, by simpa using h.size, fun k hk => (World.putObj_heap_other (by omega)).trans (h.block k hk)⟩
abbrev Ent := S33 × Value × List Int
def iV (xs : List Int) : List Value := xs.map (Value.int .i64)
def upd (st : S33 → List Int) (x : S33) (v : List Int) : S33 → List Int := fun y => if y = x then v else st y
/-- The map in block M: each entry's numbers lie in a row of the call's own, no two in one. -/
structure Stk (W : World) (base M : Nat) (l : List Ent) (st : S33 → List Int) : Prop where
  map : MS.Is Try.prog 33 W M (l.map fun t => (encE t.1, t.2.1))
  own : ∀ t ∈ l, W.ownsRow base 3 1 t.2.1 t.2.2.length (iV t.2.2)
  key : l.Pairwise (fun a b => a.1 ≠ b.1)
  apart : l.Pairwise (fun a b => a.2.1.ownBlock = none ∨ a.2.1.ownBlock ≠ b.2.1.ownBlock)
  low : M < base
  hi : base ≤ W.heap.size
  has : ∀ t ∈ l, st t.1 = t.2.2
  no : ∀ x, (∀ t ∈ l, t.1 ≠ x) → st x = []
theorem owns_move {W W' : World} {base : Nat} {e : TypeId} {size : Nat} {v : Value} {n : Nat} {xs : List Value} (h : W.ownsRow base e size v n xs) (hg : ∀ g, base ≤ g → g < W.heap.size → W'.heap[g]? = W.heap[g]?) : W'.ownsRow base e size v n xs := by
  obtain ⟨h1, h2⟩ := h
  refine ⟨h1, ?_⟩
  rcases h2 with h2 | ⟨g, cap, cur, rfl, hb, hh, r⟩
  · exact .inl h2
  · exact .inr ⟨g, cap, cur, rfl, hb, (hg g hb (Array.getElem?_eq_some_iff.1 hh).1).trans hh, r⟩
theorem Stk.move {W W' : World} {base M : Nat} {l : List Ent} {st : S33 → List Int} (h : Stk W base M l st) (hM : W'.heap[M]? = W.heap[M]?) (hg : ∀ g, base ≤ g → g < W.heap.size → W'.heap[g]? = W.heap[g]?) (hs : W.heap.size ≤ W'.heap.size) : Stk W' base M l st :=
  ⟨h.map.same hM, fun t ht => owns_move (h.own t ht) hg, h.key, h.apart, h.low, Nat.le_trans h.hi hs, h.has, h.no⟩
theorem Stk.alloc {W : World} {base M : Nat} {l : List Ent} {st : S33 → List Int} (h : Stk W base M l st) (o : Obj) : Stk (W.alloc o) base M l st :=
  h.move (Below.heap_alloc _ _ _ h.map.lt) (fun g _ hg => Below.heap_alloc _ _ _ hg) (by simp)
theorem Stk.put {W : World} {base M : Nat} {l : List Ent} {st : S33 → List Int} (h : Stk W base M l st) {r : Nat} (hr : r ≠ M) (hb : r < base) (o : Obj) : Stk (W.putObj r o) base M l st :=
  h.move (World.putObj_heap_other (by omega)) (fun g h1 _ => World.putObj_heap_other (by omega)) (by simp)
theorem Stk.start {W : World} {base M : Nat} (h : W.heap[M]? = some (.map #[] 0)) (hl : M < base) (hi : base ≤ W.heap.size) : Stk W base M [] (fun _ => []) :=
  ⟨MS.Is.made h, by simp, List.Pairwise.nil, List.Pairwise.nil, hl, hi, by simp, fun _ _ => rfl⟩
theorem mem_kv {l : List Ent} {j : Nat} {x : S33} {v : Value} (h : (l.map fun t => (encE t.1, t.2.1))[j]? = some (encE x, v)) : ∃ xs, l[j]? = some (x, v, xs) := by
  rw [List.getElem?_map] at h
  cases hj : l[j]? with
  | none => rw [hj] at h; cases h
  | some t =>
    rw [hj] at h
    simp only [Option.map_some, Option.some.injEq, Prod.mk.injEq] at h
    obtain ⟨t1, t2, t3⟩ := t
    obtain ⟨h1, h2⟩ := h
    have := encE_inj h1
    simp only at this h2
    subst this; subst h2
    exact ⟨t3, rfl⟩
set_option maxRecDepth 100000 in
theorem zero35 (W : World) : (zeroValue 35).run Try.prog W = .ok (.slice none 0 0) W := by rfl
theorem Stk.look {W : World} {base M : Nat} {l : List Ent} {st : S33 → List Int} (h : Stk W base M l st) (x : S33) (hx : inE x = true) :
    ∃ v, (Instr.lookup 112 (.map (some M)) (encE x) false).run Try.prog W = .ok v W ∧ W.ownsRow base 3 1 v (st x).length (iV (st x)) ∧ (st x ≠ [] → ∃ (j : Nat) (xs : List Int), l[j]? = some (x, v, xs)) := by
  obtain ⟨lx, hk⟩ := key_enc x hx
  rcases MS.run_lookup key_law h.map Try.underlying112 (z := .slice none 0 0) (zero35 W) hk with ⟨j, v, h1, h2⟩ | ⟨h1, h2⟩
  · obtain ⟨xs, h3⟩ := mem_kv h1
    have hm := List.mem_of_getElem? h3
    have h4 := h.has _ hm
    have h5 := h.own _ hm
    simp only at h4 h5
    rw [h4]
    exact ⟨v, h2, h5, fun _ => ⟨j, xs, h3⟩⟩
  · have h3 : st x = [] := h.no x (fun t ht e => h1 (encE t.1, t.2.1) (List.mem_map.2 ⟨t, ht, rfl⟩) (by rw [e]))
    rw [h3]
    exact ⟨_, h2, World.ownsRow_nil _ _ _ _, fun h => absurd rfl h⟩
theorem pairwise_set {α : Type} {R : α → α → Prop} (hsym : ∀ a b, R a b → R b a) {l : List α} (h : l.Pairwise R) (j : Nat) (a : α) (ha : ∀ i (hi : i < l.length), i ≠ j → R l[i] a) : (l.set j a).Pairwise R := by
  rw [List.pairwise_iff_getElem] at h ⊢
  intro i k hi hk hik
  simp only [List.length_set] at hi hk
  rw [List.getElem_set, List.getElem_set]
  by_cases e1 : j = i
  · rw [if_pos e1, if_neg (by omega)]; exact hsym _ _ (ha k hk (by omega))
  · rw [if_neg e1]
    by_cases e2 : j = k
    · rw [if_pos e2]; exact ha i hi (by omega)
    · rw [if_neg e2]; exact h i k hi hk hik
/-- An entry's row is another one, or was moved: the rest stays. -/
theorem Stk.stored {W W2 : World} {base M : Nat} {l : List Ent} {st : S33 → List Int} (h : Stk W base M l st) {j : Nat} {x : S33} {v0 v' : Value} {xs xs' : List Int} (hj : l[j]? = some (x, v0, xs)) (hmap : MS.Is Try.prog 33 W2 M ((l.map fun t => (encE t.1, t.2.1)).set j (encE x, v')))
    (hown : W2.ownsRow base 3 1 v' xs'.length (iV xs')) (hat : v'.ownBlock = v0.ownBlock ∨ v'.ownBlock = some W.heap.size) (hs : W.heap.size ≤ W2.heap.size)
    (hg : ∀ g, base ≤ g → g < W.heap.size → v0.ownBlock ≠ some g → W2.heap[g]? = W.heap[g]?) : Stk W2 base M (l.set j (x, v', xs')) (upd st x xs') := by
  have hjl : j < l.length := by obtain ⟨h', _⟩ := List.getElem?_eq_some_iff.1 hj; exact h'
  have hjv : l[j] = (x, v0, xs) := by obtain ⟨_, h'⟩ := List.getElem?_eq_some_iff.1 hj; exact h'
  have hkey : ∀ i (hi : i < l.length), i ≠ j → l[i].1 ≠ x := by
    intro i hi hij
    have hp := List.pairwise_iff_getElem.1 h.key
    by_cases hlt : i < j
    · have := hp i j hi hjl hlt; rw [hjv] at this; exact this
    · have := hp j i hjl hi (by omega); rw [hjv] at this; exact fun e => this e.symm
  have hap : ∀ i (hi : i < l.length), i ≠ j → l[i].2.1.ownBlock = none ∨ l[i].2.1.ownBlock ≠ v0.ownBlock := by
    intro i hi hij
    have hp := List.pairwise_iff_getElem.1 h.apart
    by_cases hlt : i < j
    · have := hp i j hi hjl hlt; rw [hjv] at this; exact this
    · have := hp j i hjl hi (by omega); rw [hjv] at this
      rcases this with h1 | h1
      · by_cases h2 : l[i].2.1.ownBlock = none
        · exact .inl h2
        · refine .inr (fun e => h2 (e.trans h1))
      · exact .inr (fun e => h1 e.symm)
  have hmem : ∀ t ∈ l.set j (x, v', xs'), t = (x, v', xs') ∨ ∃ i, ∃ hi : i < l.length, i ≠ j ∧ t = l[i] := by
    intro t ht
    obtain ⟨i, hi, rfl⟩ := List.mem_iff_getElem.1 ht
    rw [List.getElem_set]
    simp only [List.length_set] at hi
    by_cases e : j = i
    · rw [if_pos e]; exact .inl rfl
    · rw [if_neg e]; exact .inr ⟨i, hi, fun e' => e e'.symm, rfl⟩
  refine ⟨?_, ?_, ?_, ?_, h.low, Nat.le_trans h.hi hs, ?_, ?_⟩
  · rw [List.map_set]; exact hmap
  · intro t ht
    rcases hmem t ht with rfl | ⟨i, hi, hij, rfl⟩
    · exact hown
    · have ho := h.own _ (List.getElem_mem hi)
      rcases hap i hi hij with h1 | h1
      · obtain ⟨q1, q2⟩ := ho
        refine ⟨q1, ?_⟩
        rcases q2 with q2 | ⟨g, cap, cur, q3, _⟩
        · exact .inl q2
        · rw [q3] at h1; cases h1
      · obtain ⟨q1, q2⟩ := ho
        refine ⟨q1, ?_⟩
        rcases q2 with q2 | ⟨g, cap, cur, q3, hb, hh, r⟩
        · exact .inl q2
        · have hb' : l[i].2.1.ownBlock = some g := by rw [q3]; rfl
          exact .inr ⟨g, cap, cur, q3, hb, (hg g hb (Array.getElem?_eq_some_iff.1 hh).1 (fun e => h1 (hb'.trans e.symm))).trans hh, r⟩
  · exact pairwise_set (fun a b h e => h e.symm) h.key j _ hkey
  · refine pairwise_set (fun a b h => ?_) h.apart j _ (fun i hi hij => ?_)
    · rcases h with h1 | h1
      · by_cases h2 : b.2.1.ownBlock = none
        · exact .inl h2
        · exact .inr (fun e => h2 (e.trans h1))
      · exact .inr (fun e => h1 e.symm)
    · rcases hat with e | e
      · simp only [e]; exact hap i hi hij
      · simp only [e]
        by_cases h2 : l[i].2.1.ownBlock = none
        · exact .inl h2
        · right
          intro e2
          have := (World.ownsRow.lt (h.own _ (List.getElem_mem hi)) _ e2).2
          omega
  · intro t ht
    rcases hmem t ht with rfl | ⟨i, hi, hij, rfl⟩
    · unfold upd; rw [if_pos rfl]
    · unfold upd; rw [if_neg (hkey i hi hij)]; exact h.has _ (List.getElem_mem hi)
  · intro y hy
    have hxy : y ≠ x := fun e => hy (x, v', xs') (List.mem_of_getElem? (i := j) (by rw [List.getElem?_set_self hjl])) e.symm
    unfold upd; rw [if_neg hxy]
    refine h.no y (fun t ht => ?_)
    obtain ⟨i, hi, rfl⟩ := List.mem_iff_getElem.1 ht
    by_cases hij : i = j
    · subst hij; rw [hjv]; exact fun e => hxy e.symm
    · exact hy _ (by
        refine List.mem_of_getElem? (i := i) ?_
        rw [List.getElem?_set_ne (by omega), List.getElem?_eq_getElem hi])
/-- An entry that was not there. -/
theorem Stk.pushed {W W2 : World} {base M : Nat} {l : List Ent} {st : S33 → List Int} (h : Stk W base M l st) {x : S33} {v' : Value} {xs' : List Int} (hx : ∀ t ∈ l, t.1 ≠ x) (hmap : MS.Is Try.prog 33 W2 M ((l.map fun t => (encE t.1, t.2.1)) ++ [(encE x, v')]))
    (hown : W2.ownsRow base 3 1 v' xs'.length (iV xs')) (hat : v'.ownBlock = none ∨ v'.ownBlock = some W.heap.size) (hs : W.heap.size ≤ W2.heap.size)
    (hg : ∀ g, base ≤ g → g < W.heap.size → W2.heap[g]? = W.heap[g]?) : Stk W2 base M (l ++ [(x, v', xs')]) (upd st x xs') := by
  refine ⟨?_, ?_, ?_, ?_, h.low, Nat.le_trans h.hi hs, ?_, ?_⟩
  · rw [List.map_append]; exact hmap
  · intro t ht
    rcases List.mem_append.1 ht with ht | ht
    · exact owns_move (h.own t ht) hg
    · rw [List.mem_singleton.1 ht]; exact hown
  · rw [List.pairwise_append]
    refine ⟨h.key, List.pairwise_singleton _ _, fun a ha b hb => ?_⟩
    rw [List.mem_singleton.1 hb]; exact hx a ha
  · rw [List.pairwise_append]
    refine ⟨h.apart, List.pairwise_singleton _ _, fun a ha b hb => ?_⟩
    rw [List.mem_singleton.1 hb]
    by_cases h2 : a.2.1.ownBlock = none
    · exact .inl h2
    · right
      intro e
      rcases hat with e2 | e2
      · exact h2 (e.trans e2)
      · have := (World.ownsRow.lt (h.own _ ha) _ (e.trans e2)).2
        omega
  · intro t ht
    rcases List.mem_append.1 ht with ht | ht
    · unfold upd; rw [if_neg (hx t ht)]; exact h.has t ht
    · rw [List.mem_singleton.1 ht]; unfold upd; rw [if_pos rfl]
  · intro y hy
    have hxy : y ≠ x := fun e => hy (x, v', xs') (by simp) e.symm
    unfold upd; rw [if_neg hxy]
    exact h.no y (fun t ht => hy t (by simp [ht]))
/-- 'm[x] = append(m[x], ..)': the entry is taken; what is stored later. -/
theorem Stk.entry {W : World} {base M : Nat} {l : List Ent} {st : S33 → List Int} (h : Stk W base M l st) (x : S33) (hx : inE x = true) :
    ∃ (v0 : Value) (n : Nat) (o1 : Obj), (Instr.mapEntry 112 (.map (some M)) (encE x)).run Try.prog W = .ok (.tuple #[v0, goInt n]) (W.putObj M o1) ∧ (W.putObj M o1).ownsRow base 3 1 v0 (st x).length (iV (st x)) ∧
      ∀ (W2 : World) (v' : Value) (xs' : List Int), W2.heap[M]? = some o1 → (∀ g, base ≤ g → g < W.heap.size → v0.ownBlock ≠ some g → W2.heap[g]? = W.heap[g]?) → W.heap.size ≤ W2.heap.size → W2.ownsRow base 3 1 v' xs'.length (iV xs') → (v'.ownBlock = v0.ownBlock ∨ v'.ownBlock = some W.heap.size) →
        ∃ o l', (Instr.entryStore 112 (.map (some M)) (goInt n) v').run Try.prog W2 = .ok () (W2.putObj M o) ∧ Stk (W2.putObj M o) base M l' (upd st x xs') := by
  obtain ⟨lx, hk⟩ := key_enc x hx
  have hlow := h.low
  obtain ⟨v0, n, o1, h1, h2⟩ := MS.run_entry key_law h.map Try.underlying112 (z := .slice none 0 0) (zero35 W) hk
  have hmv : ∀ {v : Value} {n : Nat} {xs : List Value}, W.ownsRow base 3 1 v n xs → (W.putObj M o1).ownsRow base 3 1 v n xs := fun ho => owns_move ho (fun g hb _ => World.putObj_heap_other (by omega))
  refine ⟨v0, n, o1, h1, ?_, fun W2 v' xs' hM hg hs ho hat => ?_⟩
  · rcases h2 with ⟨j, h3, _⟩ | ⟨h3, h4, _⟩
    · obtain ⟨xs, h5⟩ := mem_kv h3
      have hm := List.mem_of_getElem? h5
      have h6 := h.has _ hm
      simp only at h6
      rw [h6]
      exact hmv (h.own _ hm)
    · have h5 : st x = [] := h.no x (fun t ht e => h3 (encE t.1, t.2.1) (List.mem_map.2 ⟨t, ht, rfl⟩) (by rw [e]))
      rw [h5, h4]
      exact World.ownsRow_nil _ _ _ _
  · have ho' : ∀ o, (W2.putObj M o).ownsRow base 3 1 v' xs'.length (iV xs') := fun o => owns_move ho (fun g hb _ => World.putObj_heap_other (by omega))
    rcases h2 with ⟨j, h3, h4⟩ | ⟨h3, h4, h5⟩
    · obtain ⟨xs, h6⟩ := mem_kv h3
      obtain ⟨o, h7, h8⟩ := h4 W2 v' hM
      refine ⟨o, _, h7, h.stored h6 h8 (ho' o) hat (by simpa using hs) (fun g hb hgs hne => ?_)⟩
      rw [World.putObj_heap_other (by omega)]; exact hg g hb hgs hne
    · obtain ⟨o, h7, h8⟩ := h5 W2 v' hM
      have hv0 : v0.ownBlock = none := by rw [h4]; rfl
      refine ⟨o, _, h7, h.pushed (fun t ht e => h3 (encE t.1, t.2.1) (List.mem_map.2 ⟨t, ht, rfl⟩) (by rw [e])) h8 (ho' o) (by rw [hv0] at hat; exact hat) (by simpa using hs) (fun g hb hgs => ?_)⟩
      rw [World.putObj_heap_other (by omega)]; exact hg g hb hgs (by rw [hv0]; intro e; cases e)
set_option maxRecDepth 100000 in
/-- The last of an entry's is taken away. -/
theorem Stk.pop {W : World} {base M : Nat} {l : List Ent} {st : S33 → List Int} (h : Stk W base M l st) (x : S33) (hx : inE x = true) {g cap : Nat} (hne : st x ≠ []) (v : Value) (hat : ∃ (j : Nat) (xs : List Int), l[j]? = some (x, v, xs)) (hv : v = .slice (some ⟨g, 0, none⟩) (st x).length cap)
    (hown : W.ownsRow base 3 1 v (st x).length (iV (st x))) :
    ∃ o l', (Instr.mapUpdate 112 (.map (some M)) (encE x) (.slice (some ⟨g, 0, none⟩) ((st x).length - 1) cap)).run Try.prog W = .ok () (W.putObj M o) ∧ Stk (W.putObj M o) base M l' (upd st x (st x).dropLast) := by
  obtain ⟨lx, hk⟩ := key_enc x hx
  have hlow := h.low
  obtain ⟨j2, xs2, k3⟩ := hat
  have hin : ∃ p ∈ (l.map fun t => (encE t.1, t.2.1)), p.1 = encE x := ⟨_, List.mem_map.2 ⟨_, List.mem_of_getElem? k3, rfl⟩, rfl⟩
  obtain ⟨j, v0, o, h1, h2, h3⟩ := MS.run_update_old key_law h.map Try.underlying112 hk hin (.slice (some ⟨g, 0, none⟩) ((st x).length - 1) cap)
  obtain ⟨xs, h4⟩ := mem_kv h1
  have hm := List.mem_of_getElem? h4
  have h5 := h.has _ hm
  have h6 := h.own _ hm
  simp only at h5 h6
  have hlen : (st x).dropLast.length = (st x).length - 1 := List.length_dropLast
  have hno : W.ownsRow base 3 1 (.slice (some ⟨g, 0, none⟩) ((st x).length - 1) cap) ((st x).length - 1) (iV (st x).dropLast) := by
    obtain ⟨q1, q2⟩ := hown
    rw [hv] at q2
    rcases q2 with ⟨q2, _⟩ | ⟨g', cap', cur, q3, hb, hh, hn, hc, hcs, ht⟩
    · cases q2
    · simp only [Value.slice.injEq, Option.some.injEq, Addr.mk.injEq, and_true] at q3
      obtain ⟨rfl, _, rfl⟩ := q3
      refine ⟨by unfold iV; rw [List.length_map, hlen, Nat.mul_one], .inr ⟨g, cap, cur, rfl, hb, hh, by omega, hc, hcs, ?_⟩⟩
      unfold iV at ht ⊢
      have hL : (st x).length * 1 ≤ cur.toList.length := by
        have e : cur.toList.length = cap * 1 := by rw [Array.length_toList]; exact hcs
        omega
      rw [List.map_dropLast, ← ht, List.dropLast_eq_take, List.take_take, List.length_take, Nat.min_eq_left hL, Nat.min_eq_left (by omega)]
      rw [Nat.mul_one, Nat.mul_one]
  refine ⟨o, _, h2, h.stored h4 h3 ?_ ?_ (by simp) (fun g' hb hgs hne' => World.putObj_heap_other (by omega))⟩
  · rw [hlen]; exact owns_move hno (fun g' hb _ => World.putObj_heap_other (by omega))
  · left
    have e12 : v0 = v := by
      have hj : j < l.length := by obtain ⟨h', _⟩ := List.getElem?_eq_some_iff.1 h4; exact h'
      have hj2 : j2 < l.length := by obtain ⟨h', _⟩ := List.getElem?_eq_some_iff.1 k3; exact h'
      have a1 : l[j] = (x, v0, xs) := by obtain ⟨_, h'⟩ := List.getElem?_eq_some_iff.1 h4; exact h'
      have a2 : l[j2] = (x, v, xs2) := by obtain ⟨_, h'⟩ := List.getElem?_eq_some_iff.1 k3; exact h'
      have hp := List.pairwise_iff_getElem.1 h.key
      by_cases e : j = j2
      · subst e; rw [a1] at a2; simp only [Prod.mk.injEq] at a2; exact a2.2.1
      · exfalso
        by_cases hlt : j < j2
        · have := hp j j2 hj hj2 hlt; rw [a1, a2] at this; exact this rfl
        · have := hp j2 j hj2 hj (by omega); rw [a1, a2] at this; exact this rfl
    rw [e12, hv]; rfl
end Go.Proofs.Ytjpoepiidmoegaa.Q
