/- slices.Insert of one into a row of the call's own, elements of four numbers. No condition beyond the row's length. -/
import Derived.Test.YthcikbbglpdjhaaFI
import Derived.Shelf.Spec.SlicesInsertGrow
namespace Go.Proofs.Ythcikbbglpdjhaa.Q
open Go.RowKit Go.Proofs.YthcikbbglpdjhaaW Go.Proofs.YthcikbbglpdjhaaW.PrintWords Go.Proofs.YthcikbbglpdjhaaW.PrintLast Go.Proofs.YthcikbbglpdjhaaW.PrintMore
set_option linter.unusedVariables false
set_option linter.unusedSimpArgs false

def encGI (x : GI) : List Value := [.int .i64 x.f0, .slice x.A x.d.length x.c]
theorem encGI_one (l : List GI) : ∀ u ∈ l.flatMap encGI, u.oneCell' = true := by
  intro u hu
  obtain ⟨x, _, hx⟩ := List.mem_flatMap.1 hu
  simp only [encGI, List.mem_cons, List.mem_nil_iff, or_false] at hx
  rcases hx with rfl | rfl <;> rfl
theorem encGI_len (l : List GI) : (l.flatMap encGI).length = l.length * 2 := by
  induction l with
  | nil => rfl
  | cons x l ih => rw [List.flatMap_cons, List.length_append, ih, List.length_cons]; simp [encGI]; omega
theorem encGI_take (l : List GI) : ∀ i, (l.flatMap encGI).take (i * 2) = (l.take i).flatMap encGI := by
  induction l with
  | nil => intro i; simp
  | cons x l ih =>
    intro i
    cases i with
    | zero => simp
    | succ i =>
      rw [List.take_succ_cons, List.flatMap_cons, List.flatMap_cons, ← ih i, List.take_append]
      have h4 : (encGI x).length = 2 := rfl
      rw [List.take_of_length_le (by rw [h4]; omega), h4, show (i + 1) * 2 - 2 = i * 2 by omega]
theorem encGI_drop (l : List GI) : ∀ i, (l.flatMap encGI).drop (i * 2) = (l.drop i).flatMap encGI := by
  induction l with
  | nil => intro i; simp
  | cons x l ih =>
    intro i
    cases i with
    | zero => simp
    | succ i =>
      rw [List.drop_succ_cons, List.flatMap_cons, ← ih i, List.drop_append]
      have h4 : (encGI x).length = 2 := rfl
      rw [List.drop_of_length_le (by rw [h4]; omega), h4, show (i + 1) * 2 - 2 = i * 2 by omega, List.nil_append]
theorem reps_encGI {R : GI → List Value → Prop} (hR : ∀ x c, R x c → c = encGI x) : ∀ (l : List GI) (cs : List Value), Reps R 2 l cs → cs = l.flatMap encGI
  | [], cs, h => by have := h.1; simp at this; rw [this]; rfl
  | x :: l, cs, h => by
    have h0 := hR _ _ (h.2 0 x rfl)
    rw [Nat.zero_mul, List.drop_zero] at h0
    have hl := h.1
    rw [List.length_cons] at hl
    have ih := reps_encGI hR l (cs.drop 2) ⟨by rw [List.length_drop, hl]; omega, fun j p hp => by
      have := h.2 (j + 1) p hp
      rwa [show (j + 1) * 2 = 2 + j * 2 by omega, ← List.drop_drop] at this⟩
    rw [List.flatMap_cons, ← h0, ← ih, List.take_append_drop]
theorem reps_mkGI {R : GI → List Value → Prop} (hR : ∀ x, R x (encGI x)) (l : List GI) : Reps R 2 l (l.flatMap encGI) := by
  refine ⟨encGI_len l, fun j p hp => ?_⟩
  rw [encGI_drop]
  obtain ⟨hj, rfl⟩ := List.getElem?_eq_some_iff.1 hp
  rw [List.drop_eq_getElem_cons hj, List.flatMap_cons, List.take_left' (show (encGI l[j]).length = 2 from rfl)]
  exact hR _
theorem flatGI {w : World} {base : Nat} {ok : Nat → Prop} {v : Value} {l : List GI} : kGI.R 44 w base ok v l ↔ (∀ k, v.ownBlock = some k → ok k) ∧ w.ownsRow base 44 2 v l.length (l.flatMap encGI) := by
  constructor
  · rintro ⟨h0, inner, ho, hr⟩
    refine ⟨h0, ?_⟩
    have := reps_encGI (fun x c h => kGI_openM h) l inner hr
    rw [← this]; exact ho
  · rintro ⟨h0, ho⟩
    exact ⟨h0, _, ho, reps_mkGI (fun x => kGI_mkM _ _ _ x) l⟩
/-- copy at elements of k cells: all is read ahead of what is written. -/
theorem run_copy_k {P : Program} (k : Nat) (w : World) (dT sT ty elem : TypeId) (b o dLen dCap : Nat) (a : Addr) (sLen sCap : Nat) (cs : List Value)
    (hu : P.underlying dT = some (.slice elem)) (hs : (P.info? elem).map (·.size) = some k) (hn : cs.length = Nat.min sLen dLen * k)
    (hsrc : ∀ j v, cs[j]? = some v → w.cell? (a.add j) = some v) (hc : ∀ j, j < cs.length → (w.cell? ⟨b, o + j, none⟩).isSome = true) (hf : ∀ j, j < cs.length → w.frozen? ⟨b, o + j, none⟩ = false) (h1 : ∀ v ∈ cs, v.oneCell' = true) :
    (Builtin.copy_ #[dT, sT] ty #[.slice (some ⟨b, o, none⟩) dLen dCap, .slice (some a) sLen sCap]).run P w = .ok (goInt ((Nat.min sLen dLen : Nat))) (w.setCells b o cs) := by
  have hl := run_loadCells_list (P := P) w a cs hsrc
  have hst := run_storeCells_cells (P := P) b o cs 0 w (by simpa using hc) (by simpa using hf) h1
  cases hq : P.info? elem with
  | none => simp [hq] at hs
  | some i =>
    have hi : i.size = k := by simpa [hq] using hs
    rw [hn] at hl
    simp [Builtin.copy_, run_underlying hu, Builtin.lenOf, Builtin.firstCells, sizeOf, typeInfo, hq, hi, hl, hst]
theorem shape_blk {W : World} {g t : Nat} {cs : Array Value} (h : W.heap[g]? = some (.cells cs t (0, 0))) : W.shape? g = some (t, cs.size) := by simp [World.shape?, h]
/-- What a row of the call's own has: its cells, and room. -/
theorem own_cells {w : World} {base e sz b n c : Nat} {xs : List Value} (h : w.ownsRow base e sz (.slice (some ⟨b, 0, none⟩) n c) n xs) :
    ∃ cur : Array Value, base ≤ b ∧ w.heap[b]? = some (.cells cur e (0, 0)) ∧ n ≤ c ∧ c ≤ maxLen ∧ cur.size = c * sz ∧ cur.toList.take (n * sz) = xs := by
  rcases h.2 with ⟨hv, _⟩ | ⟨g, cap, cur, hv, hb, hh, r1, r2, r3, r4⟩
  · cases hv
  · injection hv with ha _ hc
    injection ha with ha
    injection ha with hg
    subst hg; subst hc
    exact ⟨cur, hb, hh, r1, r2, r3, r4⟩
end Go.Proofs.Ythcikbbglpdjhaa.Q
