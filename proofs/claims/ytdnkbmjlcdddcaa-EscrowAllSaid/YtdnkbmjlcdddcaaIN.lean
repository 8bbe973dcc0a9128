/- slices.Insert of one into a row of the call's own, elements of four numbers. No condition beyond the row's length. -/
import Derived.Test.YtdnkbmjlcdddcaaDF
import Derived.Shelf.Spec.SlicesInsertGrow
namespace Go.Proofs.Ytdnkbmjlcdddcaa.Q
open Go.RowKit Go.Proofs.YtdnkbmjlcdddcaaW Go.Proofs.YtdnkbmjlcdddcaaW.PrintWords Go.Proofs.YtdnkbmjlcdddcaaW.PrintLast Go.Proofs.YtdnkbmjlcdddcaaW.PrintMore
set_option linter.unusedVariables false
set_option linter.unusedSimpArgs false

def enc83 (x : S83) : List Value := [.int .i64 x.f0, .int .i64 x.f1, .int .i64 x.f2, .int .i64 x.f3]
theorem enc83_one (l : List S83) : ∀ u ∈ l.flatMap enc83, u.oneCell' = true := by
  intro u hu
  obtain ⟨x, _, hx⟩ := List.mem_flatMap.1 hu
  simp only [enc83, List.mem_cons, List.mem_nil_iff, or_false] at hx
  rcases hx with rfl | rfl | rfl | rfl <;> rfl
theorem enc83_len (l : List S83) : (l.flatMap enc83).length = l.length * 4 := by
  induction l with
  | nil => rfl
  | cons x l ih => rw [List.flatMap_cons, List.length_append, ih, List.length_cons]; simp [enc83]; omega
theorem enc83_take (l : List S83) : ∀ i, (l.flatMap enc83).take (i * 4) = (l.take i).flatMap enc83 := by
  induction l with
  | nil => intro i; simp
  | cons x l ih =>
    intro i
    cases i with
    | zero => simp
    | succ i =>
      rw [List.take_succ_cons, List.flatMap_cons, List.flatMap_cons, ← ih i, List.take_append]
      have h4 : (enc83 x).length = 4 := rfl
      rw [List.take_of_length_le (by rw [h4]; omega), h4, show (i + 1) * 4 - 4 = i * 4 by omega]
theorem enc83_drop (l : List S83) : ∀ i, (l.flatMap enc83).drop (i * 4) = (l.drop i).flatMap enc83 := by
  induction l with
  | nil => intro i; simp
  | cons x l ih =>
    intro i
    cases i with
    | zero => simp
    | succ i =>
      rw [List.drop_succ_cons, List.flatMap_cons, ← ih i, List.drop_append]
      have h4 : (enc83 x).length = 4 := rfl
      rw [List.drop_of_length_le (by rw [h4]; omega), h4, show (i + 1) * 4 - 4 = i * 4 by omega, List.nil_append]
theorem reps_enc83 {R : S83 → List Value → Prop} (hR : ∀ x c, R x c → c = enc83 x) : ∀ (l : List S83) (cs : List Value), Reps R 4 l cs → cs = l.flatMap enc83
  | [], cs, h => by have := h.1; simp at this; rw [this]; rfl
  | x :: l, cs, h => by
    have h0 := hR _ _ (h.2 0 x rfl)
    rw [Nat.zero_mul, List.drop_zero] at h0
    have hl := h.1
    rw [List.length_cons] at hl
    have ih := reps_enc83 hR l (cs.drop 4) ⟨by rw [List.length_drop, hl]; omega, fun j p hp => by
      have := h.2 (j + 1) p hp
      rwa [show (j + 1) * 4 = 4 + j * 4 by omega, ← List.drop_drop] at this⟩
    rw [List.flatMap_cons, ← h0, ← ih, List.take_append_drop]
theorem reps_mk83 {R : S83 → List Value → Prop} (hR : ∀ x, R x (enc83 x)) (l : List S83) : Reps R 4 l (l.flatMap enc83) := by
  refine ⟨enc83_len l, fun j p hp => ?_⟩
  rw [enc83_drop]
  obtain ⟨hj, rfl⟩ := List.getElem?_eq_some_iff.1 hp
  rw [List.drop_eq_getElem_cons hj, List.flatMap_cons, List.take_left' (show (enc83 l[j]).length = 4 from rfl)]
  exact hR _
theorem flat83 {w : World} {base : Nat} {ok : Nat → Prop} {v : Value} {l : List S83} : k83.R 83 w base ok v l ↔ (∀ k, v.ownBlock = some k → ok k) ∧ w.ownsRow base 83 4 v l.length (l.flatMap enc83) := by
  constructor
  · rintro ⟨h0, inner, ho, hr⟩
    refine ⟨h0, ?_⟩
    have := reps_enc83 (fun x c h => k83_openM h) l inner hr
    rw [← this]; exact ho
  · rintro ⟨h0, ho⟩
    exact ⟨h0, _, ho, reps_mk83 (fun x => k83_mkM _ _ _ x) l⟩
/-- copy at elements of k cells: all is read ahead of what is written. -/
theorem run_copy_k {P : Program} (k : Nat) (w : World) (dT sT ty elem : TypeId) (b o dLen dCap : Nat) (a : Addr) (sLen sCap : Nat) (cs : List Value)
    (hu : P.underlying dT = some (.slice elem)) (hs : (P.info? elem).map (·.size) = some k) (hn : cs.length = Nat.min sLen dLen * k)
    (hsrc : ∀ j v, cs[j]? = some v → w.cell? (a.add j) = some v) (hc : ∀ j, j < cs.length → (w.cell? ⟨b, o + j, none⟩).isSome = true) (hf : ∀ j, j < cs.length → w.frozen? ⟨b, o + j, none⟩ = false) (h1 : ∀ v ∈ cs, v.oneCell' = true) :
    (Builtin.copy_ #[dT, sT] ty #[.slice (some ⟨b, o, none⟩) dLen dCap, .slice (some a) sLen sCap]).run P w = .ok (goInt ((Nat.min sLen dLen : Nat))) (w.setCells b o cs) := by
  have hl := run_loadCells_list (P := P) w a cs hsrc
  have hst := run_storeCells_cells (P := P) b o cs 0 w (by simpa using hc) (by simpa using hf) h1
  cases hq : P.info? elem with
  | none => simp [hq] at hs
  | some i =>
    have hi : i.size = k := by simpa [hq] using hs
    rw [hn] at hl
    simp [Builtin.copy_, run_underlying hu, Builtin.lenOf, Builtin.firstCells, sizeOf, typeInfo, hq, hi, hl, hst]
theorem shape_blk {W : World} {g t : Nat} {cs : Array Value} (h : W.heap[g]? = some (.cells cs t (0, 0))) : W.shape? g = some (t, cs.size) := by simp [World.shape?, h]
/-- What a row of the call's own has: its cells, and room. -/
theorem own_cells {w : World} {base e sz b n c : Nat} {xs : List Value} (h : w.ownsRow base e sz (.slice (some ⟨b, 0, none⟩) n c) n xs) :
    ∃ cur : Array Value, base ≤ b ∧ w.heap[b]? = some (.cells cur e (0, 0)) ∧ n ≤ c ∧ c ≤ maxLen ∧ cur.size = c * sz ∧ cur.toList.take (n * sz) = xs := by
  rcases h.2 with ⟨hv, _⟩ | ⟨g, cap, cur, hv, hb, hh, r1, r2, r3, r4⟩
  · cases hv
  · injection hv with ha _ hc
    injection ha with ha
    injection ha with hg
    subst hg; subst hc
    exact ⟨cur, hb, hh, r1, r2, r3, r4⟩
end Go.Proofs.Ytdnkbmjlcdddcaa.Q
