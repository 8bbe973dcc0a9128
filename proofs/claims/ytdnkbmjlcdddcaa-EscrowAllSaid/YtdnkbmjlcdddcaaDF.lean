/- slices.IndexFunc and slices.DeleteFunc at rows of four numbers, with a closure that has captured one box. No condition. -/
import Derived.Test.YtdnkbmjlcdddcaaQ0
import Derived.Test.YtdnkbmjlcdddcaaQA
import Derived.Lib.Hide
import Derived.Shelf.GgClosure.Gives
import Derived.Lib.SliceRun
namespace Go.Proofs.Ytdnkbmjlcdddcaa.Q
open Go.RowKit Go.Proofs.YtdnkbmjlcdddcaaW Go.Proofs.YtdnkbmjlcdddcaaW.PrintWords Go.Proofs.YtdnkbmjlcdddcaaW.PrintLast Go.Proofs.YtdnkbmjlcdddcaaW.PrintMore
set_option linter.unusedVariables false
set_option linter.unusedSimpArgs false

def ixOf {α : Type} (p : α → Bool) (l : List α) : Int := match l.findIdx? p with | some i => (i : Int) | none => -1
theorem ixOf_at {α : Type} (p : α → Bool) (l : List α) (k : Nat) (hk : k < l.length) (hp : p l[k] = true) (hb : ∀ j (hj : j < k), p (l[j]'(by omega)) = false) : ixOf p l = (k : Int) := by
  have : l.findIdx? p = some k := by
    rw [List.findIdx?_eq_some_iff_getElem]
    exact ⟨hk, hp, fun j hj => by rw [hb j hj]; decide⟩
  unfold ixOf; rw [this]
theorem ixOf_none {α : Type} (p : α → Bool) (l : List α) (hb : ∀ j (hj : j < l.length), p l[j] = false) : ixOf p l = -1 := by
  have : l.findIdx? p = none := by
    rw [List.findIdx?_eq_none_iff]
    intro x hx
    obtain ⟨j, hj, rfl⟩ := List.mem_iff_getElem.1 hx
    exact hb j hj
  unfold ixOf; rw [this]
theorem rd_at83 (l : List S83) (k : Nat) (hk : k < l.length) : rd_T83 l (k : Int) = l[k] := by
  unfold rd_T83; simp [List.getD_eq_getElem?_getD, List.getElem?_eq_getElem hk]
/-- What the closure says, in each world of K. -/
def PredK (C B : Nat) (p : S83 → Bool) (K : World → Prop) : Prop :=
  (∀ (W : World) (x : S83), K W → Calls Try.prog C #[.agg #[.int .i64 x.f0, .int .i64 x.f1, .int .i64 x.f2, .int .i64 x.f3], .pointer (some ⟨B, 0, none⟩)] W fun e w' => e = .returned (.bool (p x)) ∧ Below W.heap.size W w') ∧
  ∀ W W', K W → Below W.heap.size W W' → K W'
/-- clear of what stands behind a row's end. -/
theorem zc_len (cs : Array Value) (m : Nat) : (Builtin.zeroCells cs m).toList.length = m * cs.size := by unfold Builtin.zeroCells; simp
theorem zc_oneCell (cs : Array Value) (m : Nat) (h : ∀ u ∈ cs.toList, u.oneCell' = true) : ∀ u ∈ (Builtin.zeroCells cs m).toList, u.oneCell' = true := by
  intro u hu
  unfold Builtin.zeroCells at hu
  obtain ⟨i, hi, rfl⟩ := List.mem_iff_getElem.1 hu
  simp at hi ⊢
  have hp : 0 < cs.size := Nat.pos_of_ne_zero (fun e => by rw [e, Nat.mul_zero] at hi; omega)
  have hm : i % cs.size < cs.size := Nat.mod_lt _ hp
  rw [getElem!_pos cs _ hm]
  exact h _ (by simp)
theorem R_clear {α : Type} {P : Program} (d : Kd α) {W : World} {base e g n c t ty m c2 : Nat} {ok : Nat → Prop} {xs : List α} {z : Value} (ht : P.underlying t = some (.slice e)) (hv : ∀ w, (zeroValue e).run P w = .ok z w) (hzs : z.cells.size = d.sz) (hone : ∀ u ∈ z.cells.toList, u.oneCell' = true)
    (HO : d.R e W base ok (.slice (some ⟨g, 0, none⟩) n c) xs) (hc : n + m ≤ c) :
    ∃ w1, (Builtin.clear_ #[t] ty #[.slice (some ⟨g, n * d.sz, none⟩) m c2]).run P W = .ok (.tuple #[]) w1 ∧ d.R e w1 base ok (.slice (some ⟨g, 0, none⟩) n c) xs ∧ W.grownBy w1 (some g) := by
  by_cases h0 : m = 0
  · subst h0
    exact ⟨W, by simp [Builtin.clear_, run_underlying ht], HO, ⟨rfl, rfl, rfl, Nat.le_refl _, fun _ _ _ => rfl⟩⟩
  obtain ⟨hn, hnc, _⟩ := Kd.R_reads' HO
  obtain ⟨hok, inner, hown, hr⟩ := HO
  rcases hown.2 with ⟨hv', _⟩ | ⟨g', cap', cur, hv', hb, hh, _, hcm, hcs, htake⟩
  · cases hv'
  injection hv' with ha _ hc'
  injection ha with ha
  injection ha with hg
  subst hg; subst hc'
  rw [← hn] at htake
  have hl : (Builtin.zeroCells z.cells m).toList.length = m * d.sz := by rw [zc_len, hzs]
  have hmul : (n + m) * d.sz ≤ c * d.sz := Nat.mul_le_mul_right _ hc
  rw [Nat.add_mul] at hmul
  have hfit : n * d.sz + (Builtin.zeroCells z.cells m).toList.length ≤ cur.size := by omega
  have hone' := zc_oneCell z.cells m hone
  obtain ⟨cur', h3, h4, h5⟩ := setCells_row (Builtin.zeroCells z.cells m).toList (n * d.sz) W cur hh hfit
  obtain ⟨s1, s2, s3, s4⟩ := setCells_same g (Builtin.zeroCells z.cells m).toList (n * d.sz) W
  have hst := run_storeCells_cells (P := P) g (n * d.sz) (Builtin.zeroCells z.cells m).toList 0 W (by
      intro j hj
      rw [cell_of_row W g _ cur e (0, 0) hh]; simp; omega) (fun j _ => blk_frozen hh _) hone'
  rw [Nat.add_zero] at hst
  have hfar : ∀ k', k' ≠ g → (W.setCells g (n * d.sz) (Builtin.zeroCells z.cells m).toList).heap[k']? = W.heap[k']? := fun k' hk' => setCells_far (Builtin.zeroCells z.cells m).toList _ k' hk'
  refine ⟨_, ?_, ⟨hok, inner, ⟨hown.1, .inr ⟨g, c, cur', by rw [hn], hb, h3, by omega, hcm, by rw [h4, hcs], ?_⟩⟩, hr.imp_ (fun _ _ hp => d.M_move (fun k' hk' => hfar k' (fun he => hk'.2 (by rw [he]; simp [Value.ownBlock]))) hp)⟩, ⟨s1, s2, s3, by rw [s4]; exact Nat.le_refl _, fun k' _ hk' => hfar k' (fun he => hk' (by rw [he]))⟩⟩
  · obtain ⟨m', rfl⟩ : ∃ j, m = j + 1 := ⟨m - 1, by omega⟩
    simp [Builtin.clear_, run_underlying ht, hv, hst]
  · rw [h5, ← hn, List.append_assoc, List.take_append_of_le_length (by rw [List.length_take]; simp; omega), List.take_take, Nat.min_self, htake]
theorem take_set_snoc {α : Type} (ys : List α) (a : Nat) (x : α) (h : a < ys.length) : (ys.set a x).take (a + 1) = ys.take a ++ [x] := by
  rw [List.take_succ_eq_append_getElem (by rw [List.length_set]; exact h), List.getElem_set_self, List.take_set_of_le (Nat.le_refl _)]
theorem drop_set_far {α : Type} (ys : List α) (a b : Nat) (x : α) (h : a < b) : (ys.set a x).drop b = ys.drop b := List.drop_set_of_lt h
end Go.Proofs.Ytdnkbmjlcdddcaa.Q
