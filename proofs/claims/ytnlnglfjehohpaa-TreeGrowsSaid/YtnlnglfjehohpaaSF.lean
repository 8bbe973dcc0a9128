import Derived.Test.YtnlnglfjehohpaaSE
namespace Go.Proofs.Ytnlnglfjehohpaa.Q
open Go.RowKit Go.Proofs.YtnlnglfjehohpaaW Go.Proofs.YtnlnglfjehohpaaW.PrintWords Go.Proofs.YtnlnglfjehohpaaW.PrintLast Go.Proofs.YtnlnglfjehohpaaW.PrintMore
set_option linter.unusedVariables false
set_option linter.unusedSimpArgs false
/-! A binary search over [lo0, hi0): lt holds below, fails from there on. -/
structure Cut (lt : Nat → Prop) (lo0 hi0 lo hi : Nat) : Prop where
  low : lo0 ≤ lo
  le : lo ≤ hi
  high : hi ≤ hi0
  yes : ∀ t, lo0 ≤ t → t < lo → lt t
  no : ∀ t, hi ≤ t → t < hi0 → ¬ lt t
def Mon (lt : Nat → Prop) (lo0 hi0 : Nat) : Prop := ∀ s t, lo0 ≤ s → s ≤ t → t < hi0 → lt t → lt s
theorem Cut.start (lt lo0 hi0) (h : lo0 ≤ hi0) : Cut lt lo0 hi0 lo0 hi0 := ⟨Nat.le_refl _, h, Nat.le_refl _, fun t h1 h2 => by omega, fun t h1 h2 => by omega⟩
theorem Cut.up {lt lo0 hi0 lo hi c} (hm : Mon lt lo0 hi0) (h : Cut lt lo0 hi0 lo hi) (h1 : lo ≤ c) (h2 : c < hi) (hl : lt c) : Cut lt lo0 hi0 (c + 1) hi :=
  ⟨by have := h.low; omega, by omega, h.high, fun t h3 h4 => hm t c h3 (by omega) (by have := h.high; omega) hl, h.no⟩
theorem Cut.down {lt lo0 hi0 lo hi c} (hm : Mon lt lo0 hi0) (h : Cut lt lo0 hi0 lo hi) (h1 : lo ≤ c) (h2 : c < hi) (hl : ¬ lt c) : Cut lt lo0 hi0 lo c :=
  ⟨h.low, by omega, by have := h.high; omega, h.yes, fun t h3 h4 hn => hl (hm c t (by have := h.low; omega) h3 h4 hn)⟩
def gt (l : List Int) (i : Nat) : Int := l.getD i 0
theorem gt_at (A : List Int) (x : Int) (B : List Int) (i : Nat) (h : A.length = i) : gt (A ++ x :: B) i = x := by
  unfold gt; rw [List.getD_eq_getElem?_getD, get_at _ _ _ _ h.symm]; rfl
theorem gt_right (A B : List Int) (i : Nat) : gt (A ++ B) (A.length + i) = gt B i := by
  unfold gt; rw [List.getD_eq_getElem?_getD, List.getD_eq_getElem?_getD, List.getElem?_append_right (by omega), Nat.add_sub_cancel_left]
theorem gt_left (A B : List Int) (i : Nat) (h : i < A.length) : gt (A ++ B) i = gt A i := by
  unfold gt; rw [List.getD_eq_getElem?_getD, List.getD_eq_getElem?_getD, List.getElem?_append_left h]
theorem gt_mem (A : List Int) (i : Nat) (h : i < A.length) : gt A i ∈ A := by
  unfold gt; rw [List.getD_eq_getElem?_getD, List.getElem?_eq_getElem h]; exact List.getElem_mem h
theorem Sorted.gt {key : Int → Int} {l : List Int} (h : Sorted key l) {i j : Nat} (hij : i ≤ j) (hj : j < l.length) : key (gt l i) ≤ key (gt l j) := by
  unfold Q.gt
  rw [List.getD_eq_getElem?_getD, List.getD_eq_getElem?_getD, List.getElem?_eq_getElem hj, List.getElem?_eq_getElem (by omega)]
  by_cases e : i = j
  · subst e; exact Int.le_refl _
  · exact List.pairwise_iff_getElem.1 h i j (by omega) hj (by omega)
theorem Sorted.split {key : Int → Int} {A B : List Int} (hA : Sorted key A) (hB : Sorted key B) (h : ∀ x ∈ A, ∀ y ∈ B, key x ≤ key y) : Sorted key (A ++ B) := List.pairwise_append.2 ⟨hA, hB, h⟩
theorem mem_gt {l : List Int} {x : Int} (h : x ∈ l) : ∃ i, i < l.length ∧ gt l i = x := by
  obtain ⟨i, hi, e⟩ := List.getElem_of_mem h
  refine ⟨i, hi, ?_⟩
  unfold gt; rw [List.getD_eq_getElem?_getD, List.getElem?_eq_getElem hi]; exact e
theorem take_cut (l : List Int) (s : Nat) (h : s ≤ l.length) : ∃ U V, l = U ++ V ∧ U.length = s := ⟨l.take s, l.drop s, (List.take_append_drop _ _).symm, by rw [List.length_take]; omega⟩
/-- One goes into a sorted row from the left. -/
theorem one_left {key : Int → Int} {x : Int} {B : List Int} {m s : Nat} (hB : Sorted key B) (h : Cut (fun t => key (gt B (t - m)) < key x) m (m + B.length) s s) :
    ∃ B1 B2, B = B1 ++ B2 ∧ m + B1.length = s ∧ Sorted key (B1 ++ x :: B2) := by
  have h1 := h.low
  have h2 := h.high
  obtain ⟨B1, B2, rfl, hl⟩ := take_cut B (s - m) (by omega)
  refine ⟨B1, B2, rfl, by omega, ?_⟩
  have p := List.pairwise_append.1 hB
  have e1 : ∀ y ∈ B1, key y < key x := by
    intro y hy
    obtain ⟨i, hi, rfl⟩ := mem_gt hy
    have := h.yes (m + i) (by omega) (by omega)
    rwa [Nat.add_sub_cancel_left, gt_left _ _ _ hi] at this
  have e2 : ∀ y ∈ B2, key x ≤ key y := by
    intro y hy
    obtain ⟨i, hi, rfl⟩ := mem_gt hy
    have := h.no (m + (B1.length + i)) (by omega) (by rw [List.length_append]; omega)
    rw [Nat.add_sub_cancel_left, gt_right] at this
    exact Int.not_lt.1 this
  refine Sorted.split p.1 (List.pairwise_cons.2 ⟨e2, p.2.1⟩) (fun u hu v hv => ?_)
  rcases List.mem_cons.1 hv with rfl | hv
  · exact Int.le_of_lt (e1 u hu)
  · exact p.2.2 u hu v hv
/-- One goes into a sorted row from the right. -/
theorem one_right {key : Int → Int} {y : Int} {A : List Int} {a s : Nat} (hA : Sorted key A) (h : Cut (fun t => ¬ key y < key (gt A (t - a))) a (a + A.length) s s) :
    ∃ A1 A2, A = A1 ++ A2 ∧ a + A1.length = s ∧ Sorted key (A1 ++ y :: A2) := by
  have h1 := h.low
  have h2 := h.high
  obtain ⟨A1, A2, rfl, hl⟩ := take_cut A (s - a) (by omega)
  refine ⟨A1, A2, rfl, by omega, ?_⟩
  have p := List.pairwise_append.1 hA
  have e1 : ∀ x ∈ A1, key x ≤ key y := by
    intro x hx
    obtain ⟨i, hi, rfl⟩ := mem_gt hx
    have := h.yes (a + i) (by omega) (by omega)
    rw [Nat.add_sub_cancel_left, gt_left _ _ _ hi] at this
    exact Int.not_lt.1 this
  have e2 : ∀ x ∈ A2, key y ≤ key x := by
    intro x hx
    obtain ⟨i, hi, rfl⟩ := mem_gt hx
    have := h.no (a + (A1.length + i)) (by omega) (by rw [List.length_append]; omega)
    rw [Nat.add_sub_cancel_left, gt_right, Classical.not_not] at this
    exact Int.le_of_lt this
  refine Sorted.split p.1 (List.pairwise_cons.2 ⟨e2, p.2.1⟩) (fun u hu v hv => ?_)
  rcases List.mem_cons.1 hv with rfl | hv
  · exact e1 u hu
  · exact p.2.2 u hu v hv
/-- The cut of two sorted rows: where the mirrored ones cross. -/
theorem two_cut {key : Int → Int} {A B : List Int} {a m b mid s lo hi : Nat} (hA : Sorted key A) (hB : Sorted key B) (hm : a + A.length = m) (hb : m + B.length = b) (hmid : mid = (a + b) / 2) (ha0 : 0 < A.length) (hb0 : 0 < B.length)
    (hlo : lo = if mid < m then mid + m - b else a) (hhi : hi = if mid < m then mid else m)
    (h : Cut (fun c => ¬ key (gt B (mid + m - 1 - c - m)) < key (gt A (c - a))) lo hi s s) :
    ∃ A1 A2 B1 B2, A = A1 ++ A2 ∧ B = B1 ++ B2 ∧ a + A1.length = s ∧ m + B1.length = mid + m - s ∧ Sorted key A1 ∧ Sorted key A2 ∧ Sorted key B1 ∧ Sorted key B2 ∧
      (∀ x ∈ A1 ++ B1, ∀ y ∈ A2 ++ B2, key x ≤ key y) := by
  have h1 := h.low
  have h2 := h.high
  have hs1 : a ≤ s := by split at hlo <;> omega
  have hs2 : s ≤ m := by split at hhi <;> omega
  have hs3 : s ≤ mid := by split at hhi <;> omega
  have hs4 : mid + m - s ≤ b := by split at hlo <;> omega
  obtain ⟨A1, A2, rfl, hl⟩ := take_cut A (s - a) (by omega)
  obtain ⟨B1, B2, rfl, hl2⟩ := take_cut B (mid - s) (by omega)
  rw [List.length_append] at hm hb ha0 hb0
  have p := List.pairwise_append.1 hA
  have q := List.pairwise_append.1 hB
  refine ⟨A1, A2, B1, B2, rfl, rfl, by omega, by omega, p.1, p.2.1, q.1, q.2.1, ?_⟩
  have g1 : ∀ x ∈ A1, ∀ y ∈ B2, key x ≤ key y := by
    intro x hx y hy
    obtain ⟨i, hi1, rfl⟩ := mem_gt hx
    obtain ⟨j, hj1, rfl⟩ := mem_gt hy
    have hlos : lo < s := by split at hlo <;> omega
    have := h.yes (s - 1) (by omega) (by omega)
    rw [show mid + m - 1 - (s - 1) - m = B1.length + 0 by omega, gt_right, gt_left _ _ _ (by omega)] at this
    refine Int.le_trans (Sorted.gt p.1 (show i ≤ s - 1 - a by omega) (by omega)) (Int.le_trans (Int.not_lt.1 this) (Sorted.gt q.2.1 (Nat.zero_le j) hj1))
  have g2 : ∀ x ∈ B1, ∀ y ∈ A2, key x ≤ key y := by
    intro x hx y hy
    obtain ⟨i, hi1, rfl⟩ := mem_gt hx
    obtain ⟨j, hj1, rfl⟩ := mem_gt hy
    have hsh : s < hi := by split at hhi <;> omega
    have := h.no s (Nat.le_refl _) hsh
    rw [Classical.not_not, show s - a = A1.length + 0 by omega, gt_right, gt_left _ _ _ (by omega)] at this
    refine Int.le_trans (Sorted.gt q.1 (show i ≤ mid + m - 1 - s - m by omega) (by omega)) (Int.le_trans (Int.le_of_lt this) (Sorted.gt p.2.1 (Nat.zero_le j) hj1))
  intro x hx y hy
  rcases List.mem_append.1 hx with hx | hx <;> rcases List.mem_append.1 hy with hy | hy
  · exact p.2.2 x hx y hy
  · exact g1 x hx y hy
  · exact g2 x hx y hy
  · exact q.2.2 x hx y hy
theorem two_mon {key : Int → Int} {A B : List Int} {a m b mid lo hi : Nat} (hA : Sorted key A) (hB : Sorted key B) (hm : a + A.length = m) (hb : m + B.length = b) (hmid : mid = (a + b) / 2)
    (hlo : lo = if mid < m then mid + m - b else a) (hhi : hi = if mid < m then mid else m) : Mon (fun c => ¬ key (gt B (mid + m - 1 - c - m)) < key (gt A (c - a))) lo hi := by
  intro s t h1 h2 h3 h4 h5
  refine h4 ?_
  have l1 : a ≤ lo := by split at hlo <;> omega
  have l2 : hi ≤ m ∧ hi ≤ mid := by split at hhi <;> omega
  have l3 : mid + m ≤ b + lo := by split at hlo <;> omega
  exact Int.lt_of_le_of_lt (Sorted.gt hB (show mid + m - 1 - t - m ≤ mid + m - 1 - s - m by omega) (by omega)) (Int.lt_of_lt_of_le h5 (Sorted.gt hA (show s - a ≤ t - a by omega) (by omega)))
/-- The cells of a row. -/
theorem row_cell {base : Nat} {ok : Nat → Prop} {w : World} {A : Option Addr} {L c : Nat} {l : List Int} (h : KI.R 3 w base ok (.slice A L c) l) (i : Nat) (hi : i < l.length) :
    ∃ g, A = some ⟨g, 0, none⟩ ∧ base ≤ g ∧ w.cell? ⟨g, i, none⟩ = some (.int .i64 (gt l i)) := by
  have hl := (Kd.R_reads' h).1
  subst hl
  obtain ⟨g, cap, hv, hg0, _, _⟩ := Kd.R_form h (by omega)
  injection hv with hv1 _ hv3
  subst hv1
  subst hv3
  have c1 := Kd.R_cell (0 : Int) h (i : Int) (by omega) (by omega)
  rw [Int.toNat_natCast] at c1
  exact ⟨g, rfl, hg0, c1.1⟩
/-- Two neighbours change places, the lower one first. -/
theorem adj_up (base : Nat) (ok : Nat → Prop) (w : World) (A : Option Addr) (L c : Nat) (A0 B0 : List Int) (u x : Int) (k : Nat) (hk : A0.length = k) (hl : (A0 ++ u :: x :: B0).length = L)
    (h : KI.R 3 w base ok (.slice A L c) (A0 ++ u :: x :: B0)) :
    ∃ g, A = some ⟨g, 0, none⟩ ∧ base ≤ g ∧ w.cell? ⟨g, k, none⟩ = some (.int .i64 u) ∧ w.cell? ⟨g, k + 1, none⟩ = some (.int .i64 x) ∧
      w.frozen? ⟨g, k, none⟩ = false ∧ (∃ z, (w.setCell ⟨g, k, none⟩ (.int .i64 x)).cell? ⟨g, k + 1, none⟩ = some z) ∧ (w.setCell ⟨g, k, none⟩ (.int .i64 x)).frozen? ⟨g, k + 1, none⟩ = false ∧
      KI.R 3 ((w.setCell ⟨g, k, none⟩ (.int .i64 x)).setCell ⟨g, k + 1, none⟩ (.int .i64 u)) base ok (.slice A L c) (A0 ++ x :: u :: B0) ∧
      w.grownBy ((w.setCell ⟨g, k, none⟩ (.int .i64 x)).setCell ⟨g, k + 1, none⟩ (.int .i64 u)) (some g) := by
  subst hl
  have hlen : k + 1 < (A0 ++ u :: x :: B0).length := by rw [List.length_append, hk]; simp
  obtain ⟨g, cap, hv, hg0, _, _⟩ := Kd.R_form h (by omega)
  injection hv with hv1 _ hv3
  subst hv1
  subst hv3
  have e1 : (A0 ++ u :: x :: B0)[k]? = some u := get_at _ _ _ _ hk.symm
  have e2 : (A0 ++ u :: x :: B0)[k + 1]? = some x := by
    have := get_at (A0 ++ [u]) B0 x (k + 1) (by simp [hk]); simpa using this
  have s1 : (A0 ++ u :: x :: B0).set k x = A0 ++ x :: x :: B0 := set_at _ _ _ _ _ hk.symm
  have s2 : (A0 ++ x :: x :: B0).set (k + 1) u = A0 ++ x :: u :: B0 := by
    have := set_at (A0 ++ [x]) B0 x u (k + 1) (by simp [hk]); simpa using this
  have c1 := Kd.R_cell (0 : Int) h (k : Int) (by omega) (by omega)
  have c2 := Kd.R_cell (0 : Int) h ((k + 1 : Nat) : Int) (by omega) (by omega)
  rw [Int.toNat_natCast] at c1 c2
  rw [show rdOf (0 : Int) (A0 ++ u :: x :: B0) (k : Int) = u by (unfold rdOf; rw [Int.toNat_natCast, List.getD_eq_getElem?_getD, e1]; rfl)] at c1
  rw [show rdOf (0 : Int) (A0 ++ u :: x :: B0) ((k + 1 : Nat) : Int) = x by (unfold rdOf; rw [Int.toNat_natCast, List.getD_eq_getElem?_getD, e2]; rfl)] at c2
  have d1 := Kd.R_putg h (k : Int) x
  rw [Int.toNat_natCast, s1] at d1
  have d1b := d1.1
  have ll : (A0 ++ x :: x :: B0).length = (A0 ++ u :: x :: B0).length := by simp
  rw [← ll] at d1b
  have d2 := Kd.R_putg d1b ((k + 1 : Nat) : Int) u
  rw [Int.toNat_natCast, s2] at d2
  have c3 := Kd.R_cell (0 : Int) d1b ((k + 1 : Nat) : Int) (by omega) (by rw [ll]; omega)
  rw [Int.toNat_natCast] at c3
  rw [ll] at d2
  exact ⟨g, rfl, hg0, c1.1, c2.1, c1.2, ⟨_, c3.1⟩, c3.2, d2.1, d1.2.trans d2.2⟩
end Go.Proofs.Ytnlnglfjehohpaa.Q
