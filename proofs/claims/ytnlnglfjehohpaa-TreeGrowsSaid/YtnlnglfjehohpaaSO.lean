import Derived.Test.YtnlnglfjehohpaaSN
namespace Go.Proofs.Ytnlnglfjehohpaa.Q
open Go.RowKit
set_option linter.unusedVariables false
set_option linter.unusedSimpArgs false
/-! Order's value. -/
def fxd (l : List S35) (i : Int) : Bool := isB l i && !anyUp (fun x => x.f1 != 2) l i
def parL (l : List S35) (x : Int) : Int := (rd_T35 l x).f0
def kidsU (l : List S35) (m : Nat) (p : Int) : List Int := ((List.range m).filter (fun i : Nat => fxd l (i : Int) && decide (parL l (i : Int) = p))).map (fun i : Nat => (i : Int))
def kidsL (l : List S35) (p : Int) : List Int := kidsU l l.length p
def ins (key : Int → Int) (x : Int) : List Int → List Int
  | [] => [x]
  | y :: r => if key x ≤ key y then x :: y :: r else y :: ins key x r
def srt (key : Int → Int) : List Int → List Int
  | [] => []
  | x :: r => ins key x (srt key r)
def tellF (key : Int → Int) (kids : Int → List Int) : Nat → Int → List Int
  | 0, _ => []
  | m + 1, p => (srt key (kids p)).flatMap fun k => k :: tellF key kids m k
def goodO (l : List S35) : Bool := decide (l.length < 1000) && (List.range l.length).all (fun k => !fxd l (k : Int) || (decide (-1 ≤ parL l (k : Int)) && decide (parL l (k : Int) < k))) &&
  (List.range l.length).all (fun i => (List.range l.length).all fun j => !(fxd l (i : Int) && fxd l (j : Int) && decide (parL l (i : Int) = parL l (j : Int)) && decide (byEnd l (i : Int) = byEnd l (j : Int))) || decide (i = j))
def tree_Order.f (l0 : List S35) (a0 : Int) : Option (List Int) := if goodO l0 = true then some (tellF (byEnd l0) (kidsL l0) (l0.length + 1) (-1)) else none
theorem ins_perm (key : Int → Int) (x : Int) : ∀ l, (ins key x l).Perm (x :: l)
  | [] => .refl _
  | y :: r => by
    unfold ins; split
    · exact .refl _
    · exact ((ins_perm key x r).cons y).trans (List.Perm.swap _ _ _)
theorem srt_perm (key : Int → Int) : ∀ l, (srt key l).Perm l
  | [] => .refl _
  | x :: r => (ins_perm key x _).trans ((srt_perm key r).cons x)
theorem ins_sorted (key : Int → Int) (x : Int) : ∀ l, Sorted key l → Sorted key (ins key x l)
  | [], _ => List.pairwise_singleton _ _
  | y :: r, h => by
    have p := List.pairwise_cons.1 h
    unfold ins; split
    · rename_i hle
      refine List.pairwise_cons.2 ⟨fun z hz => ?_, h⟩
      rcases List.mem_cons.1 hz with rfl | hz
      · exact hle
      · exact Int.le_trans hle (p.1 z hz)
    · rename_i hle
      refine List.pairwise_cons.2 ⟨fun z hz => ?_, ins_sorted key x r p.2⟩
      rcases List.mem_cons.1 ((ins_perm key x r).mem_iff.1 hz) with rfl | hz
      · omega
      · exact p.1 z hz
theorem srt_sorted (key : Int → Int) : ∀ l, Sorted key (srt key l)
  | [] => List.Pairwise.nil
  | x :: r => ins_sorted key x _ (srt_sorted key r)
theorem sorted_one (key : Int → Int) : ∀ (K K' : List Int), K.Perm K' → Sorted key K → Sorted key K' → (∀ x ∈ K, ∀ y ∈ K, key x = key y → x = y) → K = K'
  | [], K', hp, _, _, _ => (List.nil_perm.1 hp).symm
  | x :: r, [], hp, _, _, _ => absurd hp (by simp)
  | x :: r, y :: r', hp, h1, h2, hi => by
    have p1 := List.pairwise_cons.1 h1
    have p2 := List.pairwise_cons.1 h2
    have hy : y ∈ x :: r := hp.mem_iff.2 List.mem_cons_self
    have hx : x ∈ y :: r' := hp.mem_iff.1 List.mem_cons_self
    have e1 : key x ≤ key y := by
      rcases List.mem_cons.1 hy with rfl | hy
      · exact Int.le_refl _
      · exact p1.1 y hy
    have e2 : key y ≤ key x := by
      rcases List.mem_cons.1 hx with rfl | hx
      · exact Int.le_refl _
      · exact p2.1 x hx
    have e := hi x List.mem_cons_self y hy (Int.le_antisymm e1 e2)
    subst e
    rw [sorted_one key r r' hp.cons_inv p1.2 p2.2 (fun a ha b hb => hi a (List.mem_cons_of_mem _ ha) b (List.mem_cons_of_mem _ hb))]
theorem Tl.eq {kids par n key S o} (K : Kin kids par n) (hi : ∀ p, ∀ x ∈ kids p, ∀ y ∈ kids p, key x = key y → x = y) (h : Tl kids key S o) : ∀ m : Nat, (∀ k ∈ S, k < n ∧ (n : Int) - k ≤ m) → o = S.flatMap fun k => k :: tellF key kids m k := by
  induction h with
  | nil => intro m _; rfl
  | cons k K1 S o1 o2 hp hs h1 h2 ih1 ih2 =>
    intro m hm
    have hk := hm k List.mem_cons_self
    obtain ⟨m', rfl⟩ : ∃ m', m = m' + 1 := ⟨m - 1, by omega⟩
    have e1 : K1 = srt key (kids k) := sorted_one key _ _ (hp.trans (srt_perm key _).symm) hs (srt_sorted key _) (fun x hx y hy => hi k x (hp.mem_iff.1 hx) y (hp.mem_iff.1 hy))
    rw [List.flatMap_cons, ← ih2 (m' + 1) (fun x hx => hm x (List.mem_cons_of_mem _ hx))]
    have := ih1 m' (fun x hx => by have := K.has k x (hp.mem_iff.1 hx); omega)
    rw [this, e1]
    rfl
theorem Tl.tell {kids par n key} (K : Kin kids par n) : ∀ (m : Nat) (p : Int), (n : Int) - p ≤ m + 1 → Tl kids key (srt key (kids p)) (tellF key kids (m + 1) p) := by
  intro m
  induction m with
  | zero =>
    intro p hp
    have : kids p = [] := by
      match h : kids p with
      | [] => rfl
      | k :: r => have := K.has p k (by rw [h]; simp); omega
    show Tl kids key (srt key (kids p)) ((srt key (kids p)).flatMap _)
    rw [this]
    exact .nil
  | succ m ih =>
    intro p hp
    show Tl kids key (srt key (kids p)) ((srt key (kids p)).flatMap fun k => k :: tellF key kids (m + 1) k)
    have hall : ∀ k ∈ srt key (kids p), p < k := fun k hk => (K.has p k ((srt_perm key _).mem_iff.1 hk)).1
    generalize srt key (kids p) = S at hall ⊢
    induction S with
    | nil => exact .nil
    | cons k S ihS =>
      have hk := hall k List.mem_cons_self
      rw [List.flatMap_cons]
      exact .cons k _ S _ _ (srt_perm key _) (srt_sorted key _) (ih k (by omega)) (ihS (fun x hx => hall x (List.mem_cons_of_mem _ hx)))
theorem kidsU_succ (l : List S35) (m : Nat) (p : Int) : kidsU l (m + 1) p = kidsU l m p ++ if (fxd l (m : Int) && decide (parL l (m : Int) = p)) = true then [(m : Int)] else [] := by
  unfold kidsU
  rw [List.range_succ, List.filter_append, List.map_append]
  congr 1
  simp only [List.filter_cons, List.filter_nil]
  split <;> rfl
theorem mem_kids {l : List S35} {m : Nat} {p k : Int} (h : k ∈ kidsU l m p) : 0 ≤ k ∧ k < m ∧ fxd l k = true ∧ parL l k = p := by
  unfold kidsU at h
  obtain ⟨i, hi, rfl⟩ := List.mem_map.1 h
  have := List.mem_filter.1 hi
  have h1 := List.mem_range.1 this.1
  have h2 := this.2
  simp only [Bool.and_eq_true, decide_eq_true_eq] at h2
  exact ⟨by omega, by omega, h2.1, h2.2⟩
theorem kids_mem {l : List S35} {m : Nat} {p k : Int} (h0 : 0 ≤ k) (h1 : k < m) (h2 : fxd l k = true) (h3 : parL l k = p) : k ∈ kidsU l m p := by
  unfold kidsU
  refine List.mem_map.2 ⟨k.toNat, List.mem_filter.2 ⟨List.mem_range.2 (by omega), ?_⟩, by omega⟩
  have e : ((k.toNat : Nat) : Int) = k := by omega
  rw [e, h2, h3]; simp
theorem good_kin {l : List S35} (h : goodO l = true) : Kin (kidsL l) (parL l) l.length ∧ l.length < 1000 ∧ ∀ p, ∀ x ∈ kidsL l p, ∀ y ∈ kidsL l p, byEnd l x = byEnd l y → x = y := by
  unfold goodO at h
  simp only [Bool.and_eq_true, decide_eq_true_eq, List.all_eq_true] at h
  refine ⟨⟨fun p k hk => ?_, fun p => ?_⟩, h.1.1, fun p x hx y hy e => ?_⟩
  · have h1 := mem_kids hk
    have h2 := h.1.2 k.toNat (List.mem_range.2 (by omega))
    have e : ((k.toNat : Nat) : Int) = k := by omega
    rw [e, h1.2.2.1] at h2
    simp only [Bool.not_true, Bool.false_or, Bool.and_eq_true, decide_eq_true_eq] at h2
    rw [h1.2.2.2] at h2
    exact ⟨h2.2, h1.1, h1.2.1, h1.2.2.2⟩
  · unfold kidsL kidsU
    rw [List.nodup_iff_pairwise_ne, List.pairwise_map]
    exact (List.nodup_range.filter _).imp (fun h e => h (by omega))
  · have h1 := mem_kids hx
    have h2 := mem_kids hy
    have h3 := h.2 x.toNat (List.mem_range.2 (by omega)) y.toNat (List.mem_range.2 (by omega))
    have e1 : ((x.toNat : Nat) : Int) = x := by omega
    have e2 : ((y.toNat : Nat) : Int) = y := by omega
    rw [e1, e2, h1.2.2.1, h2.2.2.1, h1.2.2.2, h2.2.2.2, e] at h3
    simp at h3
    omega
theorem good_par {l : List S35} (h : goodO l = true) {k : Int} (h0 : 0 ≤ k) (h1 : k < l.length) (h2 : fxd l k = true) : -1 ≤ parL l k ∧ parL l k < k := by
  unfold goodO at h
  simp only [Bool.and_eq_true, decide_eq_true_eq, List.all_eq_true] at h
  have h3 := h.1.2 k.toNat (List.mem_range.2 (by omega))
  have e : ((k.toNat : Nat) : Int) = k := by omega
  rw [e, h2] at h3
  simpa using h3
end Go.Proofs.Ytnlnglfjehohpaa.Q
