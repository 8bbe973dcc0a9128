/- OplistOps: at every input the law returns true and its arguments read as before. No condition. -/
import Derived.Test.YtjpoepiidmoegaaYR
import Derived.Test.YtjpoepiidmoegaaFOplistOps
import Derived.Test.YtjpoepiidmoegaaQ13
namespace Go.Proofs.Ytjpoepiidmoegaa.Q
open Go.RowKit Go.Proofs.YtjpoepiidmoegaaW Go.Proofs.YtjpoepiidmoegaaW.PrintWords Go.Proofs.YtjpoepiidmoegaaW.PrintLast Go.Proofs.YtjpoepiidmoegaaW.PrintMore
set_option linter.unusedVariables false
set_option linter.unusedSimpArgs false
theorem Evals.of_mono {α : Type} {g : Nat → Option α} {r : α} (hm : ∀ k, LeO (g k) (g (k + 1))) (K : Nat) (h : g K = some r) : Evals g r := by
  refine ⟨K, fun k hk => ?_⟩
  obtain ⟨d, rfl⟩ := Nat.exists_eq_add_of_le hk
  clear hk
  induction d with
  | zero => exact h
  | succ d ih => exact hm _ _ ih
/-- The tree that the law grows: every other one in the first. -/
def TT (i : Nat) : List S95 := (List.range i).map (fun j => ⟨((j % 2 : Nat) : Int) - 1, 1, ((j + 1 : Nat) : Int), 0⟩)
theorem TT_len (i : Nat) : (TT i).length = i := by simp [TT]
set_option maxRecDepth 100000 in
theorem begin_0 : tree_Begin.f 3 (TT 0) ((0 : Nat) : Int) (((0 % 2 : Nat) : Int) - 1) = some (TT (0 + 1), ((0 + 1 : Nat) : Int), ((0 : Nat) : Int), 0) := by kernel_rfl
set_option maxRecDepth 100000 in
theorem begin_1 : tree_Begin.f 3 (TT 1) ((1 : Nat) : Int) (((1 % 2 : Nat) : Int) - 1) = some (TT (1 + 1), ((1 + 1 : Nat) : Int), ((1 : Nat) : Int), 0) := by kernel_rfl
set_option maxRecDepth 100000 in
theorem begin_2 : tree_Begin.f 3 (TT 2) ((2 : Nat) : Int) (((2 % 2 : Nat) : Int) - 1) = some (TT (2 + 1), ((2 + 1 : Nat) : Int), ((2 : Nat) : Int), 0) := by kernel_rfl
set_option maxRecDepth 100000 in
theorem begin_3 : tree_Begin.f 3 (TT 3) ((3 : Nat) : Int) (((3 % 2 : Nat) : Int) - 1) = some (TT (3 + 1), ((3 + 1 : Nat) : Int), ((3 : Nat) : Int), 0) := by kernel_rfl
set_option maxRecDepth 100000 in
theorem begin_4 : tree_Begin.f 3 (TT 4) ((4 : Nat) : Int) (((4 % 2 : Nat) : Int) - 1) = some (TT (4 + 1), ((4 + 1 : Nat) : Int), ((4 : Nat) : Int), 0) := by kernel_rfl
set_option maxRecDepth 100000 in
theorem begin_5 : tree_Begin.f 3 (TT 5) ((5 : Nat) : Int) (((5 % 2 : Nat) : Int) - 1) = some (TT (5 + 1), ((5 + 1 : Nat) : Int), ((5 : Nat) : Int), 0) := by kernel_rfl
set_option maxRecDepth 100000 in
theorem begin_6 : tree_Begin.f 3 (TT 6) ((6 : Nat) : Int) (((6 % 2 : Nat) : Int) - 1) = some (TT (6 + 1), ((6 + 1 : Nat) : Int), ((6 : Nat) : Int), 0) := by kernel_rfl
set_option maxRecDepth 100000 in
theorem begin_7 : tree_Begin.f 3 (TT 7) ((7 : Nat) : Int) (((7 % 2 : Nat) : Int) - 1) = some (TT (7 + 1), ((7 + 1 : Nat) : Int), ((7 : Nat) : Int), 0) := by kernel_rfl
theorem begin_step (i : Nat) (h : i < 8) : tree_Begin.f 3 (TT i) (i : Int) (((i % 2 : Nat) : Int) - 1) = some (TT (i + 1), ((i + 1 : Nat) : Int), (i : Int), 0) := by
  match i, h with
  | 0, _ => exact begin_0
  | 1, _ => exact begin_1
  | 2, _ => exact begin_2
  | 3, _ => exact begin_3
  | 4, _ => exact begin_4
  | 5, _ => exact begin_5
  | 6, _ => exact begin_6
  | 7, _ => exact begin_7
theorem begin_ev (i : Nat) (h : i < 8) : Evals (fun k => tree_Begin.f k (TT i) (i : Int) (((i % 2 : Nat) : Int) - 1)) (TT (i + 1), ((i + 1 : Nat) : Int), (i : Int), 0) :=
  Evals.of_mono (fun k => tree_Begin.mono _ _ _ k) 3 (begin_step i h)
theorem alone_at : ∀ K : Fin 9, ∀ f : Fin 8, 1 < K.val → decide ((((K.val : Nat) : Int) - 1) ∈ chain (TT K.val) ((f.val : Nat) : Int)) = decide (((f.val : Nat) : Int) = ((K.val : Nat) : Int) - 1) := by decide +kernel
theorem alone_of {K : Nat} (hK : 1 < K ∧ K ≤ 8) {f : Int} (hf : 0 ≤ f ∧ f < 8) : decide (((K : Int) - 1) ∈ chain (TT K) f) = decide (f = (K : Int) - 1) := by
  have := alone_at ⟨K, by omega⟩ ⟨f.toNat, by omega⟩ hK.1
  simp only at this
  rw [Int.toNat_of_nonneg hf.1] at this
  exact this
theorem chn_in (l : List S95) : ∀ (n : Nat) (id : Int), ∀ x ∈ chn l n id, isB l x = true ∧ isB l id = true
  | 0, id => fun x hx => by cases hx
  | n + 1, id => fun x hx => by
    rw [chn_succ] at hx
    by_cases h : isB l id = true
    · rw [if_pos h] at hx
      rcases List.mem_cons.1 hx with rfl | hx
      · exact ⟨h, h⟩
      · exact ⟨(chn_in l n _ x hx).1, h⟩
    · rw [if_neg h] at hx; cases hx
theorem isB_of {l : List S95} {x : Int} (h : isB l x = true) : 0 ≤ x ∧ x < (l.length : Int) := by unfold isB at h; simpa using h
/-! ### how many -/
/-- The entries of the first n transactions that stand in the first one. -/
def inLow (W : Int → Bool) (n : Int) (E : List S33) : List S33 := E.filter (fun x => decide (x.f0 < n) && W x.f0)
theorem inLow_succ (W : Int → Bool) (n : Int) : ∀ E : List S33, (inLow W (n + 1) E).length = (inLow W n E).length + (if W n = true then (E.filter (fun x => decide (x.f0 = n))).length else 0)
  | [] => by simp [inLow]
  | x :: E => by
    have ih := inLow_succ W n E
    unfold inLow at *
    rw [List.filter_cons, List.filter_cons, List.filter_cons]
    by_cases h1 : x.f0 < n
    · have a1 : decide (x.f0 < n + 1) = true := decide_eq_true (by omega)
      have a2 : decide (x.f0 < n) = true := decide_eq_true h1
      have a3 : decide (x.f0 = n) = false := decide_eq_false (by omega)
      rw [a1, a2, a3]
      cases hw : W x.f0 with
      | true => simp only [Bool.and_self, if_true, List.length_cons, ih, if_neg (show ¬ (false = true) by decide)]; omega
      | false => simp only [Bool.and_false, if_neg (show ¬ (false = true) by decide), ih]
    · by_cases h2 : x.f0 = n
      · have a1 : decide (x.f0 < n + 1) = true := decide_eq_true (by omega)
        have a2 : decide (x.f0 < n) = false := decide_eq_false h1
        have a3 : decide (x.f0 = n) = true := decide_eq_true h2
        rw [a1, a2, a3, h2]
        cases hw : W n with
        | true => rw [hw] at ih; simp only [if_true] at ih; simp only [Bool.and_self, Bool.false_and, if_true, List.length_cons, ih, if_neg (show ¬ (false = true) by decide)]; omega
        | false => rw [hw] at ih; simp only [if_neg (show ¬ (false = true) by decide)] at ih; simp only [Bool.and_false, if_neg (show ¬ (false = true) by decide), ih]
      · have a1 : decide (x.f0 < n + 1) = false := decide_eq_false (by omega)
        have a2 : decide (x.f0 < n) = false := decide_eq_false h1
        have a3 : decide (x.f0 = n) = false := decide_eq_false h2
        rw [a1, a2, a3]
        simp only [Bool.false_and, if_neg (show ¬ (false = true) by decide), ih]
theorem inLow_zero (W : Int → Bool) {E : List S33} (h : ∀ x ∈ E, 0 ≤ x.f0) : inLow W 0 E = [] := by
  unfold inLow
  rw [List.filter_eq_nil_iff]
  intro x hx
  have := h x hx
  have : ¬ x.f0 < 0 := by omega
  simp [this]
theorem inLow_all (W : Int → Bool) (n : Int) {E : List S33} (h : ∀ x ∈ E, W x.f0 = true → x.f0 < n) : inLow W n E = E.filter (fun x => W x.f0) := by
  unfold inLow
  apply List.filter_congr
  intro x hx
  cases hw : W x.f0 with
  | false => simp
  | true => have := h x hx hw; simp [this]
theorem opsv {o : List S33} (ho : Fit o) (t : List S95) (ck top : Int) : oplist_Ops.f o t ck top = some (((opn o).filter (fun x => decide (top ∈ chain t x.f0))).map opOf) := by
  unfold oplist_Ops.f
  rw [if_pos ⟨ho.all, Nat.lt_of_le_of_lt ho.len (by decide)⟩]
theorem num_k (i n : Nat) (h : i < n) (hn : n ≤ 100000) : wrap64 ((i : Int) + 1) = ((i + 1 : Nat) : Int) := by unfold wrap64; omega
theorem num_add (a b : Nat) (h1 : a ≤ 1000) (h2 : b ≤ 1000) : wrap64 ((a : Int) + (b : Int)) = ((a + b : Nat) : Int) := by unfold wrap64; omega
theorem ops_end (o : List S33) (ho : Fit o) (K : Nat) (k2 : Int) (al : List S55) (ow : List S33) (i : Int) : Evals (fun k => heronrylaw15_OplistOps.j4 k true k2 al ow i false o (TT K) (K : Int)) true := by
  refine Evals.succ ?_
  simp only [heronrylaw15_OplistOps.j4, if_neg (show ¬ (false = true) by decide), if_true]
  refine Evals.bind (Evals.of fun _ => opsv ho (TT K) (K : Int) (-1)) ?_
  have : (opn o).filter (fun x => decide ((-1) ∈ chain (TT K) x.f0)) = [] := by
    rw [List.filter_eq_nil_iff]
    intro x _
    simp only [decide_eq_true_eq]
    intro h
    have := isB_of (chn_in _ _ _ _ h).1
    omega
  rw [this]
  exact Evals.of fun _ => rfl
theorem ops_l2 (o M : List S33) (ho : Fit o) (K : Nat) (hK : 1 < K) (hM : M.length ≤ 1000) (d : Nat) : ∀ i : Nat, i + d = M.length → Evals (fun k => heronrylaw15_OplistOps.l2 k true (K : Int) (M.map opOf) M (i : Int) o (TT K) (K : Int)) true := by
  have hk : (K : Int) > 1 := by omega
  induction d with
  | zero =>
    intro i hi
    refine Evals.succ ?_
    have h0 : ¬ (i : Int) < (M.length : Int) := by omega
    simp only [heronrylaw15_OplistOps.l2, if_pos hk]
    rw [decide_eq_false h0]
    exact ops_end o ho K _ _ _ _
  | succ d ih =>
    intro i hi
    refine Evals.succ ?_
    have h0 : (i : Int) < (M.length : Int) := by omega
    have h1 : (0 : Int) ≤ (i : Int) := by omega
    have h2 : (i : Int) < ((M.map opOf).length : Int) := by rw [List.length_map]; exact h0
    have hw := num_k i M.length (by omega) (by omega)
    have e1 : rd_T55 (M.map opOf) (i : Int) = opOf M[i] := by
      unfold rd_T55; simp [List.getD_eq_getElem?_getD, List.getElem?_eq_getElem (show i < M.length by omega)]
    have e2 : rd_T33 M (i : Int) = M[i] := rd_at M i (by omega)
    simp only [heronrylaw15_OplistOps.l2, if_pos hk]
    rw [decide_eq_true h0]
    refine Evals.succ ?_
    simp only [heronrylaw15_OplistOps.j4, if_true, if_pos h0, if_pos h1, if_pos h2, e1, e2, opOf, hw]
    exact ih (i + 1) (by omega)
theorem ops_l1 (o E : List S33) (ho : Fit o) (he : opn o = E) (hE : E.length ≤ 256) (hf : ∀ x ∈ E, 0 ≤ x.f0 ∧ x.f0 < 8) (K : Nat) (hK : 1 ≤ K ∧ K ≤ 8) (d : Nat) : ∀ t : Nat, t + d = K →
    Evals (fun k => heronrylaw15_OplistOps.l1 k true (K : Int) ((E.filter (fun x => decide ((0 : Int) ∈ chain (TT K) x.f0))).map opOf) (((inLow (fun f => decide ((0 : Int) ∈ chain (TT K) f)) (t : Int) E).length : Nat) : Int) (t : Int) o (TT K) (K : Int)) true := by
  induction d with
  | zero =>
    intro t hi
    obtain rfl : t = K := by omega
    have h0 : ¬ (t : Int) < (t : Int) := by omega
    have hw : wrap64 ((t : Int) - 1) = (t : Int) - 1 := by unfold wrap64; omega
    have hall := inLow_all (fun f => decide ((0 : Int) ∈ chain (TT t) f)) (t : Int) (E := E) (fun x hx h => by
      have := isB_of (chn_in _ _ _ _ (of_decide_eq_true h)).2
      rw [TT_len] at this; exact this.2)
    have o1 := opsv ho (TT t) (t : Int) ((t : Int) - 1)
    have o2 := open_val ho ((t : Int) - 1)
    rw [he] at o1 o2
    refine Evals.succ ?_
    simp only [heronrylaw15_OplistOps.l1, if_neg h0, hw, hall, List.length_map, bne_self_eq_false]
    refine Evals.bind (Evals.of fun _ => o1) ?_
    refine Evals.bind (Evals.of fun _ => o2) ?_
    by_cases h1 : (t : Int) > 1
    · have hs : E.filter (fun x => decide (((t : Int) - 1) ∈ chain (TT t) x.f0)) = E.filter (fun x => decide (x.f0 = (t : Int) - 1)) := by
        apply List.filter_congr
        intro x hx
        exact alone_of ⟨by omega, hK.2⟩ (hf x hx)
      rw [hs]
      have hM : (E.filter (fun x => decide (x.f0 = (t : Int) - 1))).length ≤ 1000 := Nat.le_trans (List.length_filter_le _ _) (Nat.le_trans hE (by decide))
      generalize E.filter (fun x => decide (x.f0 = (t : Int) - 1)) = M at *
      simp only [if_pos h1, List.length_map, if_true]
      refine Evals.succ ?_
      simp only [heronrylaw15_OplistOps.j2, if_neg (show ¬ (false = true) by decide)]
      exact ops_l2 o M ho t (by omega) hM M.length 0 (by omega)
    · simp only [if_neg h1]
      refine Evals.succ ?_
      simp only [heronrylaw15_OplistOps.j2, if_neg (show ¬ (false = true) by decide)]
      refine Evals.succ ?_
      simp only [heronrylaw15_OplistOps.l2, if_neg h1]
      exact ops_end o ho t _ _ _ _
  | succ d ih =>
    intro t hi
    have h0 : (t : Int) < (K : Int) := by omega
    have hw := num_k t K (by omega) (by omega)
    have o2 := open_val ho (t : Int)
    rw [he] at o2
    have hwi : tree_Within.f (TT K) (K : Int) (t : Int) 0 = some (decide ((0 : Int) ∈ chain (TT K) (t : Int))) := rfl
    have hsu := inLow_succ (fun f => decide ((0 : Int) ∈ chain (TT K) f)) (t : Int) E
    have hk := ih (t + 1) (by omega)
    have hc : (((t + 1 : Nat) : Int)) = (t : Int) + 1 := by omega
    rw [hc, hsu] at hk
    have l1 : (inLow (fun f => decide ((0 : Int) ∈ chain (TT K) f)) (t : Int) E).length ≤ 1000 := Nat.le_trans (List.length_filter_le _ _) (Nat.le_trans hE (by decide))
    have l2 : (E.filter (fun x => decide (x.f0 = (t : Int)))).length ≤ 1000 := Nat.le_trans (List.length_filter_le _ _) (Nat.le_trans hE (by decide))
    have hadd := num_add _ _ l1 l2
    refine Evals.succ ?_
    simp only [heronrylaw15_OplistOps.l1, if_pos h0]
    refine Evals.bind (Evals.of fun _ => o2) ?_
    refine Evals.bind (Evals.of fun _ => hwi) ?_
    rw [hw, hc, hadd]
    cases hd : decide ((0 : Int) ∈ chain (TT K) (t : Int)) with
    | true =>
      rw [hd] at hk
      simp only [if_true] at hk ⊢
      exact hk
    | false =>
      rw [hd] at hk
      simp only [if_neg (show ¬ (false = true) by decide), Nat.add_zero] at hk ⊢
      exact hk
theorem ops_l0 (o : List S33) (K : Nat) (hK : K ≤ 8) (hnext : Evals (fun k => heronrylaw15_OplistOps.l0 k true (K : Int) (K : Int) o (TT K) (K : Int)) true) (d : Nat) : ∀ i : Nat, i + d = K →
    Evals (fun k => heronrylaw15_OplistOps.l0 k true (K : Int) (i : Int) o (TT i) (i : Int)) true := by
  induction d with
  | zero =>
    intro i hi
    obtain rfl : i = K := by omega
    exact hnext
  | succ d ih =>
    intro i hi
    have h0 : (i : Int) < (K : Int) := by omega
    have hw := num_k i K (by omega) (by omega)
    have hp : wrap64 ((i : Int) % 2 - 1) = ((i % 2 : Nat) : Int) - 1 := by unfold wrap64; omega
    have hb := begin_ev i (by omega)
    refine Evals.succ ?_
    simp only [heronrylaw15_OplistOps.l0, if_pos h0, and_1, hp]
    refine Evals.bind hb ?_
    simp only [if_true, hw]
    exact ih (i + 1) (by omega)
theorem ops_ev (l : List S74) (hl : ∀ y ∈ l, g74 y) (a1 : Int) : Evals (fun k => heronrylaw15_OplistOps.f k l a1) true := by
  unfold heronrylaw15_OplistOps.f
  refine Evals.bind awake_ev ?_
  by_cases h : (l.length : Int) > 200
  · simp only [if_pos h]; exact Evals.const _
  simp only [if_neg h, and_7]
  obtain ⟨o, ho, hEv⟩ := grown_ev l hl (by omega)
  refine Evals.bind hEv ?_
  obtain ⟨K, hKe, hK⟩ : ∃ K : Nat, wrap64 (1 + a1 % 8) = (K : Int) ∧ 1 ≤ K ∧ K ≤ 8 := ⟨(1 + a1 % 8).toNat, by unfold wrap64; omega, by omega, by omega⟩
  rw [hKe]
  obtain ⟨E, e1, e2⟩ := ho.fit.is
  have he := opn_of e1
  have hfew := opn_mem ho.few
  rw [he] at hfew
  have hE : E.length ≤ 256 := Nat.le_trans (Nat.le_add_left _ _) e2
  have hf : ∀ x ∈ E, 0 ≤ x.f0 ∧ x.f0 < 8 := fun x hx => ⟨(hfew x hx).1, (hfew x hx).2.1⟩
  refine ops_l0 o K hK.2 ?_ K 0 (by omega)
  have h0 : ¬ (K : Int) < (K : Int) := by omega
  have o1 := opsv ho.fit (TT K) (K : Int) 0
  rw [he] at o1
  refine Evals.succ ?_
  simp only [heronrylaw15_OplistOps.l0, if_neg h0]
  refine Evals.bind (Evals.of fun _ => o1) ?_
  have := ops_l1 o E ho.fit he hE hf K hK K 0 (by omega)
  have e0 : inLow (fun f => decide ((0 : Int) ∈ chain (TT K) f)) ((0 : Nat) : Int) E = [] := inLow_zero _ (fun x hx => (hf x hx).1)
  rw [e0] at this
  exact this
end Go.Proofs.Ytjpoepiidmoegaa.Q
namespace Go.Proofs.Ytjpoepiidmoegaa
theorem oplistOps_holds : Rows.OplistOpsSaid :=
  oplistOps.said fun A0 c0 l0 a1 w hr hc hg h1 => by
    obtain ⟨k, hk⟩ := (Q.ops_ev l0 hg a1).get
    exact Q.heronrylaw15_OplistOps.calls k A0 c0 l0 a1 true w ⟨rfl⟩ hr hc hk
end Go.Proofs.Ytjpoepiidmoegaa
