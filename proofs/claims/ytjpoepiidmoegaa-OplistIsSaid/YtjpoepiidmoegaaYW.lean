/- What the document's Net, Undo, Open, Ops and Within answer. No condition beyond the entries' ranges and how many they are. -/
import Derived.Test.YtjpoepiidmoegaaYV
import Derived.Test.YtjpoepiidmoegaaOP
import Derived.Test.YtjpoepiidmoegaaQ23
import Derived.Test.YtjpoepiidmoegaaQ25
namespace Go.Proofs.Ytjpoepiidmoegaa.Q
open Go.RowKit Go.Proofs.YtjpoepiidmoegaaW Go.Proofs.YtjpoepiidmoegaaW.PrintWords Go.Proofs.YtjpoepiidmoegaaW.PrintLast Go.Proofs.YtjpoepiidmoegaaW.PrintMore
set_option linter.unusedVariables false
set_option linter.unusedSimpArgs false
/-! ### sums -/
theorem wide_of (v : Int) : heronryref12_of.f v = some (v / 4294967296, v % 4294967296) := by unfold heronryref12_of.f; rw [and_4294967295]
theorem wide_plus (S T : Int) (h1 : -1208925819614629174706176 ≤ S) (h2 : S ≤ 1208925819614629174706176) (h3 : -1208925819614629174706176 ≤ T) (h4 : T ≤ 1208925819614629174706176) :
    heronryref12_plus.f (S / 4294967296) (S % 4294967296) (T / 4294967296) (T % 4294967296) = some ((S + T) / 4294967296, (S + T) % 4294967296) := by
  unfold heronryref12_plus.f
  have w1 : wrap64 (S / 4294967296 + T / 4294967296) = S / 4294967296 + T / 4294967296 := by unfold wrap64; omega
  have w2 : wrap64 (S % 4294967296 + T % 4294967296) = S % 4294967296 + T % 4294967296 := by unfold wrap64; omega
  rw [w1, w2, and_4294967295]
  have w3 : wrap64 (S / 4294967296 + T / 4294967296 + (S % 4294967296 + T % 4294967296) / 4294967296) = (S + T) / 4294967296 := by unfold wrap64; omega
  rw [w3]
  have w4 : (S % 4294967296 + T % 4294967296) % 4294967296 = (S + T) % 4294967296 := by omega
  rw [w4]
theorem wide_told (T : Int) : heronryref12_told.f (T / 4294967296) (T % 4294967296) = some (toldOf T) := by
  unfold heronryref12_told.f toldOf
  by_cases h : inR T = true
  · have h' := (inR_iff T).1 h
    have w1 : wrap64 (T / 4294967296 * 4294967296) = T / 4294967296 * 4294967296 := by unfold wrap64; omega
    have w2 : wrap64 (T / 4294967296 * 4294967296 + T % 4294967296) = T := by unfold wrap64; omega
    rw [if_pos h, if_neg (by omega), if_neg (by omega), w1, w2]
  · have h' : ¬ (-9223372036854775808 ≤ T ∧ T ≤ 9223372036854775807) := fun hh => h ((inR_iff T).2 hh)
    rw [if_neg h]
    by_cases h0 : T / 4294967296 < -2147483648
    · rw [if_pos h0]
    · rw [if_neg h0, if_pos (by omega)]
theorem rsum_bound (T x i : Int) (h1 : -9223372036854775808 * i ≤ T) (h2 : T ≤ 9223372036854775807 * i) (hx : inR x = true) : -9223372036854775808 * (i + 1) ≤ T + x ∧ T + x ≤ 9223372036854775807 * (i + 1) := by
  have := (inR_iff x).1 hx
  omega
theorem rsum_plus (T x i : Int) (hi : 0 ≤ i ∧ i ≤ 4096) (h1 : -9223372036854775808 * i ≤ T) (h2 : T ≤ 9223372036854775807 * i) (hx : inR x = true) : heronryref12_plus.f (T / 4294967296) (T % 4294967296) (x / 4294967296) (x % 4294967296) = some ((T + x) / 4294967296, (T + x) % 4294967296) := by
  have := (inR_iff x).1 hx
  exact wide_plus T x (by omega) (by omega) (by omega) (by omega)
theorem sumBy_head (x : Int) (l : List Int) : sumBy id (x :: l) = x + sumBy id l := by simp [sumBy]
theorem rsum_loop (l : List Int) (hl : ∀ x ∈ l, inR x = true) (hn : l.length ≤ 4096) (d : Nat) : ∀ (i : Nat) (T : Int), i + d = l.length → -9223372036854775808 * (i : Int) ≤ T → T ≤ 9223372036854775807 * (i : Int) →
    Evals (fun k => heronryref12_Sum.l0 k l (i : Int) (T / 4294967296) (T % 4294967296)) (toldOf (T + sumBy id (l.drop i))) := by
  induction d with
  | zero =>
    intro i T hi h1 h2
    refine Evals.succ ?_
    have h0 : ¬ (i : Int) < (l.length : Int) := by omega
    have e : l.drop i = [] := List.drop_eq_nil_of_le (by omega)
    have e0 : sumBy id [] = 0 := rfl
    rw [e, e0, Int.add_zero]
    simp only [heronryref12_Sum.l0, if_neg h0]
    refine Evals.bind (Evals.of fun _ => wide_told T) ?_
    exact Evals.of fun _ => rfl
  | succ d ih =>
    intro i T hi h1 h2
    have h0 : (i : Int) < (l.length : Int) := by omega
    have hz : (0 : Int) ≤ (i : Int) := by omega
    have hx : rd l (i : Int) = l[i] := by simp [rd, List.getD_eq_getElem?_getD, List.getElem?_eq_getElem (show i < l.length by omega)]
    have hd : l.drop i = l[i] :: l.drop (i + 1) := List.drop_eq_getElem_cons (by omega)
    have hr := hl _ (List.getElem_mem (show i < l.length by omega))
    have hw := num_next i l.length (by omega) (by omega)
    rw [hd]
    have e : T + sumBy id (l[i] :: l.drop (i + 1)) = (T + l[i]) + sumBy id (l.drop (i + 1)) := by rw [sumBy_head, Int.add_assoc]
    rw [e]
    generalize l[i] = x at *
    obtain ⟨b1, b2⟩ := rsum_bound T x i h1 h2 hr
    have hp := rsum_plus T x i ⟨hz, by omega⟩ h1 h2 hr
    have hk := ih (i + 1) (T + x) (by omega) (by rw [Int.natCast_add]; exact b1) (by rw [Int.natCast_add]; exact b2)
    refine Evals.succ ?_
    simp only [heronryref12_Sum.l0, if_pos h0, if_pos hz, hx, hw]
    refine Evals.bind (Evals.of fun _ => wide_of x) ?_
    refine Evals.bind (Evals.of fun _ => hp) ?_
    exact hk
theorem rsum_ev (l : List Int) (hl : ∀ x ∈ l, inR x = true) (hn : l.length ≤ 4096) : Evals (fun k => heronryref12_Sum.f k l) (toldOf (sumBy id l)) := by
  unfold heronryref12_Sum.f
  have h : ¬ (l.length : Int) > 4096 := by omega
  simp only [if_neg h]
  have := rsum_loop l hl hn l.length 0 0 (by omega) (by omega) (by omega)
  rw [Int.zero_add] at this
  exact this
theorem netR_loop (l : List S83) (hi : ∀ k, k < l.length → inI (gl l k).f2 = true) (hn : l.length ≤ 1000) (c : Int) (d : Nat) : ∀ i : Nat, i + d = l.length →
    Evals (fun k => heronryref15_Net.l0 k c (addC c ((l.take i).map ou)) (i : Int) l) (toldOf (sumC c (l.map ou))) := by
  induction d with
  | zero =>
    intro i hd
    refine Evals.succ ?_
    have h0 : ¬ (i : Int) < (l.length : Int) := by omega
    rw [List.take_of_length_le (show l.length ≤ i by omega)]
    have hall : ∀ x ∈ addC c (l.map ou), inR x = true := fun x hx => by
      unfold addC at hx
      obtain ⟨y, hy, rfl⟩ := List.mem_map.1 hx
      obtain ⟨z, hz, rfl⟩ := List.mem_map.1 (List.mem_filter.1 hy).1
      obtain ⟨k, hk, rfl⟩ := List.mem_iff_getElem.1 hz
      have := hi k hk
      rw [gl_at hk] at this
      exact this
    have hlen : (addC c (l.map ou)).length ≤ 4096 := Nat.le_trans (addC_len _ _) (by simp; omega)
    simp only [heronryref15_Net.l0, if_neg h0]
    refine Evals.bind (rsum_ev _ hall hlen) ?_
    exact Evals.of fun _ => rfl
  | succ d ih =>
    intro i hd
    have h0 : (i : Int) < (l.length : Int) := by omega
    have h1 : (0 : Int) ≤ (i : Int) := by omega
    have hl : (addC c ((l.take i).map ou)).length < 17592186044416 := Nat.lt_of_le_of_lt (addC_len _ _) (by simp; omega)
    have hw := num_next i l.length (by omega) (by omega)
    have eb : rd_T83 l (i : Int) = gl l i := rfl
    have hk := ih (i + 1) (by omega)
    rw [take_snoc (show i < l.length by omega), addC_app] at hk
    refine Evals.succ ?_
    simp only [heronryref15_Net.l0, eb, if_pos h0, if_pos h1, if_pos hl, hw]
    by_cases hc : (gl l i).f1 = c
    · rw [addC_one_yes (x := ou (gl l i)) hc] at hk
      simp only [if_pos hc]; exact hk
    · rw [addC_one_no (x := ou (gl l i)) hc, List.append_nil] at hk
      simp only [if_neg hc]; exact hk
theorem netR_ev (l : List S83) (hi : ∀ k, k < l.length → inI (gl l k).f2 = true) (hn : l.length ≤ 1000) (c : Int) : Evals (fun k => heronryref15_Net.f k l c) (toldOf (sumC c (l.map ou))) :=
  netR_loop l hi hn c l.length 0 (by omega)
/-! ### what is chosen -/
def selP (l : List S83) (out : List Bool) (p : S83 → Bool) (n : Nat) : List Nat := (opP l out n).filter (fun k => p (gl l k))
theorem selP_succ (l : List S83) (out : List Bool) (p : S83 → Bool) (n : Nat) : selP l out p (n + 1) = selP l out p n ++ (if flB l out n = true then (if p (gl l n) = true then [n] else []) else []) := by
  unfold selP
  rw [opP_flB, List.filter_append]
  congr 1
  by_cases h : flB l out n = true
  · rw [if_pos h, if_pos h]
    by_cases h2 : p (gl l n) = true
    · rw [if_pos h2, List.filter_cons, if_pos h2]; rfl
    · rw [if_neg h2, List.filter_cons, if_neg h2]; rfl
  · rw [if_neg h, if_neg h]; rfl
theorem selP_len (l : List S83) (out : List Bool) (p : S83 → Bool) (n : Nat) : (selP l out p n).length ≤ n := Nat.le_trans (List.length_filter_le _ _) (opP_len l out n)
theorem selP_opn {l : List S83} {out : List Bool} (hu : Und l l.length out) (p : S83 → Bool) (q : S33 → Bool) (h : ∀ x, q (ou x) = p x) : (opn (l.map ou)).filter q = (selP l out p l.length).map (fun k => ou (gl l k)) := by
  rw [opn_of (opn_ref hu)]
  unfold opEs selP
  rw [List.filter_map]
  congr 1
  apply List.filter_congr
  intro k _
  exact h (gl l k)
theorem among_loop (x : Int) (l : List Int) (hn : l.length ≤ 1000) (d : Nat) : ∀ i : Nat, i + d = l.length → Evals (fun k => heronryref15_among.l0 k x l (i : Int)) (decide (x ∈ l.drop i)) := by
  induction d with
  | zero =>
    intro i hi
    refine Evals.succ ?_
    have h0 : ¬ (i : Int) < (l.length : Int) := by omega
    have e : l.drop i = [] := List.drop_eq_nil_of_le (by omega)
    rw [e]
    simp only [heronryref15_among.l0, if_neg h0]
    exact Evals.of fun _ => by simp
  | succ d ih =>
    intro i hi
    have h0 : (i : Int) < (l.length : Int) := by omega
    have h1 : (0 : Int) ≤ (i : Int) := by omega
    have hx : rd l (i : Int) = l[i] := by simp [rd, List.getD_eq_getElem?_getD, List.getElem?_eq_getElem (show i < l.length by omega)]
    have hd : l.drop i = l[i] :: l.drop (i + 1) := List.drop_eq_getElem_cons (by omega)
    have hw := num_next i l.length (by omega) (by omega)
    have hk := ih (i + 1) (by omega)
    rw [hd]
    refine Evals.succ ?_
    simp only [heronryref15_among.l0, if_pos h0, if_pos h1, hx, hw]
    by_cases he : l[i] = x
    · simp only [if_pos he]
      exact Evals.of fun _ => by simp [he]
    · simp only [if_neg he]
      have : decide (x ∈ l[i] :: l.drop (i + 1)) = decide (x ∈ l.drop (i + 1)) := by
        rw [decide_eq_decide, List.mem_cons]
        exact ⟨fun h => h.elim (fun e => absurd e.symm he) id, .inr⟩
      rw [this]
      exact hk
theorem among_ev (x : Int) (l : List Int) (hn : l.length ≤ 1000) : Evals (fun k => heronryref15_among.f k x l) (decide (x ∈ l)) := by
  have := among_loop x l hn l.length 0 (by omega)
  rw [List.drop_zero] at this
  exact this
theorem openR_loop (l : List S83) (out : List Bool) (hn : l.length ≤ 1000) (tx : Int) (d : Nat) : ∀ i : Nat, i + d = l.length →
    Evals (fun k => heronryref15_Open.l0 k tx (flF l out l.length) ((selP l out (fun x => decide (x.f0 = tx)) i).map (gl l)) (i : Int) l) ((selP l out (fun x => decide (x.f0 = tx)) l.length).map (gl l)) := by
  induction d with
  | zero =>
    intro i hi
    obtain rfl : i = l.length := by omega
    refine Evals.succ ?_
    have h0 : ¬ (l.length : Int) < (l.length : Int) := by omega
    simp only [heronryref15_Open.l0, if_neg h0]
    exact Evals.const _
  | succ d ih =>
    intro i hi
    have h0 : (i : Int) < (l.length : Int) := by omega
    have h1 : (0 : Int) ≤ (i : Int) := by omega
    have h2 : (i : Int) < ((flF l out l.length).length : Int) := by rw [flF_len]; omega
    have eb : rd_T83 l (i : Int) = gl l i := rfl
    have hw := num_next i l.length (by omega) (by omega)
    have hfl := fl_at l out i (by omega)
    have hl : ((selP l out (fun x => decide (x.f0 = tx)) i).map (gl l)).length < 4398046511104 := by rw [List.length_map]; exact Nat.lt_of_le_of_lt (selP_len _ _ _ _) (by omega)
    have hk := ih (i + 1) (by omega)
    rw [selP_succ] at hk
    refine Evals.succ ?_
    simp only [heronryref15_Open.l0, eb, if_pos h0, if_pos h1, if_pos h2, hfl, hw, if_pos hl]
    cases hf : flB l out i with
    | false =>
      rw [hf, if_neg (by decide), List.append_nil] at hk
      simp only [if_neg (show ¬ (false = true) by decide)]; exact hk
    | true =>
      rw [hf, if_pos rfl] at hk
      simp only [if_true]
      by_cases ht : (gl l i).f0 = tx
      · rw [if_pos (by simp [ht]), List.map_append] at hk
        simp only [if_pos ht]; exact hk
      · rw [if_neg (by simp [ht]), List.append_nil] at hk
        simp only [if_neg ht]; exact hk
theorem openR_ev {l : List S83} {R : List Bool × Bool} (hu : Und l l.length R.1) (h2 : R.2 = true) (hn : l.length ≤ 1000) (hE : Evals (fun k => heronryref15_undone.f k l) R) (tx : Int) :
    Evals (fun k => heronryref15_Open.f k l tx) (((opn (l.map ou)).filter (fun x => decide (x.f0 = tx))).map th) := by
  unfold heronryref15_Open.f
  refine Evals.bind (fopen_ev hu h2 hn hE) ?_
  have := openR_loop l R.1 hn tx l.length 0 (by omega)
  rw [selP_opn hu (fun x => decide (x.f0 = tx)) _ (fun x => rfl), List.map_map]
  exact this
def undo83 (x : S83) : S83 := ⟨x.f0, x.f1, wrap64 (-x.f2), true⟩
theorem num_prev (i n : Nat) (h : i < n) (hn : n ≤ 100000) : wrap64 ((i : Int) - 1) = (i : Int) - 1 := by unfold wrap64; omega
theorem undoR_loop (l : List S83) (out : List Bool) (hn : l.length ≤ 1000) (txs : List Int) (hx : txs.length ≤ 1000) (d : Nat) : ∀ acc : List S83, d ≤ l.length → acc.length + d ≤ 100000 →
    Evals (fun k => heronryref15_Undo.l0 k txs (flF l out l.length) acc ((d : Int) - 1) l) (acc ++ (selP l out (fun x => decide (x.f0 ∈ txs)) d).reverse.map (fun k => undo83 (gl l k))) := by
  induction d with
  | zero =>
    intro acc hi ha
    refine Evals.succ ?_
    have h0 : ¬ (((0 : Nat) : Int) - 1 ≥ 0) := by omega
    have e : selP l out (fun x => decide (x.f0 ∈ txs)) 0 = [] := rfl
    rw [e, List.reverse_nil, List.map_nil, List.append_nil]
    simp only [heronryref15_Undo.l0, if_neg h0]
    exact Evals.const _
  | succ d ih =>
    intro acc hi ha
    have e : ((d + 1 : Nat) : Int) - 1 = (d : Int) := by omega
    rw [e, selP_succ]
    have h0 : (d : Int) ≥ 0 := by omega
    have h1 : (0 : Int) ≤ (d : Int) := by omega
    have h3 : (d : Int) < (l.length : Int) := by omega
    have h2 : (d : Int) < ((flF l out l.length).length : Int) := by rw [flF_len]; omega
    have eb : rd_T83 l (d : Int) = gl l d := rfl
    have hw := num_prev d l.length (by omega) (by omega)
    have hfl := fl_at l out d (by omega)
    have hl : acc.length < 4398046511104 := by omega
    have ham := among_ev (gl l d).f0 txs hx
    refine Evals.succ ?_
    simp only [heronryref15_Undo.l0, eb, if_pos h0, if_pos h1, if_pos h2, if_pos h3, hfl, hw, if_pos hl]
    cases hf : flB l out d with
    | false =>
      rw [if_neg (by decide), List.append_nil]
      simp only [if_neg (show ¬ (false = true) by decide)]
      exact ih acc (by omega) (by omega)
    | true =>
      rw [if_pos rfl]
      simp only [if_true]
      refine Evals.bind ham ?_
      by_cases ht : (gl l d).f0 ∈ txs
      · rw [decide_eq_true ht, if_pos rfl, List.reverse_append, List.map_append]
        simp only [if_true]
        have := ih (acc ++ [undo83 (gl l d)]) (by omega) (by rw [List.length_append, List.length_singleton]; omega)
        rw [List.append_assoc] at this
        exact this
      · rw [decide_eq_false ht, if_neg (by decide), List.append_nil]
        simp only [if_neg (show ¬ (false = true) by decide)]
        exact ih acc (by omega) (by omega)
theorem undoR_ev {l : List S83} {R : List Bool × Bool} (hu : Und l l.length R.1) (h2 : R.2 = true) (hn : l.length ≤ 1000) (hE : Evals (fun k => heronryref15_undone.f k l) R) (txs : List Int) (hx : txs.length ≤ 1000) :
    Evals (fun k => heronryref15_Undo.f k l txs) ((undL (l.map ou) (fun x => decide (x.f0 ∈ txs))).map th) := by
  unfold heronryref15_Undo.f
  refine Evals.bind (fopen_ev hu h2 hn hE) ?_
  refine Evals.bind (Evals.const _) ?_
  have g : ([] : List S83).length + l.length < 4398046511104 := by simp; omega
  have hw : wrap64 ((l.length : Int) - 1) = (l.length : Int) - 1 := by unfold wrap64; omega
  simp only [if_pos g, List.nil_append, hw]
  have := undoR_loop l R.1 hn txs hx l.length l (Nat.le_refl _) (by omega)
  unfold undL
  rw [selP_opn hu (fun x => decide (x.f0 ∈ txs)) _ (fun x => rfl), List.map_append, ← List.map_reverse, List.map_map, List.map_map, List.map_map]
  have e : (th ∘ ou) = id := rfl
  rw [e, List.map_id]
  exact this
end Go.Proofs.Ytjpoepiidmoegaa.Q
