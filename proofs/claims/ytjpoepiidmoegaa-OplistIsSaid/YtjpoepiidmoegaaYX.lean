/- What the document's Within and Ops answer, and the copies. No condition beyond how many they are. -/
import Derived.Test.YtjpoepiidmoegaaYW
import Derived.Test.YtjpoepiidmoegaaQ14
namespace Go.Proofs.Ytjpoepiidmoegaa.Q
open Go.RowKit Go.Proofs.YtjpoepiidmoegaaW Go.Proofs.YtjpoepiidmoegaaW.PrintWords Go.Proofs.YtjpoepiidmoegaaW.PrintLast Go.Proofs.YtjpoepiidmoegaaW.PrintMore
set_option linter.unusedVariables false
set_option linter.unusedSimpArgs false
def gr (x : S107) : S95 := ⟨x.f0, x.f1, x.f2, x.f3⟩
theorem rd_gr (l : List S107) (i : Int) : rd_T95 (l.map gr) i = gr (rd_T107 l i) := by
  unfold rd_T95 rd_T107
  simp only [List.getD_eq_getElem?_getD, List.getElem?_map]
  cases l[i.toNat]? <;> rfl
theorem isB_map {ck : Int} (l : List S107) (i : Int) : heronryref09_is.f l ck i = some (isB (l.map gr) i) := by
  unfold heronryref09_is.f isB
  by_cases h : i ≥ 0
  · have h' : (0 : Int) ≤ i := h
    rw [if_pos h]; simp [h']
  · have h' : ¬ (0 : Int) ≤ i := h
    rw [if_neg h]; simp [h']
/-! ### what one stands in: no more than there are -/
theorem nodup_bound : ∀ (n : Nat) (l : List Int), l.Nodup → (∀ x ∈ l, 0 ≤ x ∧ x < n) → l.length ≤ n
  | 0, l, _, h => by
    cases l with
    | nil => exact Nat.le_refl _
    | cons a l => have := h a (List.mem_cons_self ..); omega
  | n + 1, l, hd, h => by
    by_cases hm : (n : Int) ∈ l
    · have h1 := nodup_bound n (l.erase (n : Int)) (hd.erase _) (fun x hx => by
        have h2 := (hd.mem_erase_iff).1 hx
        have h3 := h x h2.2
        have h4 : x ≠ (n : Int) := h2.1
        omega)
      rw [List.length_erase_of_mem hm] at h1
      omega
    · have h1 := nodup_bound n l hd (fun x hx => by
        have h3 := h x hx
        have h4 : x ≠ (n : Int) := fun e => hm (e ▸ hx)
        omega)
      omega
theorem chn_one (l : List S95) (n : Nat) (id : Int) (h : isB l id = true) : chn l (n + 1) id = id :: chn l n (rd_T95 l id).f0 := by rw [chn_succ, if_pos h]
theorem chn_no (l : List S95) (n : Nat) (id : Int) (h : isB l id = false) : chn l n id = [] := by
  cases n with
  | zero => rfl
  | succ n => rw [chn_succ, if_neg (by rw [h]; decide)]
theorem chn_take (l : List S95) : ∀ (n : Nat) (id : Int), chn l n id = (chn l (n + 1) id).take n
  | 0, id => rfl
  | n + 1, id => by
    cases h : isB l id with
    | false => rw [chn_no l _ id h, chn_no l _ id h]; rfl
    | true => rw [chn_one l n id h, chn_one l (n + 1) id h, List.take_succ_cons, ← chn_take l n]
theorem chn_le (l : List S95) : ∀ (n : Nat) (id : Int), (chn l n id).length ≤ n
  | 0, id => Nat.le_refl _
  | n + 1, id => by
    cases h : isB l id with
    | false => rw [chn_no l _ id h]; exact Nat.zero_le _
    | true => rw [chn_one l n id h, List.length_cons]; have := chn_le l n (rd_T95 l id).f0; omega
theorem chn_valid (l : List S95) : ∀ (n : Nat) (id : Int), ∀ x ∈ chn l n id, isB l x = true
  | 0, id => fun x hx => by cases hx
  | n + 1, id => fun x hx => by
    cases h : isB l id with
    | false => rw [chn_no l _ id h] at hx; cases hx
    | true =>
      rw [chn_one l n id h] at hx
      rcases List.mem_cons.1 hx with rfl | hx
      · exact h
      · exact chn_valid l n _ x hx
theorem chn_next (l : List S95) : ∀ (n : Nat) (id : Int) (k : Nat) (h1 : k + 1 < (chn l n id).length), (chn l n id)[k + 1] = (rd_T95 l ((chn l n id)[k]'(by omega))).f0
  | 0, id, k, h1 => by simp [chn] at h1
  | n + 1, id, k, h1 => by
    cases h : isB l id with
    | false => have e := chn_no l (n + 1) id h; rw [e] at h1; simp at h1
    | true =>
      have e := chn_one l n id h
      have h2 : k < (chn l n (rd_T95 l id).f0).length := by rw [e] at h1; simp at h1; exact h1
      have g : ∀ (m : Nat) (hm : m < (chn l (n + 1) id).length), (chn l (n + 1) id)[m] = (id :: chn l n (rd_T95 l id).f0)[m]'(by rw [← e]; exact hm) := fun m hm => by congr 1
      rw [g (k + 1) h1, g k (by omega)]
      rw [List.getElem_cons_succ]
      cases k with
      | zero =>
        rw [List.getElem_cons_zero]
        cases n with
        | zero => simp [chn] at h2
        | succ n =>
          cases h3 : isB l (rd_T95 l id).f0 with
          | false => have e3 := chn_no l (n + 1) _ h3; rw [e3] at h2; simp at h2
          | true =>
            have e3 := chn_one l n _ h3
            have : ∀ (m : Nat) (hm : m < (chn l (n + 1) (rd_T95 l id).f0).length), (chn l (n + 1) (rd_T95 l id).f0)[m] = ((rd_T95 l id).f0 :: chn l n (rd_T95 l (rd_T95 l id).f0).f0)[m]'(by rw [← e3]; exact hm) := fun m hm => by congr 1
            rw [this 0 h2]; rfl
      | succ k =>
        rw [List.getElem_cons_succ]
        exact chn_next l n _ k h2
theorem chn_back (l : List S95) (n : Nat) (id : Int) (a b : Nat) (hab : a < b) (hb : b < (chn l n id).length) (he : (chn l n id)[a]'(by omega) = (chn l n id)[b]) : ∀ (j : Nat) (hj : b + j < (chn l n id).length), (chn l n id)[a + j]'(by omega) = (chn l n id)[b + j]
  | 0, hj => he
  | j + 1, hj => by
    have ih := chn_back l n id a b hab hb he j (by omega)
    have e1 := chn_next l n id (a + j) (by omega)
    have e2 := chn_next l n id (b + j) (by omega)
    show (chn l n id)[a + j + 1]'(by omega) = (chn l n id)[b + j + 1]'(by omega)
    rw [e1, e2, ih]
theorem isB_range {l : List S95} {x : Int} (h : isB l x = true) : 0 ≤ x ∧ x < (l.length : Nat) := by unfold isB at h; simpa using h
/-- One step more than there are transactions finds no more. -/
theorem chn_more (l : List S95) (id x : Int) : x ∈ chn l (l.length + 1) id ↔ x ∈ chn l l.length id := by
  constructor
  · intro hx
    obtain ⟨c, hc⟩ : ∃ c, chn l (l.length + 1) id = c := ⟨_, rfl⟩
    obtain ⟨i, hi, he⟩ := List.mem_iff_getElem.1 hx
    by_cases hil : i < l.length
    · rw [chn_take l l.length id]
      exact List.mem_iff_getElem.2 ⟨i, by rw [List.length_take]; omega, by rw [List.getElem_take]; exact he⟩
    · have hlen := chn_le l (l.length + 1) id
      have hi2 : i = l.length := by omega
      by_cases hd : (chn l (l.length + 1) id).Nodup
      · have := nodup_bound l.length _ hd (fun y hy => isB_range (chn_valid l _ id y hy))
        omega
      · have hne : ∃ a b, ∃ (h1 : a < b) (h2 : b < (chn l (l.length + 1) id).length), (chn l (l.length + 1) id)[a]'(by omega) = (chn l (l.length + 1) id)[b] := Classical.byContradiction fun hno => hd (by
          unfold List.Nodup
          rw [List.pairwise_iff_getElem]
          intro a b ha hb hab e
          exact hno ⟨a, b, hab, hb, e⟩)
        obtain ⟨a, b, hab, hb, e⟩ := hne
        have := chn_back l (l.length + 1) id a b hab hb e (i - b) (by omega)
        have e2 : b + (i - b) = i := by omega
        rw [chn_take l l.length id]
        refine List.mem_iff_getElem.2 ⟨a + (i - b), by rw [List.length_take]; omega, ?_⟩
        rw [List.getElem_take, this]
        rw [← he]
        congr 1
  · intro hx
    rw [chn_take l l.length id] at hx
    exact List.mem_of_mem_take hx
theorem withinR_loop (l : List S107) (ck top : Int) (hn : l.length ≤ 1000) (m : Nat) : ∀ (i : Nat) (id : Int), i + m = l.length + 1 →
    Evals (fun k => heronryref09_Within.l0 k id top (i : Int) l ck) (decide (top ∈ chn (l.map gr) m id)) := by
  induction m with
  | zero =>
    intro i id hi
    have h0 : ¬ (i : Int) ≤ (l.length : Int) := by omega
    refine Evals.succ ?_
    simp only [heronryref09_Within.l0, if_neg h0]
    refine Evals.succ ?_
    simp only [heronryref09_Within.j2, if_neg (show ¬ (false = true) by decide)]
    exact Evals.of fun _ => by simp [chn]
  | succ m ih =>
    intro i id hi
    have h0 : (i : Int) ≤ (l.length : Int) := by omega
    have hw : wrap64 ((i : Int) + 1) = ((i + 1 : Nat) : Int) := by unfold wrap64; omega
    refine Evals.succ ?_
    simp only [heronryref09_Within.l0, if_pos h0]
    refine Evals.bind (Evals.of fun _ => isB_map l id) ?_
    refine Evals.succ ?_
    cases hb : isB (l.map gr) id with
    | false =>
      rw [chn_no _ _ id hb]
      simp only [heronryref09_Within.j2, if_neg (show ¬ (false = true) by decide)]
      exact Evals.of fun _ => by simp
    | true =>
      obtain ⟨h1, h2⟩ := isB_range hb
      rw [List.length_map] at h2
      have h2' : id < (l.length : Int) := h2
      rw [chn_one _ _ id hb]
      simp only [heronryref09_Within.j2, if_true, if_pos h1, if_pos h2', hw]
      by_cases he : id = top
      · simp only [if_pos he]
        exact Evals.of fun _ => by simp [he]
      · simp only [if_neg he]
        have hk := ih (i + 1) (rd_T107 l id).f0 (by omega)
        have e : decide (top ∈ id :: chn (l.map gr) m (rd_T95 (l.map gr) id).f0) = decide (top ∈ chn (l.map gr) m (rd_T107 l id).f0) := by
          rw [decide_eq_decide, List.mem_cons, rd_gr]
          exact ⟨fun h => h.elim (fun e => absurd e.symm he) (fun h => h), .inr⟩
        rw [e]
        exact hk
theorem withinR_ev (l : List S107) (ck id top : Int) (hn : l.length ≤ 1000) : Evals (fun k => heronryref09_Within.f k l ck id top) (decide (top ∈ chain (l.map gr) id)) := by
  unfold heronryref09_Within.f
  refine Evals.bind (Evals.of fun _ => isB_map l id) ?_
  have hout : top ∉ chain (l.map gr) id → Evals (fun k => heronryref09_Within.j0 k id top true l ck) (decide (top ∈ chain (l.map gr) id)) := fun h => by
    rw [decide_eq_false h]
    refine Evals.succ ?_
    simp only [heronryref09_Within.j0, if_true]
    exact Evals.const _
  cases hb : isB (l.map gr) id with
  | false =>
    simp only [if_neg (show ¬ (false = true) by decide)]
    exact hout (by unfold chain; rw [chn_no _ _ id hb]; simp)
  | true =>
    simp only [if_true]
    refine Evals.bind (Evals.of fun _ => isB_map l top) ?_
    cases ht : isB (l.map gr) top with
    | false =>
      exact hout (fun h => by have := chn_valid _ _ _ _ h; rw [ht] at this; cases this)
    | true =>
      refine Evals.succ ?_
      simp only [heronryref09_Within.j0, Bool.not_true, if_neg (show ¬ (false = true) by decide)]
      have hk := withinR_loop l ck top hn (l.length + 1) 0 id (by omega)
      have e : decide (top ∈ chn (l.map gr) (l.length + 1) id) = decide (top ∈ chain (l.map gr) id) := by
        rw [decide_eq_decide]
        have := chn_more (l.map gr) id top
        unfold chain
        rw [List.length_map] at this ⊢
        exact this
      rw [e] at hk
      exact hk
theorem opsR_loop (l : List S83) (out : List Bool) (hn : l.length ≤ 1000) (t : List S107) (ht : t.length ≤ 1000) (ck top : Int) (d : Nat) : ∀ i : Nat, i + d = l.length →
    Evals (fun k => heronryref15_Ops.l0 k top (flF l out l.length) ((selP l out (fun x => decide (top ∈ chain (t.map gr) x.f0)) i).map (fun k => opOf (ou (gl l k)))) (i : Int) l t ck) ((selP l out (fun x => decide (top ∈ chain (t.map gr) x.f0)) l.length).map (fun k => opOf (ou (gl l k)))) := by
  induction d with
  | zero =>
    intro i hi
    obtain rfl : i = l.length := by omega
    refine Evals.succ ?_
    have h0 : ¬ (l.length : Int) < (l.length : Int) := by omega
    simp only [heronryref15_Ops.l0, if_neg h0]
    exact Evals.const _
  | succ d ih =>
    intro i hi
    have h0 : (i : Int) < (l.length : Int) := by omega
    have h1 : (0 : Int) ≤ (i : Int) := by omega
    have h2 : (i : Int) < ((flF l out l.length).length : Int) := by rw [flF_len]; omega
    have eb : rd_T83 l (i : Int) = gl l i := rfl
    have hw := num_next i l.length (by omega) (by omega)
    have hfl := fl_at l out i (by omega)
    have hl : ((selP l out (fun x => decide (top ∈ chain (t.map gr) x.f0)) i).map (fun k => opOf (ou (gl l k)))).length < 8796093022208 := by rw [List.length_map]; exact Nat.lt_of_le_of_lt (selP_len _ _ _ _) (by omega)
    have hwi := withinR_ev t ck (gl l i).f0 top ht
    have hk := ih (i + 1) (by omega)
    rw [selP_succ] at hk
    refine Evals.succ ?_
    simp only [heronryref15_Ops.l0, eb, if_pos h0, if_pos h1, if_pos h2, hfl, hw, if_pos hl]
    cases hf : flB l out i with
    | false =>
      rw [hf, if_neg (by decide), List.append_nil] at hk
      simp only [if_neg (show ¬ (false = true) by decide)]; exact hk
    | true =>
      rw [hf, if_pos rfl] at hk
      simp only [if_true]
      refine Evals.bind hwi ?_
      by_cases hc : top ∈ chain (t.map gr) (gl l i).f0
      · rw [if_pos (decide_eq_true hc), List.map_append] at hk
        rw [decide_eq_true hc]
        simp only [if_true]; exact hk
      · rw [decide_eq_false hc, if_neg (by decide), List.append_nil] at hk
        rw [decide_eq_false hc]
        simp only [if_neg (show ¬ (false = true) by decide)]; exact hk
theorem opsR_ev {l : List S83} {R : List Bool × Bool} (hu : Und l l.length R.1) (h2 : R.2 = true) (hn : l.length ≤ 1000) (hE : Evals (fun k => heronryref15_undone.f k l) R) (t : List S107) (ht : t.length ≤ 1000) (ck top : Int) :
    Evals (fun k => heronryref15_Ops.f k l t ck top) (((opn (l.map ou)).filter (fun x => decide (top ∈ chain (t.map gr) x.f0))).map opOf) := by
  unfold heronryref15_Ops.f
  refine Evals.bind (fopen_ev hu h2 hn hE) ?_
  have := opsR_loop l R.1 hn t ht ck top l.length 0 (by omega)
  rw [selP_opn hu (fun x => decide (top ∈ chain (t.map gr) x.f0)) _ (fun x => rfl), List.map_map]
  exact this
/-! ### copies -/
theorem ours_loop (l : List S83) (hn : l.length ≤ 1000) (d : Nat) : ∀ i : Nat, i + d = l.length → Evals (fun k => heronrylaw15_ours.l0 k (i : Int) l ((l.take i).map ou)) (l.map ou) := by
  induction d with
  | zero =>
    intro i hi
    have h0 : ¬ (i : Int) < (l.length : Int) := by omega
    rw [List.take_of_length_le (show l.length ≤ i by omega)]
    refine Evals.succ ?_
    simp only [heronrylaw15_ours.l0, if_neg h0]
    exact Evals.const _
  | succ d ih =>
    intro i hi
    have h0 : (i : Int) < (l.length : Int) := by omega
    have h1 : (0 : Int) ≤ (i : Int) := by omega
    have hl : ((l.take i).map ou).length < 4398046511104 := by simp; omega
    have hw := num_next i l.length (by omega) (by omega)
    have hk := ih (i + 1) (by omega)
    rw [take_snoc (show i < l.length by omega)] at hk
    refine Evals.succ ?_
    simp only [heronrylaw15_ours.l0, if_pos h0, if_pos h1, if_pos hl, hw]
    exact hk
theorem ours_ev (l : List S83) (hn : l.length ≤ 1000) : Evals (fun k => heronrylaw15_ours.f k l) (l.map ou) := ours_loop l hn l.length 0 (by omega)
theorem grove_loop (l : List S107) (ck : Int) (hn : l.length ≤ 1000) (d : Nat) : ∀ i : Nat, i + d = l.length → Evals (fun k => heronrylaw15_grove.l0 k (i : Int) l ck ((l.take i).map gr) ck) (l.map gr, ck) := by
  induction d with
  | zero =>
    intro i hi
    have h0 : ¬ (i : Int) < (l.length : Int) := by omega
    rw [List.take_of_length_le (show l.length ≤ i by omega)]
    refine Evals.succ ?_
    simp only [heronrylaw15_grove.l0, if_neg h0]
    exact Evals.const _
  | succ d ih =>
    intro i hi
    have h0 : (i : Int) < (l.length : Int) := by omega
    have h1 : (0 : Int) ≤ (i : Int) := by omega
    have hl : ((l.take i).map gr).length < 4398046511104 := by simp; omega
    have hw := num_next i l.length (by omega) (by omega)
    have hk := ih (i + 1) (by omega)
    have hx : rd_T107 l (i : Int) = l[i] := by unfold rd_T107; simp [List.getD_eq_getElem?_getD, List.getElem?_eq_getElem (show i < l.length by omega)]
    rw [List.take_succ_eq_append_getElem (show i < l.length by omega), List.map_append] at hk
    refine Evals.succ ?_
    simp only [heronrylaw15_grove.l0, if_pos h0, if_pos h1, if_pos hl, hw, hx]
    exact hk
theorem grove_ev (l : List S107) (ck : Int) (hn : l.length ≤ 1000) : Evals (fun k => heronrylaw15_grove.f k l ck) (l.map gr, ck) := grove_loop l ck hn l.length 0 (by omega)
theorem sameOps_loop (l : List S55) (hn : l.length ≤ 1000000) (d : Nat) : ∀ i : Nat, i + d = l.length → Evals (fun k => heronryref15_SameOps.l0 k l l (i : Int)) true := by
  induction d with
  | zero =>
    intro i hi
    refine Evals.succ ?_
    have h0 : ¬ (i : Int) < (l.length : Int) := by omega
    simp only [heronryref15_SameOps.l0, if_neg h0]
    exact Evals.const _
  | succ d ih =>
    intro i hi
    have h0 : (i : Int) < (l.length : Int) := by omega
    have h1 : (0 : Int) ≤ (i : Int) := by omega
    have hw : wrap64 ((i : Int) + 1) = ((i + 1 : Nat) : Int) := by rw [w64 (by omega) (by omega)]; omega
    refine Evals.succ ?_
    simp only [heronryref15_SameOps.l0, if_pos h0, if_pos h1, beq_self_eq_true, Bool.not_true, Bool.or_false, Bool.false_eq_true, if_false, hw]
    exact ih (i + 1) (by omega)
theorem sameOps_ev (l : List S55) (hn : l.length ≤ 1000000) : Evals (fun k => heronryref15_SameOps.f k l l) true := by
  unfold heronryref15_SameOps.f
  simp only [if_true]
  exact sameOps_loop l hn l.length 0 (by omega)
end Go.Proofs.Ytjpoepiidmoegaa.Q
