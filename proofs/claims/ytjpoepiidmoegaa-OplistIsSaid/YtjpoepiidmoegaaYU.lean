/- What the document's 'undone' and 'open' answer. No condition beyond the entries' ranges and how many they are. -/
import Derived.Test.YtjpoepiidmoegaaYS
import Derived.Test.YtjpoepiidmoegaaQ16
namespace Go.Proofs.Ytjpoepiidmoegaa.Q
open Go.RowKit Go.Proofs.YtjpoepiidmoegaaW Go.Proofs.YtjpoepiidmoegaaW.PrintWords Go.Proofs.YtjpoepiidmoegaaW.PrintLast Go.Proofs.YtjpoepiidmoegaaW.PrintMore
set_option linter.unusedVariables false
set_option linter.unusedSimpArgs false
def ou (x : S83) : S33 := ⟨x.f0, x.f1, x.f2, x.f3⟩
theorem rd83 (l : List S83) (k : Nat) (hk : k < l.length) : rd_T83 l (k : Int) = l[k] := by
  unfold rd_T83; simp [List.getD_eq_getElem?_getD, List.getElem?_eq_getElem hk]
def gl (l : List S83) (k : Nat) : S83 := rd_T83 l (k : Int)
/-- The places below n that are neither undoing nor undone. -/
def opP (l : List S83) (out : List Bool) (n : Nat) : List Nat := (List.range n).filter (fun k => !(gl l k).f3 && !(out.getD k false))
def opEs (l : List S83) (out : List Bool) (n : Nat) : List S33 := (opP l out n).map (fun k => ou (gl l k))
theorem opP_succ (l : List S83) (out : List Bool) (n : Nat) : opP l out (n + 1) = opP l out n ++ (if (!(gl l n).f3 && !(out.getD n false)) = true then [n] else []) := by
  unfold opP
  rw [List.range_succ, List.filter_append]
  congr 1
  by_cases h : (!(gl l n).f3 && !(out.getD n false)) = true
  · rw [if_pos h, List.filter_cons, if_pos h]; rfl
  · rw [if_neg h, List.filter_cons, if_neg h]; rfl
theorem opP_lt {l : List S83} {out : List Bool} {n k : Nat} (h : k ∈ opP l out n) : k < n := List.mem_range.1 (List.mem_filter.1 h).1
theorem opP_split (l : List S83) (out : List Bool) (j : Nat) (hj : (!(gl l j).f3 && !(out.getD j false)) = true) : ∀ n, j < n → ∃ B, opP l out n = opP l out j ++ j :: B ∧ (∀ b ∈ B, j < b ∧ b < n) ∧ (∀ b ∈ B, (!(gl l b).f3 && !(out.getD b false)) = true) ∧
    ∀ out' : List Bool, (∀ k, j < k → out'.getD k false = out.getD k false) → out'.getD j false = true → opP l out' n = opP l out' j ++ B
  | 0, h => by omega
  | n + 1, h => by
    by_cases he : j = n
    · subst he
      refine ⟨[], ?_, by simp, by simp, fun out' h1 h2 => ?_⟩
      · rw [opP_succ, if_pos hj]
      · rw [opP_succ, h2]; simp
    · obtain ⟨B, h1, h2, h3, h4⟩ := opP_split l out j hj n (by omega)
      by_cases hn : (!(gl l n).f3 && !(out.getD n false)) = true
      · refine ⟨B ++ [n], ?_, fun b hb => ?_, fun b hb => ?_, fun out' g1 g2 => ?_⟩
        · rw [opP_succ, if_pos hn, h1, List.append_assoc]; rfl
        · rcases List.mem_append.1 hb with hb | hb
          · have := h2 b hb; omega
          · rw [List.mem_singleton.1 hb]; omega
        · rcases List.mem_append.1 hb with hb | hb
          · exact h3 b hb
          · rw [List.mem_singleton.1 hb]; exact hn
        · rw [opP_succ, h4 out' g1 g2, g1 n (by omega), if_pos hn, List.append_assoc]
      · refine ⟨B, ?_, fun b hb => ?_, h3, fun out' g1 g2 => ?_⟩
        · rw [opP_succ, if_neg hn, h1, List.append_nil]
        · have := h2 b hb; omega
        · rw [opP_succ, h4 out' g1 g2, g1 n (by omega), if_neg hn, List.append_nil]
theorem opP_congr (l : List S83) {out out' : List Bool} (n : Nat) (h : ∀ k, k < n → out'.getD k false = out.getD k false) : opP l out' n = opP l out n := by
  unfold opP
  apply List.filter_congr
  intro k hk
  rw [h k (List.mem_range.1 hk)]
/-- May the k-th be what the i-th undoes? -/
def candB (l : List S83) (i k : Nat) : Bool := decide ((gl l k).f0 = (gl l i).f0) && (decide ((gl l k).f1 = (gl l i).f1) && decide ((gl l k).f2 = wrap64 (-(gl l i).f2)))
theorem cand_opp {l : List S83} {i k : Nat} (hi : (gl l i).f3 = true) (ri : inI (gl l i).f2 = true) (rk : inI (gl l k).f2 = true) : opp (ou (gl l k)) = ou (gl l i) ↔ candB l i k = true := by
  unfold candB opp ou inI at *
  simp only [S33.mk.injEq, Bool.and_eq_true, decide_eq_true_eq] at *
  rw [hi]
  constructor
  · rintro ⟨h1, h2, h3, _⟩
    refine ⟨h1, h2, ?_⟩
    unfold wrap64 at *; omega
  · rintro ⟨h1, h2, h3⟩
    refine ⟨h1, h2, ?_, rfl⟩
    unfold wrap64 at *; omega
theorem getD_set_eq {out : List Bool} {j : Nat} (h : j < out.length) : (out.set j true).getD j false = true := by
  simp [List.getD_eq_getElem?_getD, h]
theorem getD_set_ne' {out : List Bool} {j k : Nat} (h : k ≠ j) : (out.set j true).getD k false = out.getD k false := by
  simp only [List.getD_eq_getElem?_getD]
  rw [List.getElem?_set_ne (Ne.symm h)]
/-- What has been found when i entries are told. -/
structure Und (l : List S83) (i : Nat) (out : List Bool) : Prop where
  len : out.length = l.length
  is : opE ((l.take i).map ou) [] = some (opEs l out i)
  off : ∀ k, i ≤ k → out.getD k false = false
theorem gl_at {l : List S83} {i : Nat} (h : i < l.length) : gl l i = l[i] := rd83 l i h
theorem Und.start (l : List S83) : Und l 0 (List.replicate l.length false) := by
  refine ⟨by simp, rfl, fun k _ => ?_⟩
  simp only [List.getD_eq_getElem?_getD, List.getElem?_replicate]
  split <;> rfl
theorem take_snoc {l : List S83} {i : Nat} (h : i < l.length) : (l.take (i + 1)).map ou = (l.take i).map ou ++ [ou (gl l i)] := by
  rw [List.take_succ_eq_append_getElem h, List.map_append, gl_at h]; rfl
theorem Und.push {l : List S83} {i : Nat} {out : List Bool} (h : Und l i out) (hi : i < l.length) (h3 : (gl l i).f3 = false) : Und l (i + 1) out := by
  refine ⟨h.len, ?_, fun k hk => h.off k (by omega)⟩
  rw [take_snoc hi, opE_snoc h.is (by exact h3)]
  unfold opEs
  rw [opP_succ, h3, h.off i (Nat.le_refl _)]
  simp
theorem Und.pop {l : List S83} {i j : Nat} {out : List Bool} (h : Und l i out) (hl : ∀ k, k < l.length → inI (gl l k).f2 = true) (hi : i < l.length) (h3 : (gl l i).f3 = true) (hj : j < i) (h4 : (gl l j).f3 = false) (h5 : out.getD j false = false)
    (hc : candB l i j = true) (hno : ∀ k, j < k → k < i → (!(gl l k).f3 && !(out.getD k false)) = true → candB l i k = false) : Und l (i + 1) (out.set j true) := by
  refine ⟨by simp [h.len], ?_, fun k hk => by rw [getD_set_ne' (by omega)]; exact h.off k (by omega)⟩
  obtain ⟨B, b1, b2, b3, b4⟩ := opP_split l out j (by rw [h4, h5]; rfl) i hj
  rw [take_snoc hi, opE_append, h.is]
  show opE [ou (gl l i)] (opEs l out i) = _
  rw [opE, if_pos (by exact h3)]
  unfold opEs
  rw [b1, List.map_append, List.map_cons, pop1_some _ ((cand_opp h3 (hl i hi) (hl j (by omega))).2 hc) (fun b hb e => by
    obtain ⟨k, hk, rfl⟩ := List.mem_map.1 hb
    have := (cand_opp h3 (hl i hi) (hl k (by have := b2 k hk; omega))).1 e
    rw [hno k (b2 k hk).1 (b2 k hk).2 (b3 k hk)] at this; cases this)]
  show some _ = _
  congr 1
  rw [opP_succ, h3, b4 (out.set j true) (fun k hk => getD_set_ne' (by omega)) (getD_set_eq (by rw [h.len]; omega)), opP_congr l (out := out) (out' := out.set j true) j (fun k hk => getD_set_ne' (by omega))]
  simp
theorem Und.stuck {l : List S83} {i : Nat} {out : List Bool} (h : Und l i out) (hl : ∀ k, k < l.length → inI (gl l k).f2 = true) (hi : i < l.length) (h3 : (gl l i).f3 = true)
    (hno : ∀ k, k < i → (!(gl l k).f3 && !(out.getD k false)) = true → candB l i k = false) : opE (l.map ou) [] = none := by
  have e : l.map ou = (l.take (i + 1)).map ou ++ (l.drop (i + 1)).map ou := by rw [← List.map_append, List.take_append_drop]
  rw [e, opE_append, take_snoc hi, opE_append, h.is]
  show (opE [ou (gl l i)] (opEs l out i)).bind _ = none
  rw [opE, if_pos (by exact h3), pop1_none]
  · rfl
  · intro x hx e
    unfold opEs at hx
    obtain ⟨k, hk, rfl⟩ := List.mem_map.1 hx
    have hki := opP_lt hk
    have := (cand_opp h3 (hl i hi) (hl k (by omega))).1 e
    rw [hno k hki (List.mem_filter.1 hk).2] at this; cases this
/-- What 'undone' answers. -/
def UndR (l : List S83) (R : List Bool × Bool) : Prop := (R = ([], false) ∧ opE (l.map ou) [] = none) ∨ (R.2 = true ∧ Und l l.length R.1)
theorem num_pred (i n : Nat) (h : i < n) (hn : n ≤ 100000) : wrap64 ((i : Int) - 1) = (i : Int) - 1 := by unfold wrap64; omega
theorem rdOf_at (out : List Bool) (k : Nat) : rdOf false out (k : Int) = out.getD k false := by unfold rdOf; simp
theorem undone_in (l : List S83) (hl : ∀ k, k < l.length → inI (gl l k).f2 = true) (hn : l.length ≤ 1000) (i : Nat) (hi : i < l.length) (out : List Bool) (h : Und l i out) (h3 : (gl l i).f3 = true)
    (hnext : ∀ out', Und l (i + 1) out' → ∃ R, UndR l R ∧ Evals (fun k => heronryref15_undone.l0 k l out' ((i + 1 : Nat) : Int)) R) (d : Nat) : ∀ (j : Nat), j + d = d + j → j ≤ i →
    (∀ k, j ≤ k → k < i → (!(gl l k).f3 && !(out.getD k false)) = true → candB l i k = false) → j = d →
    ∃ R, UndR l R ∧ Evals (fun k => heronryref15_undone.l1 k l out (i : Int) ((j : Int) - 1)) R := by
  induction d with
  | zero =>
    intro j _ hj hno hd
    subst hd
    refine ⟨([], false), .inl ⟨rfl, h.stuck hl hi h3 (fun k hk => hno k (Nat.zero_le _) hk)⟩, Evals.succ ?_⟩
    have g1 : ¬ ((((0 : Nat) : Int) - 1) ≥ 0) := by omega
    have g2 : (((0 : Nat) : Int) - 1) < 0 := by omega
    simp only [heronryref15_undone.l1, if_neg g1, if_pos g2]
    exact Evals.const _
  | succ d ih =>
    intro j _ hj hno hd
    have e : (j : Int) - 1 = (d : Int) := by omega
    rw [e]
    have g1 : (d : Int) ≥ 0 := by omega
    have g2 : (0 : Int) ≤ (d : Int) := by omega
    have g3 : (d : Int) < (l.length : Int) := by omega
    have g4 : (d : Int) < (out.length : Int) := by rw [h.len]; omega
    have g5 : (0 : Int) ≤ (i : Int) := by omega
    have g6 : (i : Int) < (l.length : Int) := by omega
    have g7 : ¬ (d : Int) < 0 := by omega
    have hw := num_pred d l.length (by omega) (by omega)
    have hwi : wrap64 ((i : Int) + 1) = ((i + 1 : Nat) : Int) := by unfold wrap64; omega
    have ea : rd_T83 l (d : Int) = gl l d := rfl
    have eb : rd_T83 l (i : Int) = gl l i := rfl
    have skip : (¬ ((!(gl l d).f3 && !(out.getD d false)) = true ∧ candB l i d = true)) → ∃ R, UndR l R ∧ Evals (fun k => heronryref15_undone.l1 k l out (i : Int) ((d : Int) - 1)) R := by
      intro hs
      refine ih d (by omega) (by omega) (fun k hk hki hop => ?_) rfl
      by_cases hkd : k = d
      · subst hkd
        cases hcb : candB l i k with
        | false => rfl
        | true => exact absurd ⟨hop, hcb⟩ hs
      · exact hno k (by omega) hki hop
    cases hf : (gl l d).f3 with
    | true =>
      obtain ⟨R, hR, hE⟩ := skip (by rw [hf]; simp)
      refine ⟨R, hR, Evals.succ ?_⟩
      simp only [heronryref15_undone.l1, ea, eb, if_pos g1, if_pos g2, if_pos g3, hf, if_true, hw]
      exact hE
    | false =>
      cases ho : out.getD d false with
      | true =>
        obtain ⟨R, hR, hE⟩ := skip (by rw [ho]; simp)
        refine ⟨R, hR, Evals.succ ?_⟩
        simp only [heronryref15_undone.l1, ea, eb, if_pos g1, if_pos g2, if_pos g3, hf, if_neg (show ¬ (false = true) by decide), if_pos g4, rdOf_at, ho, if_true, hw]
        exact hE
      | false =>
        by_cases c0 : (gl l d).f0 = (gl l i).f0
        · by_cases c1 : (gl l d).f1 = (gl l i).f1
          · by_cases c2 : (gl l d).f2 = wrap64 (-(gl l i).f2)
            · have hc : candB l i d = true := by unfold candB; simp [c0, c1, c2]
              obtain ⟨R, hR, hE⟩ := hnext _ (h.pop hl hi h3 (by omega) hf ho hc (fun k hk hki hop => hno k (by omega) hki hop))
              refine ⟨R, hR, Evals.succ ?_⟩
              simp only [heronryref15_undone.l1, ea, eb, if_pos g1, if_pos g2, if_pos g3, hf, if_neg (show ¬ (false = true) by decide), if_pos g4, rdOf_at, ho, if_pos g5, if_pos g6, if_pos c0, if_pos c1, if_pos c2, if_neg g7, Int.toNat_natCast, hwi]
              exact hE
            · obtain ⟨R, hR, hE⟩ := skip (by unfold candB; simp [c2])
              refine ⟨R, hR, Evals.succ ?_⟩
              simp only [heronryref15_undone.l1, ea, eb, if_pos g1, if_pos g2, if_pos g3, hf, if_neg (show ¬ (false = true) by decide), if_pos g4, rdOf_at, ho, if_pos g5, if_pos g6, if_pos c0, if_pos c1, if_neg c2, hw]
              exact hE
          · obtain ⟨R, hR, hE⟩ := skip (by unfold candB; simp [c1])
            refine ⟨R, hR, Evals.succ ?_⟩
            simp only [heronryref15_undone.l1, ea, eb, if_pos g1, if_pos g2, if_pos g3, hf, if_neg (show ¬ (false = true) by decide), if_pos g4, rdOf_at, ho, if_pos g5, if_pos g6, if_pos c0, if_neg c1, hw]
            exact hE
        · obtain ⟨R, hR, hE⟩ := skip (by unfold candB; simp [c0])
          refine ⟨R, hR, Evals.succ ?_⟩
          simp only [heronryref15_undone.l1, ea, eb, if_pos g1, if_pos g2, if_pos g3, hf, if_neg (show ¬ (false = true) by decide), if_pos g4, rdOf_at, ho, if_pos g5, if_pos g6, if_neg c0, hw]
          exact hE
theorem undone_loop (l : List S83) (hl : ∀ k, k < l.length → inI (gl l k).f2 = true) (hn : l.length ≤ 1000) (d : Nat) : ∀ (i : Nat) (out : List Bool), i + d = l.length → Und l i out →
    ∃ R, UndR l R ∧ Evals (fun k => heronryref15_undone.l0 k l out (i : Int)) R := by
  induction d with
  | zero =>
    intro i out hi h
    obtain rfl : i = l.length := by omega
    refine ⟨(out, true), .inr ⟨rfl, h⟩, Evals.succ ?_⟩
    have h0 : ¬ (l.length : Int) < (l.length : Int) := by omega
    simp only [heronryref15_undone.l0, if_neg h0]
    exact Evals.const _
  | succ d ih =>
    intro i out hi h
    have h0 : (i : Int) < (l.length : Int) := by omega
    have h1 : (0 : Int) ≤ (i : Int) := by omega
    have eb : rd_T83 l (i : Int) = gl l i := rfl
    have hwi : wrap64 ((i : Int) + 1) = ((i + 1 : Nat) : Int) := by unfold wrap64; omega
    cases h3 : (gl l i).f3 with
    | false =>
      obtain ⟨R, hR, hE⟩ := ih (i + 1) out (by omega) (h.push (by omega) h3)
      refine ⟨R, hR, Evals.succ ?_⟩
      simp only [heronryref15_undone.l0, eb, if_pos h0, if_pos h1, h3, if_neg (show ¬ (false = true) by decide), hwi]
      exact hE
    | true =>
      obtain ⟨R, hR, hE⟩ := undone_in l hl hn i (by omega) out h h3 (fun out' ho => ih (i + 1) out' (by omega) ho) i i (by omega) (Nat.le_refl _) (fun k h1 h2 => by omega) rfl
      refine ⟨R, hR, Evals.succ ?_⟩
      have hw := num_pred i l.length (by omega) (by omega)
      simp only [heronryref15_undone.l0, eb, if_pos h0, if_pos h1, h3, if_true, hw]
      exact hE
theorem undone_ev (l : List S83) (hl : ∀ k, k < l.length → inI (gl l k).f2 = true) (hn : l.length ≤ 1000) : ∃ R, UndR l R ∧ Evals (fun k => heronryref15_undone.f k l) R := by
  obtain ⟨R, hR, hE⟩ := undone_loop l hl hn l.length 0 _ (by omega) (Und.start l)
  refine ⟨R, hR, ?_⟩
  unfold heronryref15_undone.f
  have h0 : (0 : Int) ≤ (l.length : Int) := by omega
  have h1 : l.length ≤ 281474976710656 := by omega
  simp only [if_pos h0, Int.toNat_natCast, if_pos h1]
  exact hE
end Go.Proofs.Ytjpoepiidmoegaa.Q
