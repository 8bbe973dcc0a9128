/- What the document's functions answer. No condition beyond the entries' ranges and how many they are. -/
import Derived.Test.YtjpoepiidmoegaaYU
import Derived.Test.YtjpoepiidmoegaaYT
import Derived.Test.YtjpoepiidmoegaaQ18
import Derived.Test.YtjpoepiidmoegaaQ20
import Derived.Test.YtjpoepiidmoegaaQ21
import Derived.Test.YtjpoepiidmoegaaQ22
namespace Go.Proofs.Ytjpoepiidmoegaa.Q
open Go.RowKit Go.Proofs.YtjpoepiidmoegaaW Go.Proofs.YtjpoepiidmoegaaW.PrintWords Go.Proofs.YtjpoepiidmoegaaW.PrintLast Go.Proofs.YtjpoepiidmoegaaW.PrintMore
set_option linter.unusedVariables false
set_option linter.unusedSimpArgs false
def flB (l : List S83) (out : List Bool) (k : Nat) : Bool := !(gl l k).f3 && !(out.getD k false)
def flF (l : List S83) (out : List Bool) (i : Nat) : List Bool := (List.range l.length).map (fun k => if k < i then flB l out k else false)
theorem flF_len (l : List S83) (out : List Bool) (i : Nat) : (flF l out i).length = l.length := by simp [flF]
theorem flF_zero (l : List S83) (out : List Bool) : flF l out 0 = List.replicate l.length false := by
  unfold flF
  apply List.ext_getElem
  · simp
  · intro k h1 h2; simp
theorem flF_set (l : List S83) (out : List Bool) (i : Nat) : (flF l out i).set i (flB l out i) = flF l out (i + 1) := by
  apply List.ext_getElem
  · simp [flF]
  · intro k h1 h2
    rw [List.getElem_set]
    by_cases hk : i = k
    · subst hk
      simp [flF]
    · rw [if_neg hk]
      simp only [flF, List.getElem_map, List.getElem_range]
      by_cases h : k < i
      · rw [if_pos h, if_pos (by omega)]
      · rw [if_neg h, if_neg (by omega)]
theorem fl_at (l : List S83) (out : List Bool) (i : Nat) (h : i < l.length) : rdOf false (flF l out l.length) (i : Int) = flB l out i := by
  rw [rdOf_at, List.getD_eq_getElem?_getD]
  unfold flF
  simp [h]
theorem num_next (i n : Nat) (h : i < n) (hn : n ≤ 100000) : wrap64 ((i : Int) + 1) = ((i + 1 : Nat) : Int) := by unfold wrap64; omega
theorem fopen_loop (l : List S83) (out : List Bool) (hlen : out.length = l.length) (hn : l.length ≤ 1000) (d : Nat) : ∀ i : Nat, i + d = l.length →
    Evals (fun k => heronryref15_open.l0 k l out true (flF l out i) (i : Int)) (flF l out l.length) := by
  induction d with
  | zero =>
    intro i hi
    obtain rfl : i = l.length := by omega
    refine Evals.succ ?_
    have h0 : ¬ (l.length : Int) < (l.length : Int) := by omega
    simp only [heronryref15_open.l0, if_neg h0]
    exact Evals.const _
  | succ d ih =>
    intro i hi
    have h0 : (i : Int) < (l.length : Int) := by omega
    have h1 : (0 : Int) ≤ (i : Int) := by omega
    have h2 : (i : Int) < ((flF l out i).length : Int) := by rw [flF_len]; omega
    have h3 : (i : Int) < (out.length : Int) := by rw [hlen]; omega
    have eb : rd_T83 l (i : Int) = gl l i := rfl
    have hw := num_next i l.length (by omega) (by omega)
    have hs := flF_set l out i
    have hk := ih (i + 1) (by omega)
    rw [← hs] at hk
    refine Evals.succ ?_
    unfold flB at hk
    cases h4 : (gl l i).f3 with
    | true =>
      rw [h4] at hk
      simp only [heronryref15_open.l0, eb, if_pos h0, if_true, if_pos h1, h4, if_pos h2, Int.toNat_natCast, hw]
      simpa using hk
    | false =>
      rw [h4] at hk
      simp only [heronryref15_open.l0, eb, if_pos h0, if_true, if_pos h1, h4, if_neg (show ¬ (false = true) by decide), if_pos h3, if_pos h2, Int.toNat_natCast, hw, rdOf_at]
      simpa using hk
theorem fopen_ev {l : List S83} {R : List Bool × Bool} (hu : Und l l.length R.1) (h2 : R.2 = true) (hn : l.length ≤ 1000) (hE : Evals (fun k => heronryref15_undone.f k l) R) : Evals (fun k => heronryref15_open.f k l) (flF l R.1 l.length) := by
  obtain ⟨out, b⟩ := R
  simp only at h2 hu
  subst h2
  unfold heronryref15_open.f
  refine Evals.bind hE ?_
  have h0 : (0 : Int) ≤ (l.length : Int) := by omega
  have h1 : l.length ≤ 281474976710656 := by omega
  simp only [if_pos h0, Int.toNat_natCast, if_pos h1]
  have := fopen_loop l out hu.len hn l.length 0 (by omega)
  rw [flF_zero] at this
  exact this
theorem one_val (a b c : Int) (d : Bool) : heronryref15_one.f a b c d = some (soundB ⟨a, b, c, d⟩) := by
  unfold heronryref15_one.f soundB
  by_cases h1 : a ≥ 0
  · rw [if_pos h1]
    have h1' : (0 : Int) ≤ a := h1
    by_cases h2 : a ≤ 63
    · rw [if_pos h2]
      have h2' : a < 64 := by omega
      by_cases h3 : b ≥ 0
      · rw [if_pos h3]
        have h3' : (0 : Int) ≤ b := h3
        by_cases h4 : b ≤ 63
        · rw [if_pos h4]
          have h4' : b < 64 := by omega
          simp [h1', h2', h3', h4']
        · rw [if_neg h4]
          have h4' : ¬ b < 64 := by omega
          simp [h4']
      · rw [if_neg h3]; have : ¬ (0 : Int) ≤ b := h3; simp [this]
    · rw [if_neg h2]
      have h2' : ¬ a < 64 := by omega
      simp [h2']
  · rw [if_neg h1]; have : ¬ (0 : Int) ≤ a := h1; simp [this]
theorem opP_flB (l : List S83) (out : List Bool) (n : Nat) : opP l out (n + 1) = opP l out n ++ (if flB l out n = true then [n] else []) := opP_succ l out n
theorem opP_len (l : List S83) (out : List Bool) (n : Nat) : (opP l out n).length ≤ n := by
  unfold opP
  exact Nat.le_trans (List.length_filter_le _ _) (by simp)
theorem num_cnt (a b n : Nat) (h1 : a ≤ 1000) (h2 : b ≤ 1000) : wrap64 (((a + b : Nat) : Int) + 1) = ((a + (b + 1) : Nat) : Int) := by unfold wrap64; omega
theorem saneR_loop (l : List S83) (out : List Bool) (hn : l.length ≤ 1000) (d : Nat) : ∀ i : Nat, i + d = l.length →
    Evals (fun k => heronryref15_Sane.l0 k (flF l out l.length) ((l.length + (opP l out i).length : Nat) : Int) (i : Int) l) ((l.drop i).all (fun x => soundB (ou x)) && decide (l.length + (opP l out l.length).length ≤ 256)) := by
  induction d with
  | zero =>
    intro i hi
    obtain rfl : i = l.length := by omega
    refine Evals.succ ?_
    have h0 : ¬ (l.length : Int) < (l.length : Int) := by omega
    have e : decide (((l.length + (opP l out l.length).length : Nat) : Int) ≤ 256) = decide (l.length + (opP l out l.length).length ≤ 256) := by rw [decide_eq_decide]; omega
    simp only [heronryref15_Sane.l0, if_neg h0, List.drop_length, List.all_nil, Bool.true_and]
    rw [e]
    exact Evals.const _
  | succ d ih =>
    intro i hi
    have h0 : (i : Int) < (l.length : Int) := by omega
    have h1 : (0 : Int) ≤ (i : Int) := by omega
    have h2 : (i : Int) < ((flF l out l.length).length : Int) := by rw [flF_len]; omega
    have eb : rd_T83 l (i : Int) = gl l i := rfl
    have hw := num_next i l.length (by omega) (by omega)
    have hd : l.drop i = gl l i :: l.drop (i + 1) := by rw [gl_at (show i < l.length by omega)]; exact List.drop_eq_getElem_cons (by omega)
    have hfl := fl_at l out i (by omega)
    have ho := one_val (gl l i).f0 (gl l i).f1 (gl l i).f2 (gl l i).f3
    have hk := ih (i + 1) (by omega)
    have hcnt := num_cnt l.length (opP l out i).length 0 hn (Nat.le_trans (opP_len l out i) (by omega))
    rw [hd, List.all_cons]
    refine Evals.succ ?_
    simp only [heronryref15_Sane.l0, eb, if_pos h0, if_pos h1, if_pos h2, hw, hfl]
    refine Evals.bind (Evals.of fun _ => ho) ?_
    rw [opP_flB] at hk
    cases hs : soundB (ou (gl l i)) with
    | false =>
      have e : soundB ⟨(gl l i).f0, (gl l i).f1, (gl l i).f2, (gl l i).f3⟩ = false := hs
      simp only [e, if_neg (show ¬ (false = true) by decide), Bool.false_and]
      exact Evals.const _
    | true =>
      have e : soundB ⟨(gl l i).f0, (gl l i).f1, (gl l i).f2, (gl l i).f3⟩ = true := hs
      simp only [e, if_true, Bool.true_and]
      cases hf : flB l out i with
      | true =>
        rw [hf, if_pos rfl, List.length_append, List.length_singleton] at hk
        simp only [if_true, hcnt]
        exact hk
      | false =>
        rw [hf, if_neg (by decide), List.append_nil] at hk
        simp only [if_neg (show ¬ (false = true) by decide)]
        exact hk
theorem opn_ref {l : List S83} {out : List Bool} (hu : Und l l.length out) : opE (l.map ou) [] = some (opEs l out l.length) := by
  have := hu.is
  rwa [List.take_length] at this
theorem saneR_ev (l : List S83) (hl : ∀ k, k < l.length → inI (gl l k).f2 = true) (hn : l.length ≤ 1000) : Evals (fun k => heronryref15_Sane.f k l) (saneL (l.map ou)) := by
  obtain ⟨R, hR, hE⟩ := undone_ev l hl hn
  unfold heronryref15_Sane.f
  refine Evals.bind hE ?_
  rcases hR with ⟨rfl, h⟩ | ⟨h2, hu⟩
  · simp only [if_neg (show ¬ (false = true) by decide)]
    unfold saneL
    rw [h]
    simp only [Option.isSome_none, Bool.false_and, Bool.and_false]
    exact Evals.const _
  · simp only [h2, if_true]
    refine Evals.bind (fopen_ev hu h2 hn hE) ?_
    have := saneR_loop l R.1 hn l.length 0 (by omega)
    have e0 : (opP l R.1 0).length = 0 := rfl
    rw [e0, Nat.add_zero, List.drop_zero] at this
    unfold saneL
    have ho := opn_ref hu
    rw [ho, opn_of ho, Option.isSome_some, Bool.true_and, List.all_map, List.length_map]
    have el : (opEs l R.1 l.length).length = (opP l R.1 l.length).length := by unfold opEs; rw [List.length_map]
    rw [el]
    exact this
theorem doR_ev (l : List S83) (hl : ∀ k, k < l.length → inI (gl l k).f2 = true) (hn : l.length ≤ 900) (a b c : Int) (hc : inI c = true) :
    Evals (fun k => heronryref15_Do.f k l a b c) ((doL (l.map ou) ⟨a, b, c, false⟩).1.map th, (doL (l.map ou) ⟨a, b, c, false⟩).2) := by
  have hs := saneR_ev l hl (by omega)
  have hl2 : ∀ k, k < (l ++ [(⟨a, b, c, false⟩ : S83)]).length → inI (gl (l ++ [(⟨a, b, c, false⟩ : S83)]) k).f2 = true := fun k hk => by
    by_cases h : k < l.length
    · rw [gl_at hk, List.getElem_append_left h, ← gl_at h]; exact hl k h
    · have : k = l.length := by simp at hk; omega
      subst this
      rw [gl_at hk]; simpa using hc
  have hs2 := saneR_ev (l ++ [(⟨a, b, c, false⟩ : S83)]) hl2 (by simp; omega)
  have em : (l ++ [(⟨a, b, c, false⟩ : S83)]).map ou = l.map ou ++ [⟨a, b, c, false⟩] := by rw [List.map_append]; rfl
  have et : ((l.map ou) ++ [(⟨a, b, c, false⟩ : S33)]).map th = l ++ [(⟨a, b, c, false⟩ : S83)] := by
    rw [List.map_append, List.map_map]
    have : (th ∘ ou) = id := rfl
    rw [this, List.map_id]; rfl
  rw [em] at hs2
  unfold heronryref15_Do.f doL
  refine Evals.bind hs ?_
  cases h1 : saneL (l.map ou) with
  | false =>
    rw [if_neg (by simp)]
    refine Evals.succ ?_
    simp only [heronryref15_Do.j0, if_neg (show ¬ (false = true) by decide), if_true]
    exact Evals.const _
  | true =>
    simp only [if_true]
    refine Evals.bind (Evals.of fun _ => one_val a b c false) ?_
    cases h2 : soundB ⟨a, b, c, false⟩ with
    | false =>
      rw [if_neg (by simp)]
      refine Evals.succ ?_
      simp only [heronryref15_Do.j0, Bool.not_false, if_true]
      exact Evals.const _
    | true =>
      rw [if_pos (by simp)]
      refine Evals.succ ?_
      have g1 : ([] : List S83).length + l.length < 4398046511104 := by simp; omega
      have g2 : ([] ++ l : List S83).length < 4398046511104 := by simp; omega
      simp only [heronryref15_Do.j0, Bool.not_true, if_neg (show ¬ (false = true) by decide)]
      refine Evals.bind (Evals.const _) ?_
      simp only [if_pos g1]
      refine Evals.bind (Evals.const _) ?_
      simp only [if_pos g2]
      refine Evals.bind (Evals.const _) ?_
      rw [List.nil_append]
      refine Evals.bind hs2 ?_
      cases h3 : saneL (l.map ou ++ [(⟨a, b, c, false⟩ : S33)]) with
      | true => simp only [if_true, et]; exact Evals.const _
      | false => simp only [if_neg (show ¬ (false = true) by decide)]; exact Evals.const _
end Go.Proofs.Ytjpoepiidmoegaa.Q
