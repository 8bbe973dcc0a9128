/- What Sum and Net answer. No condition. -/
import Derived.Test.YtjpoepiidmoegaaQ2
import Derived.Test.YtjpoepiidmoegaaYQ
import Derived.Test.YtjpoepiidmoegaaQ10
namespace Go.Proofs.Ytjpoepiidmoegaa.Q
open Go.RowKit Go.Proofs.YtjpoepiidmoegaaW Go.Proofs.YtjpoepiidmoegaaW.PrintWords Go.Proofs.YtjpoepiidmoegaaW.PrintLast Go.Proofs.YtjpoepiidmoegaaW.PrintMore
set_option linter.unusedVariables false
set_option linter.unusedSimpArgs false
theorem sum_val {x : List Int} (hx : x.all inR = true) (hn : x.length ≤ 4096) : span_Sum.f x = some (toldOf (sumBy id x)) := by
  unfold span_Sum.f; rw [if_pos hx, if_neg (by omega)]
theorem inR_f2 {x : S33} (h : inE x = true) : inR x.f2 = true := by
  unfold inE inI at h
  unfold inR
  simp only [Bool.and_eq_true] at h
  exact h.2.2
theorem addC_inR {L : List S33} (h : ∀ x ∈ L, inE x = true) (c : Int) : (addC c L).all inR = true := by
  rw [List.all_eq_true]
  intro y hy
  unfold addC at hy
  obtain ⟨x, hx, rfl⟩ := List.mem_map.1 hy
  exact inR_f2 (h x (List.mem_filter.1 hx).1)
theorem addC_len (L : List S33) (c : Int) : (addC c L).length ≤ L.length := by
  unfold addC; rw [List.length_map]; exact List.length_filter_le _ _
theorem addC_one_yes {c : Int} {x : S33} (h : x.f1 = c) : addC c [x] = [x.f2] := by unfold addC; simp [h]
theorem addC_one_no {c : Int} {x : S33} (h : ¬ x.f1 = c) : addC c [x] = [] := by unfold addC; simp [h]
theorem num_succ (i n : Nat) (h : i < n) (hn : n ≤ 100000) : wrap64 ((i : Int) + 1) = ((i + 1 : Nat) : Int) := by unfold wrap64; omega
theorem net_loop (L : List S33) (h : ∀ x ∈ L, inE x = true) (hn : L.length ≤ 1000) (c : Int) (d : Nat) : ∀ i : Nat, i + d = L.length →
    Evals (fun k => oplist_Net.l0 k c (addC c (L.take i)) L (L.length : Int) (i : Int)) (toldOf (sumC c L)) := by
  induction d with
  | zero =>
    intro i hi
    refine Evals.succ ?_
    have h0 : ¬ (i : Int) < (L.length : Int) := by omega
    have ht : L.take i = L := List.take_of_length_le (by omega)
    have hs := sum_val (addC_inR h c) (Nat.le_trans (addC_len L c) (by omega))
    rw [ht]
    simp only [oplist_Net.l0, if_neg h0]
    refine Evals.bind (Evals.of fun _ => hs) ?_
    exact Evals.of fun _ => rfl
  | succ d ih =>
    intro i hi
    have h0 : (i : Int) < (L.length : Int) := by omega
    have h1 : (0 : Int) ≤ (i : Int) := by omega
    have hl : (addC c (L.take i)).length < 17592186044416 := Nat.lt_of_le_of_lt (addC_len _ _) (Nat.lt_of_le_of_lt (List.length_take_le _ _) (by omega))
    have hw := num_succ i L.length (by omega) (by omega)
    have hk := ih (i + 1) (by omega)
    rw [List.take_succ_eq_append_getElem (show i < L.length by omega), addC_app] at hk
    refine Evals.succ ?_
    simp only [oplist_Net.l0, if_pos h0, if_pos h1, if_pos hl, rd_at L i (by omega), hw]
    generalize L[i] = x at *
    by_cases hc : x.f1 = c
    · rw [addC_one_yes hc] at hk
      simp only [if_pos hc]; exact hk
    · rw [addC_one_no hc, List.append_nil] at hk
      simp only [if_neg hc]; exact hk
theorem net_ev {L : List S33} (h : Fit L) (c : Int) : Evals (fun k => oplist_Net.f k L c) (toldOf (sumC c L)) :=
  net_loop L h.inn (Nat.le_trans h.len (by decide)) c L.length 0 (by omega)
end Go.Proofs.Ytjpoepiidmoegaa.Q
