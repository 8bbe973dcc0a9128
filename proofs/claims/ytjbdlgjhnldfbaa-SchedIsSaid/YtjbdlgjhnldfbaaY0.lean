/- Chapter 21, plain: what Sane, Add, Drop, Pick answer. No condition. -/
import Derived.Test.YtjbdlgjhnldfbaaEV
import Derived.Test.YtjbdlgjhnldfbaaQ2
import Derived.Test.YtjbdlgjhnldfbaaQ3
import Derived.Test.YtjbdlgjhnldfbaaQ5
namespace Go.Proofs.Ytjbdlgjhnldfbaa.Q
open Go.RowKit Go.Proofs.YtjbdlgjhnldfbaaW Go.Proofs.YtjbdlgjhnldfbaaW.PrintWords Go.Proofs.YtjbdlgjhnldfbaaW.PrintLast Go.Proofs.YtjbdlgjhnldfbaaW.PrintMore
open FL
set_option linter.unusedVariables false

def soundQ (x : S44) : Bool := decide (0 ≤ x.f0) && (decide (x.f0 < 16) && (decide (0 ≤ x.f2) && (classS x.f1 != 4)))
def goodQ (l : List S44) (i : Nat) : Bool := match l[i]? with | some x => soundQ x && (ixOf (fun y => y.f0 == x.f0) l == (i : Int)) | none => true
def saneQ (l : List S44) (ev : Int) : Bool := (List.range l.length).all (goodQ l) && (decide (1 ≤ ev) && (decide (ev ≤ 1000) && decide (l.length ≤ 64)))

theorem sound_ev (x : S44) (hU : inU x.f1 = true) : sched_Req_sound.f x.f0 x.f1 x.f2 = some (soundQ x) := by
  unfold sched_Req_sound.f soundQ float_Class.f
  rw [if_pos hU]
  by_cases h1 : x.f0 ≥ 0
  · rw [if_pos h1]
    by_cases h2 : x.f0 < 16
    · rw [if_pos h2]
      by_cases h3 : x.f2 ≥ 0
      · rw [if_pos h3]
        have h1' : (0 : Int) ≤ x.f0 := h1
        have h3' : (0 : Int) ≤ x.f2 := h3
        simp [h1', h2, h3']
      · rw [if_neg h3]; have : ¬ (0 : Int) ≤ x.f2 := h3; simp [this]
    · rw [if_neg h2]; simp [h2]
  · rw [if_neg h1]; have : ¬ (0 : Int) ≤ x.f0 := h1; simp [this]

theorem sane_loop (l : List S44) (ev : Int) (hU : ∀ x ∈ l, inU x.f1 = true) (hl : l.length < 9223372036854775807) (d : Nat) : ∀ i : Nat, i + d = l.length → (∀ j, j < i → goodQ l j = true) →
    Evals (fun k => sched_Sane.l0 k l (l.length : Int) (i : Int) l ev) (saneQ l ev) := by
  induction d with
  | zero =>
    intro i hi hg
    have hall : (List.range l.length).all (goodQ l) = true := by
      rw [List.all_eq_true]
      intro j hj
      exact hg j (by rw [List.mem_range] at hj; omega)
    refine Evals.succ (Evals.of fun k => ?_)
    have h0 : ¬ (i : Int) < (l.length : Int) := by omega
    simp only [sched_Sane.l0]
    rw [if_neg h0]
    unfold saneQ
    rw [hall]
    by_cases h1 : ev ≥ 1
    · rw [if_pos h1]
      have h1' : (1 : Int) ≤ ev := h1
      by_cases h2 : ev ≤ 1000
      · rw [if_pos h2]; simp [h1', h2]; omega
      · rw [if_neg h2]; simp [h2]
    · rw [if_neg h1]; have : ¬ (1 : Int) ≤ ev := h1; simp [this]
  | succ d ih =>
    intro i hi hg
    have hlt : i < l.length := by omega
    have hx := rd_at l i hlt
    have h0 : (i : Int) < (l.length : Int) := by omega
    have h1 : (0 : Int) ≤ (i : Int) := by omega
    have hs := sound_ev l[i] (hU _ (List.getElem_mem hlt))
    have hgd : goodQ l i = (soundQ l[i] && (ixOf (fun y => y.f0 == l[i].f0) l == (i : Int))) := by
      unfold goodQ; rw [List.getElem?_eq_getElem hlt]
    refine Evals.succ ?_
    simp only [sched_Sane.l0]
    simp only [if_pos h0, if_pos h1, hx, hs, Option.bind_some]
    have hbad : goodQ l i = false → saneQ l ev = false := by
      intro hb
      have : (List.range l.length).all (goodQ l) = false := by
        rw [List.all_eq_false]
        exact ⟨i, List.mem_range.2 hlt, by rw [hb]; decide⟩
      unfold saneQ; rw [this]; rfl
    by_cases c1 : soundQ l[i] = true
    · simp only [if_pos c1]
      unfold sched_Queue_find.f
      simp only [Option.bind_some]
      by_cases c2 : ixOf (fun x => x.f0 == l[i].f0) l = (i : Int)
      · simp only [if_pos c2]
        rw [w64 (by omega) (by omega), show ((i : Int) + 1) = ((i + 1 : Nat) : Int) by omega]
        refine ih (i + 1) (by omega) (fun j hj => ?_)
        by_cases he : j = i
        · subst he; rw [hgd, c1, c2]; simp
        · exact hg j (by omega)
      · simp only [if_neg c2]
        rw [hbad (by rw [hgd]; simp [c2])]
        exact Evals.const _
    · simp only [if_neg c1]
      rw [hbad (by rw [hgd]; simp [c1])]
      exact Evals.const _

theorem sane_ev (l : List S44) (ev : Int) (hU : ∀ x ∈ l, inU x.f1 = true) (hl : l.length < 9223372036854775807) : Evals (fun k => sched_Sane.f k l ev) (saneQ l ev) := by
  unfold sched_Sane.f
  exact sane_loop l ev hU hl l.length 0 (by omega) (fun j hj => by omega)

theorem ixOf_cases {α : Type} (p : α → Bool) (l : List α) : (ixOf p l = -1 ∧ ∀ x ∈ l, p x = false) ∨ ∃ k : Nat, ∃ hk : k < l.length, ixOf p l = (k : Int) ∧ p l[k] = true ∧ ∀ j (hj : j < k), p (l[j]'(by omega)) = false := by
  cases h : l.findIdx? p with
  | none =>
    left
    refine ⟨by unfold ixOf; rw [h], fun x hx => ?_⟩
    rw [List.findIdx?_eq_none_iff] at h
    exact h x hx
  | some k =>
    right
    rw [List.findIdx?_eq_some_iff_getElem] at h
    obtain ⟨hk, hp, hb⟩ := h
    refine ⟨k, hk, ?_, hp, fun j hj => by simpa using hb j hj⟩
    exact ixOf_at p l k hk hp (fun j hj => by simpa using hb j hj)

/-! ### Add -/
def addQ (l : List S44) (ev s r : Int) : List S44 × Int × Int := if (saneQ l ev && soundQ ⟨s, r, 0⟩) = true then (if s ∈ l.map (·.f0) then ([], 0, 7) else (l ++ [⟨s, r, 0⟩], ev, 0)) else ([], 0, 1)
theorem add_ev (l : List S44) (ev s r : Int) (hU : ∀ x ∈ l, inU x.f1 = true) (hr : inU r = true) (hl : l.length < 1000000) : Evals (fun k => sched_Add.f k l ev s r) (addQ l ev s r) := by
  unfold sched_Add.f addQ
  have hso := sound_ev ⟨s, r, 0⟩ hr
  simp only at hso
  refine Evals.bind (sane_ev l ev hU (by omega)) ?_
  cases h1 : saneQ l ev with
  | false =>
    simp only [Bool.false_and, if_neg (show ¬ (false = true) by decide)]
    refine Evals.succ (Evals.of fun k => ?_)
    simp only [sched_Add.j0, if_pos]
  | true =>
    simp only [Bool.true_and, if_pos, hso, Option.bind_some]
    refine Evals.succ (Evals.of fun k => ?_)
    cases h2 : soundQ ⟨s, r, 0⟩ with
    | false =>
      simp only [sched_Add.j0]
      rw [if_pos (by decide), if_neg (by decide)]
    | true =>
      have hlm : l.length < 5864062014805 := by omega
      have hlm2 : l.length + 1 < 5864062014805 := by omega
      simp only [sched_Add.j0, sched_Queue_find.f, Option.bind_some, sched_Req.f]
      rw [if_neg (by decide), if_pos trivial, if_pos hlm]
      rcases ixOf_cases (fun y : S44 => y.f0 == s) l with ⟨e1, e2⟩ | ⟨k, hk, e1, e2, e3⟩
      · have hn : ¬ s ∈ l.map (·.f0) := by
          intro hm
          obtain ⟨x, hx, rfl⟩ := List.mem_map.1 hm
          have := e2 x hx
          simp at this
        rw [e1, if_neg (by decide), if_neg hn]
        simp only [Option.bind_some, List.length_singleton]
        rw [if_pos hlm2]
      · have hm : s ∈ l.map (·.f0) := List.mem_map.2 ⟨l[k], List.getElem_mem hk, by simpa using e2⟩
        rw [e1, if_pos (by omega), if_pos hm]
end Go.Proofs.Ytjbdlgjhnldfbaa.Q
