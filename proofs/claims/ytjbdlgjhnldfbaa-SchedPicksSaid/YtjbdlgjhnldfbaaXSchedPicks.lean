/- SchedPicks: at every input the law returns true and its arguments read as before. No condition. -/
import Derived.Test.YtjbdlgjhnldfbaaY4
import Derived.Test.YtjbdlgjhnldfbaaFSchedPicks
import Derived.Test.YtjbdlgjhnldfbaaQ14
namespace Go.Proofs.Ytjbdlgjhnldfbaa.Q
open Go.RowKit Go.Proofs.YtjbdlgjhnldfbaaW Go.Proofs.YtjbdlgjhnldfbaaW.PrintWords Go.Proofs.YtjbdlgjhnldfbaaW.PrintLast Go.Proofs.YtjbdlgjhnldfbaaW.PrintMore
open FL
set_option linter.unusedVariables false
set_option linter.unusedSimpArgs false
set_option linter.unusedSectionVars false

theorem drop_mem (a : List Int) (j : Nat) (hj : j < a.length) (f : Int) : decide (f ∈ a.drop j) = ((rd a (j : Int) == f) || decide (f ∈ a.drop (j + 1))) := by
  rw [List.drop_eq_getElem_cons hj, rdi_at a j hj, Bool.eq_iff_iff]
  simp only [decide_eq_true_eq, Bool.or_eq_true, beq_iff_eq, List.mem_cons, @eq_comm _ f a[j]]
section
variable (ready : List Int) (x5 : Bool) (s e9 : Int) (q : List S43) (e : Int) (xl : List S44) (xe : Int) (hq : q.length < 1000000) (hr : ready.length < 1000000)
include hq hr
theorem picks_l1 (x10 x11 : Bool) (x12 x13 : Int) (i : Nat) (hi : i < q.length) (r : Bool) : ∀ (n j : Nat), j + n = ready.length → ∀ x15 : Bool,
    Evals (fun k => heronrylaw21_SchedPicks.j3 k ready x5 s e9 (x10 || (x15 || decide (q[i].f0 ∈ ready.drop j))) x11 x12 x13 (i : Int) (x15 || decide (q[i].f0 ∈ ready.drop j)) q e xl xe) r →
    Evals (fun k => heronrylaw21_SchedPicks.l1 k ready x5 s e9 x10 x11 x12 x13 (i : Int) x15 (j : Int) q e xl xe) r
  | 0, j, hj, x15, h => by
    have hd : decide (q[i].f0 ∈ ready.drop j) = false := by rw [List.drop_eq_nil_of_le (by omega)]; simp
    rw [hd, Bool.or_false] at h
    refine Evals.succ (Evals.congr (fun k => ?_) h)
    rw [heronrylaw21_SchedPicks.l1, if_neg (by omega)]
    cases x10 with
    | true => rw [if_pos rfl, Bool.true_or]
    | false => rw [if_neg (by decide), Bool.false_or]
  | n + 1, j, hj, x15, h => by
    have hw : wrap64 ((j : Int) + 1) = ((j + 1 : Nat) : Int) := by rw [w64 (by omega) (by omega)]; omega
    cases x15 with
    | true =>
      have ih := picks_l1 x10 x11 x12 x13 i hi r n (j + 1) (by omega) true (by simpa using h)
      refine Evals.succ (Evals.congr (fun k => ?_) ih)
      rw [heronrylaw21_SchedPicks.l1, if_pos (by omega), if_pos rfl, hw]
    | false =>
      rw [drop_mem ready j (by omega), Bool.false_or] at h
      have ih := picks_l1 x10 x11 x12 x13 i hi r n (j + 1) (by omega) (rd ready (j : Int) == q[i].f0) h
      refine Evals.succ (Evals.congr (fun k => ?_) ih)
      rw [heronrylaw21_SchedPicks.l1, if_pos (by omega), if_neg (by decide), if_pos (by omega), if_pos (by omega), if_pos (by omega), hw, rd43_at q i hi]
theorem picks_j3 (x10 x11 x15 : Bool) (x12 x13 : Int) (i : Nat) (hi : i < q.length) (r : Bool)
    (h : Evals (fun k => heronrylaw21_SchedPicks.j5 k ready x5 s e9 x10 (x11 || (x15 && decide (q[i].f2 ≥ e))) x12 x13 (i : Int) x15 (decide (e9 = 0) && (q[i].f0 == s)) q e xl xe) r) :
    Evals (fun k => heronrylaw21_SchedPicks.j3 k ready x5 s e9 x10 x11 x12 x13 (i : Int) x15 q e xl xe) r := by
  have h4 : ∀ y11 : Bool, Evals (fun k => heronrylaw21_SchedPicks.j5 k ready x5 s e9 x10 y11 x12 x13 (i : Int) x15 (decide (e9 = 0) && (q[i].f0 == s)) q e xl xe) r → Evals (fun k => heronrylaw21_SchedPicks.j4 k ready x5 s e9 x10 y11 x12 x13 (i : Int) x15 q e xl xe) r := by
    intro y11 h
    refine Evals.succ (Evals.congr (fun k => ?_) h)
    rw [heronrylaw21_SchedPicks.j4]
    by_cases h0 : e9 = 0
    · rw [if_pos h0, if_pos (by omega), if_pos (by omega), rd43_at q i hi, decide_eq_true h0, Bool.true_and]
    · rw [if_neg h0, decide_eq_false h0, Bool.false_and]
  refine Evals.succ (Evals.congr (fun k => ?_) (h4 _ h))
  rw [heronrylaw21_SchedPicks.j3]
  cases x11 with
  | true => rw [if_pos rfl, Bool.true_or]
  | false =>
    rw [if_neg (by decide), Bool.false_or]
    cases x15 with
    | true => rw [if_pos rfl, if_pos (by omega), if_pos (by omega), rd43_at q i hi, Bool.true_and]
    | false => rw [if_neg (by decide), Bool.false_and]
/-- One round, to its end. -/
theorem picks_l0 (x10 x11 : Bool) (x12 x13 : Int) (i : Nat) (hi : i < q.length) (r : Bool)
    (h : Evals (fun k => heronrylaw21_SchedPicks.j5 k ready x5 s e9 (x10 || decide (q[i].f0 ∈ ready)) (x11 || (decide (q[i].f0 ∈ ready) && decide (q[i].f2 ≥ e))) x12 x13 (i : Int) (decide (q[i].f0 ∈ ready)) (decide (e9 = 0) && (q[i].f0 == s)) q e xl xe) r) :
    Evals (fun k => heronrylaw21_SchedPicks.l0 k ready x5 s e9 x10 x11 x12 x13 (i : Int) q e xl xe) r := by
  have h3 := picks_j3 ready x5 s e9 q e xl xe hq hr _ _ _ _ _ i hi r h
  have h1 := picks_l1 ready x5 s e9 q e xl xe hq hr x10 x11 x12 x13 i hi r ready.length 0 (by omega) false (by simpa using h3)
  refine Evals.succ (Evals.congr (fun k => ?_) h1)
  rw [heronrylaw21_SchedPicks.l0, if_pos (by omega)]
  rfl
/-- None is ready. -/
theorem picks_none (hno : ∀ x ∈ q, decide (x.f0 ∈ ready) = false) : ∀ (n i : Nat), i + n = q.length →
    Evals (fun k => heronrylaw21_SchedPicks.l0 k ready true s 6 false false 0 0 (i : Int) q e xl xe) true
  | 0, i, hi => Evals.succ (Evals.of (fun k => by rw [heronrylaw21_SchedPicks.l0, if_neg (by omega), if_neg (by decide), if_pos rfl, if_pos rfl]; rfl))
  | n + 1, i, hi => by
    have hi' : i < q.length := by omega
    have ih := picks_none hno n (i + 1) (by omega)
    refine picks_l0 ready true s 6 q e xl xe hq hr false false 0 0 i hi' true ?_
    rw [hno _ (List.getElem_mem hi')]
    refine Evals.succ (Evals.congr (fun k => ?_) ih)
    rw [heronrylaw21_SchedPicks.j5, if_neg (by simp), if_neg (by decide), w64 (by omega) (by omega)]
    rfl
/-- The end: the one that was picked has the greatest rank of those that are ready, if none is old. -/
theorem picks_l3 (hU : ∀ x ∈ q, inU x.f1 = true) (x10 x11 : Bool) (rk x13 : Int) (hk : inU rk = true) (i : Nat) (hi : i < q.length) (hle : q[i].f0 ∈ ready → lessS rk q[i].f1 = false) (r : Bool)
    (h : Evals (fun k => heronrylaw21_SchedPicks.l2 k ready x5 x10 x11 rk x13 ((i + 1 : Nat) : Int) q e xl xe) r) : ∀ (n j : Nat), j + n = ready.length →
    Evals (fun k => heronrylaw21_SchedPicks.l3 k ready x5 x10 x11 rk x13 (i : Int) (j : Int) q e xl xe) r
  | 0, j, hj => by
    refine Evals.succ (Evals.congr (fun k => ?_) h)
    rw [heronrylaw21_SchedPicks.l3, if_neg (by omega), w64 (by omega) (by omega)]
    rfl
  | n + 1, j, hj => by
    have ih := picks_l3 hU x10 x11 rk x13 hk i hi hle r h n (j + 1) (by omega)
    have hw : wrap64 ((j : Int) + 1) = ((j + 1 : Nat) : Int) := by rw [w64 (by omega) (by omega)]; omega
    refine Evals.succ (Evals.congr (fun k => ?_) ih)
    rw [heronrylaw21_SchedPicks.l3, if_pos (by omega), if_pos (by omega), if_pos (by omega), if_pos (by omega), rd43_at q i hi, rdi_at ready j (by omega), hw]
    by_cases he : ready[j] = q[i].f0
    · have hl := hle (by rw [← he]; exact List.getElem_mem _)
      rw [if_pos he]
      unfold float_Less.f
      rw [if_pos ⟨hk, hU _ (List.getElem_mem hi)⟩, Option.bind_some, hl, if_neg (by decide)]
    · rw [if_neg he]
theorem picks_l2 (hU : ∀ x ∈ q, inU x.f1 = true) (x11 : Bool) (rk : Int) (hk : inU rk = true) (hx : xl.length + 1 = q.length) (hle : x11 = false → ∀ i (hi : i < q.length), q[i].f0 ∈ ready → lessS rk q[i].f1 = false) : ∀ (n i : Nat), i + n = q.length →
    Evals (fun k => heronrylaw21_SchedPicks.l2 k ready true true x11 rk (xl.length : Int) (i : Int) q e xl xe) true := by
  have fin : ∀ i : Int, Evals (fun k => heronrylaw21_SchedPicks.j7 k ready true true x11 rk (xl.length : Int) i false q e xl xe) true := by
    intro i
    refine Evals.succ (Evals.of (fun k => ?_))
    rw [heronrylaw21_SchedPicks.j7, if_neg (by decide), if_pos rfl, if_pos rfl, if_pos rfl, w64_of (by omega) (by omega)]
    have : ((xl.length : Int) == (q.length : Int) - 1) = true := by rw [beq_iff_eq]; omega
    rw [this]
  intro n
  induction n with
  | zero =>
    intro i hi
    refine Evals.succ (Evals.congr (fun k => ?_) (fin (i : Int)))
    rw [heronrylaw21_SchedPicks.l2, if_neg (by omega)]
  | succ n ih =>
    intro i hi
    cases hx11 : x11 with
    | true =>
      rw [hx11] at fin
      refine Evals.succ (Evals.congr (fun k => ?_) (fin (i : Int)))
      rw [heronrylaw21_SchedPicks.l2, if_pos (by omega)]
      rfl
    | false =>
      rw [hx11] at ih
      have h3 := picks_l3 ready true q e xl xe hq hr hU true false rk (xl.length : Int) hk i (by omega) (hle hx11 i (by omega)) true (ih (i + 1) (by omega)) ready.length 0 (by omega)
      refine Evals.succ (Evals.succ (Evals.congr (fun k => ?_) h3))
      rw [heronrylaw21_SchedPicks.l2, if_pos (by omega), heronrylaw21_SchedPicks.j7, if_pos (by decide)]
      rfl
end
def anyR (ready : List Int) (q : List S43) (i : Nat) : Bool := (q.take i).any (fun x => decide (x.f0 ∈ ready))
def anyO (ready : List Int) (e : Int) (q : List S43) (i : Nat) : Bool := (q.take i).any (fun x => decide (x.f0 ∈ ready) && decide (x.f2 ≥ e))
theorem anyR_succ (ready : List Int) (q : List S43) (i : Nat) (hi : i < q.length) : anyR ready q (i + 1) = (anyR ready q i || decide (q[i].f0 ∈ ready)) := by
  unfold anyR; rw [List.take_succ_eq_append_getElem hi, List.any_append]; simp
theorem anyO_succ (ready : List Int) (e : Int) (q : List S43) (i : Nat) (hi : i < q.length) : anyO ready e q (i + 1) = (anyO ready e q i || (decide (q[i].f0 ∈ ready) && decide (q[i].f2 ≥ e))) := by
  unfold anyO; rw [List.take_succ_eq_append_getElem hi, List.any_append]; simp
theorem bump_get (ready : List Int) (l : List S44) (i : Nat) (hi : i < (bump ready l).length) : ((bump ready l)[i]).f0 = (l[i]'(by rw [bump_len] at hi; exact hi)).f0 ∧ ((bump ready l)[i]).f1 = (l[i]'(by rw [bump_len] at hi; exact hi)).f1 := by
  have e : (bump ready l)[i] = (if isR ready (l[i]'(by rw [bump_len] at hi; exact hi)) = true then bump1 (l[i]'(by rw [bump_len] at hi; exact hi)) else l[i]'(by rw [bump_len] at hi; exact hi)) := List.getElem_map _
  rw [e]
  by_cases h : isR ready (l[i]'(by rw [bump_len] at hi; exact hi)) = true
  · rw [if_pos h]; exact ⟨rfl, rfl⟩
  · rw [if_neg h]; exact ⟨rfl, rfl⟩
/-- The one at m was picked. -/
theorem picks_some (ready : List Int) (q : List S43) (e : Int) (xe : Int) (hq : q.length < 1000000) (hr : ready.length < 1000000) (hU : ∀ x ∈ q, inU x.f1 = true) (hnd : (q.map (·.f0)).Nodup) (m : Nat) (hm : m < q.length)
    (hR : q[m].f0 ∈ ready) (hle : anyO ready e q q.length = false → ∀ i (hi : i < q.length), q[i].f0 ∈ ready → lessS q[m].f1 q[i].f1 = false) : ∀ (n i : Nat), i + n = q.length →
    Evals (fun k => heronrylaw21_SchedPicks.l0 k ready true q[m].f0 0 (anyR ready q i) (anyO ready e q i) (if m < i then q[m].f1 else 0) ((if m < i then i - 1 else i : Nat) : Int) (i : Int) q e ((bump ready (q.map toS)).eraseIdx m) xe) true := by
  have hbl : (bump ready (q.map toS)).length = q.length := by rw [bump_len, List.length_map]
  have hxl : ((bump ready (q.map toS)).eraseIdx m).length + 1 = q.length := by rw [List.length_eraseIdx_of_lt (by omega), hbl]; omega
  intro n
  induction n with
  | zero =>
    intro i hi
    obtain rfl : i = q.length := by omega
    have hA : anyR ready q q.length = true := by
      unfold anyR
      rw [List.any_eq_true]
      exact ⟨q[m], by rw [List.take_length]; exact List.getElem_mem _, by simpa using hR⟩
    have h2 := picks_l2 ready q e ((bump ready (q.map toS)).eraseIdx m) xe hq hr hU (anyO ready e q q.length) q[m].f1 (hU _ (List.getElem_mem _)) hxl hle q.length 0 (by omega)
    rw [hA, if_pos hm, if_pos hm]
    refine Evals.succ (Evals.congr (fun k => ?_) h2)
    rw [heronrylaw21_SchedPicks.l0, if_neg (by omega), if_pos rfl, show ((q.length - 1 : Nat) : Int) = (((bump ready (q.map toS)).eraseIdx m).length : Int) by omega]
    rfl
  | succ n ih =>
    intro i hi
    have hi' : i < q.length := by omega
    have ih := ih (i + 1) (by omega)
    have hw : wrap64 ((i : Int) + 1) = ((i + 1 : Nat) : Int) := by rw [w64 (by omega) (by omega)]; omega
    refine picks_l0 ready true q[m].f0 0 q e _ xe hq hr _ _ _ _ i hi' true ?_
    rw [← anyR_succ ready q i hi', ← anyO_succ ready e q i hi']
    by_cases him : i = m
    · subst him
      rw [if_pos (by omega), if_pos (by omega)] at ih
      rw [if_neg (by omega), if_neg (by omega)]
      refine Evals.succ (Evals.congr (fun k => ?_) ih)
      have h1 : (decide ((0 : Int) = 0) && (q[i].f0 == q[i].f0)) = true := by simp
      rw [heronrylaw21_SchedPicks.j5, h1, if_pos rfl, if_pos (by omega), if_pos (by omega), if_pos (decide_eq_true hR), rd43_at q i hi', hw, show i + 1 - 1 = i by omega]
    · have hne : q[i].f0 ≠ q[m].f0 := by
        rw [List.nodup_iff_pairwise_ne, List.pairwise_map, List.pairwise_iff_getElem] at hnd
        by_cases hlt : i < m
        · exact hnd i m hi' hm hlt
        · exact fun h => hnd m i hm hi' (by omega) h.symm
      have h1 : (decide ((0 : Int) = 0) && (q[i].f0 == q[m].f0)) = false := by simp [hne]
      obtain ⟨kk, hkk⟩ : ∃ kk : Nat, (if m < i then i - 1 else i) = kk := ⟨_, rfl⟩
      have hk1 : (if m < i + 1 then i + 1 - 1 else i + 1) = kk + 1 := by
        rw [← hkk]
        by_cases hlt : m < i
        · rw [if_pos hlt, if_pos (by omega)]; omega
        · rw [if_neg hlt, if_neg (by omega)]
      have hrk : (if m < i + 1 then q[m].f1 else (0 : Int)) = if m < i then q[m].f1 else 0 := by
        by_cases hlt : m < i
        · rw [if_pos hlt, if_pos (by omega)]
        · rw [if_neg hlt, if_neg (by omega)]
      have hkl : kk < ((bump ready (q.map toS)).eraseIdx m).length := by
        rw [← hkk]; by_cases hlt : m < i <;> simp only [hlt, if_true, if_false] <;> omega
      have hg : ((bump ready (q.map toS)).eraseIdx m)[kk].f0 = q[i].f0 ∧ ((bump ready (q.map toS)).eraseIdx m)[kk].f1 = q[i].f1 := by
        have hb := bump_get ready (q.map toS) i (by omega)
        simp only [List.getElem_map] at hb
        rw [List.getElem_eraseIdx]
        by_cases hlt : m < i
        · have : kk = i - 1 := by rw [← hkk, if_pos hlt]
          subst this
          rw [dif_neg (by omega)]
          have e1 : i - 1 + 1 = i := by omega
          simp only [e1]
          exact hb
        · have : kk = i := by rw [← hkk, if_neg hlt]
          subst this
          rw [dif_pos (by omega)]
          exact hb
      rw [hk1, hrk] at ih
      rw [hkk, h1]
      refine Evals.succ (Evals.congr (fun k => ?_) ih)
      rw [heronrylaw21_SchedPicks.j5, if_neg (by decide), if_pos rfl, if_neg (by omega), if_pos (by omega), if_pos (by omega), if_pos (by omega), if_pos (by omega), rd_at _ kk hkl, rd43_at q i hi', if_pos hg.1, if_pos hg.2, hw, w64 (by omega) (by omega)]
      rfl
theorem picks_ev (q : List S43) (e : Int) (ready : List Int) (hU : ∀ x ∈ q, inU x.f1 = true) : Evals (fun k => heronrylaw21_SchedPicks.f k q e ready) true := by
  unfold heronrylaw21_SchedPicks.f
  refine Evals.bind awake_ev ?_
  have skip : Evals (fun k => heronrylaw21_SchedPicks.j0 k ready true true q e) true := Evals.succ (Evals.of (fun k => by rw [heronrylaw21_SchedPicks.j0, if_pos rfl]))
  by_cases h1 : (q.length : Int) > 70
  · simp only [if_pos h1]; exact skip
  by_cases h2 : (ready.length : Int) > 60
  · simp only [if_neg h1, if_pos h2]; exact skip
  simp only [if_neg h1, if_neg h2]
  refine Evals.bind (rsane_ev q e hU (by omega)) ?_
  cases hs : saneQ (q.map toS) e with
  | false => exact skip
  | true =>
    have hoU : ∀ x ∈ q.map toS, inU x.f1 = true := by
      intro x hx
      obtain ⟨y, hy, rfl⟩ := List.mem_map.1 hx
      exact hU y hy
    have hnd : (q.map (·.f0)).Nodup := by
      have := ((saneQ_iff _ _).1 hs).2.1
      rw [List.map_map] at this
      exact this
    refine Evals.succ (Evals.congr (h := fun k => (heronrylaw21_ours.f k q e).bind fun bt => ((sched_Pick.f k bt.1 bt.2 ready).bind fun b2 => (heronrylaw21_SchedPicks.l0 k ready true b2.2.2.1 b2.2.2.2 false false 0 0 0 q e b2.1 b2.2.1))) (fun k => by rw [heronrylaw21_SchedPicks.j0, if_neg (by decide)]) ?_)
    refine Evals.bind (ours_ev q e (by omega)) (Evals.bind (pick_ev (q.map toS) e ready hoU (by rw [List.length_map]; omega) (by omega)) ?_)
    rcases pick_cases (q.map toS) e ready hs with ⟨hp, hno⟩ | ⟨m, hm, hp, hR, hc⟩
    · rw [hp]
      exact picks_none ready 0 q e [] 0 (by omega) (by omega) (fun x hx => hno (toS x) (List.mem_map.2 ⟨x, hx, rfl⟩)) q.length 0 (by omega)
    · rw [hp]
      have hm' : m < q.length := by simpa using hm
      simp only [List.getElem_map] at hR hc ⊢
      have hR' : q[m].f0 ∈ ready := of_decide_eq_true hR
      refine picks_some ready q e e (by omega) (by omega) hU hnd m hm' hR' ?_ q.length 0 (by omega)
      intro hO i hi hri
      have hall : ∀ x ∈ q, (decide (x.f0 ∈ ready) && decide (x.f2 ≥ e)) = false := by
        intro x hx
        unfold anyO at hO
        rw [List.take_length, List.any_eq_false] at hO
        simpa using hO x hx
      rcases hc with ⟨h3, _, _⟩ | ⟨_, _, h5⟩
      · have := hall _ (List.getElem_mem hm')
        have h6 : isO ready e (toS q[m]) = (decide (q[m].f0 ∈ ready) && decide (q[m].f2 ≥ e)) := rfl
        rw [h6, this] at h3
        cases h3
      · exact key_less (hU _ (List.getElem_mem hi)) (hU _ (List.getElem_mem hm')) (h5 i (by simpa using hi) (decide_eq_true hri))
end Go.Proofs.Ytjbdlgjhnldfbaa.Q
namespace Go.Proofs.Ytjbdlgjhnldfbaa
theorem schedPicks_holds : Rows.SchedPicksSaid :=
  schedPicks.said fun x A c A1 c1 l w hg hc hr hr1 hc1 _ => by
    obtain ⟨k, hk⟩ := (Q.picks_ev x.f0 x.f1 l (fun y hy => Q.inU_of_wf ((hg.1 y hy).2.1))).get
    exact Q.heronrylaw21_SchedPicks.calls k A c x.f0 x.f1 A1 c1 l true w ⟨rfl⟩ hr hc hr1 hc1 hk
end Go.Proofs.Ytjbdlgjhnldfbaa
