/- EscrowAll: adds under fresh transactions, then every transaction made to count, answer true. No condition. -/
import Derived.Test.YtdnkbmjlcdddcaaY1
import Derived.Test.YtdnkbmjlcdddcaaQ8
import Derived.Test.YtdnkbmjlcdddcaaFEscrowAll
namespace Go.Proofs.Ytdnkbmjlcdddcaa.Q
open Go.RowKit Go.Proofs.YtdnkbmjlcdddcaaW Go.Proofs.YtdnkbmjlcdddcaaW.PrintWords
set_option linter.unusedVariables false
set_option linter.unusedSimpArgs false
theorem begin_ev (X : List S74) (ck : Int) (h : X.length < 64) : Evals (fun k => tree_Begin.f k X ck (-1)) (X ++ [⟨-1, 1, wrap64 (ck + 1), 0⟩], wrap64 (ck + 1), (X.length : Int), 0) := by
  have ht : tree_Tree_tick.f X ck = some (X, wrap64 (ck + 1)) := by
    unfold tree_Tree_tick.f tree_Tx.f
    first | rfl | (rw [if_pos (by omega)]; rfl)
  have hw : wrap64 (((X ++ [(⟨-1, 1, wrap64 (ck + 1), 0⟩ : S74)]).length : Int) - 1) = (X.length : Int) := by rw [List.length_append]; unfold wrap64; simp; omega
  unfold tree_Begin.f
  simp only [if_true]
  refine Evals.succ (Evals.succ (Evals.of fun k => ?_))
  simp only [tree_Begin.j0, tree_Begin.j1, if_neg (show ¬ (false = true) by decide), if_neg (show ¬ ((-1 : Int) != -1) = true by decide), if_neg (show ¬ (X.length : Int) ≥ 64 by omega), ht, Option.bind_some, if_pos (show X.length < 4398046511104 by omega), hw]
theorem ent_f1 {i b : Int} {p : S83} (h : p ∈ ent i b) : p.f1 = i := by
  unfold ent at h
  split at h
  · cases h
  · rw [List.mem_singleton.1 h]
theorem ent_len (i b : Int) : (ent i b).length ≤ 1 := by unfold ent; split <;> simp
/-- The pends of one transaction stand ahead, or there are none. -/
theorem ahead {P : List S83} (h : Ok P) {j : Int} (hj : ∀ p ∈ P, j ≤ p.f1) :
    (P.filter (fun x => x.f1 == j) = [] ∧ P.filter (fun x => !decide (x.f1 ∈ [j])) = P ∧ ∀ p ∈ P, j + 1 ≤ p.f1) ∨
    (∃ p P', P = p :: P' ∧ P.filter (fun x => x.f1 == j) = [p] ∧ P.filter (fun x => !decide (x.f1 ∈ [j])) = P' ∧ ∀ q ∈ P', j + 1 ≤ q.f1) := by
  have none_ : ∀ Q : List S83, (∀ q ∈ Q, j + 1 ≤ q.f1) → Q.filter (fun x => x.f1 == j) = [] ∧ Q.filter (fun x => !decide (x.f1 ∈ [j])) = Q := by
    intro Q hQ
    constructor
    · rw [List.filter_eq_nil_iff]
      intro q hq
      have := hQ q hq
      simp; omega
    · rw [List.filter_eq_self]
      intro q hq
      have := hQ q hq
      simp; omega
  cases P with
  | nil => exact .inl ⟨rfl, rfl, fun p hp => by cases hp⟩
  | cons p P' =>
    have h1 := List.pairwise_cons.1 h.srt
    have hp := hj p (List.mem_cons_self ..)
    have hq : ∀ q ∈ P', p.f1 + 1 ≤ q.f1 := fun q hq => by
      have := (cmpP_lt _ _).1 (h1.1 q hq)
      have e1 := (h.each p (List.mem_cons_self ..)).1
      have e2 := (h.each q (List.mem_cons_of_mem _ hq)).1
      omega
    by_cases e : p.f1 = j
    · right
      have hq' : ∀ q ∈ P', j + 1 ≤ q.f1 := fun q hh => by have := hq q hh; omega
      obtain ⟨n1, n2⟩ := none_ P' hq'
      refine ⟨p, P', rfl, ?_, ?_, hq'⟩
      · rw [List.filter_cons, if_pos (by simp [e]), n1]
      · rw [List.filter_cons, if_neg (by simp [e]), n2]
    · left
      have hq' : ∀ q ∈ p :: P', j + 1 ≤ q.f1 := fun q hh => by
        rcases List.mem_cons.1 hh with rfl | hh
        · omega
        · have := hq q hh; omega
      obtain ⟨n1, n2⟩ := none_ (p :: P') hq'
      exact ⟨n1, n2, hq'⟩
theorem all_l1 (X : List S74) (ck x6 : Int) : ∀ (d j : Nat) (v : Int) (P : List S83), j + d = X.length → X.length ≤ 30 → Ok P → P.length ≤ 30 → (∀ p ∈ P, (j : Int) ≤ p.f1 ∧ p.f1 < (X.length : Int)) → -50 ≤ v + loS P → v + hiS P ≤ 50 → x6 = v + (loS P + hiS P) →
    Evals (fun k => heronrylaw13_EscrowAll.l1 k true x6 (j : Int) X ck [⟨-50, 50, v⟩] P) true
  | 0, j, v, P, hj, hX, hP, hl, hb, hlo, hhi, hx => by
    obtain rfl : P = [] := by
      cases P with
      | nil => rfl
      | cons p P => have := hb p (List.mem_cons_self ..); omega
    have e : (rd_T28 [(⟨-50, 50, v⟩ : S28)] 0).f2 = x6 := by show v = x6; rw [hx]; simp [loS, hiS]
    refine Evals.succ (Evals.of fun k => ?_)
    simp only [heronrylaw13_EscrowAll.l1, if_neg (show ¬ (j : Int) < (X.length : Int) by omega), if_true]
    rw [if_pos (show (([(⟨-50, 50, v⟩ : S28)].length : Nat) : Int) = 1 from rfl), if_pos (show 0 < (([(⟨-50, 50, v⟩ : S28)].length : Nat) : Int) from Int.zero_lt_one), if_pos e]
    rfl
  | d + 1, j, v, P, hj, hX, hP, hl, hb, hlo, hhi, hx => by
    obtain ⟨n1, n2⟩ := loS_neg P hP.each
    have hw : wrap64 ((j : Int) + 1) = ((j + 1 : Nat) : Int) := by unfold wrap64; omega
    have step : ∃ v' P', escrow_Pass.f [⟨-50, 50, v⟩] P (j : Int) (-1) = some ([⟨-50, 50, v'⟩], P') ∧ Ok P' ∧ P'.length ≤ 30 ∧ (∀ p ∈ P', ((j + 1 : Nat) : Int) ≤ p.f1 ∧ p.f1 < (X.length : Int)) ∧ -50 ≤ v' + loS P' ∧ v' + hiS P' ≤ 50 ∧ x6 = v' + (loS P' + hiS P') := by
      unfold escrow_Pass.f
      rw [if_pos ⟨by show 1 < 1000000000000; decide, by omega, hP.srt⟩]
      rcases ahead hP (fun p hp => (hb p hp).1) with ⟨f1, f2, f3⟩ | ⟨p, P', rfl, f1, f2, f3⟩
      · rw [f1, f2]
        exact ⟨v, P, rfl, hP, hl, fun p hp => ⟨by have := f3 p hp; omega, (hb p hp).2⟩, hlo, hhi, hx⟩
      · rw [f1, f2]
        obtain ⟨s0, s1, s2, s3, s4, s5⟩ := hP.each p (List.mem_cons_self ..)
        have hE : ∀ q ∈ P', sound1 q := fun q hq => hP.each q (List.mem_cons_of_mem _ hq)
        obtain ⟨m1, m2⟩ := loS_neg P' hE
        rw [loS] at hlo hx n1
        rw [hiS] at hhi hx n2
        have e : [p].foldl (passStep (-1)) ([(⟨-50, 50, v⟩ : S28)], P') = ([⟨-50, 50, v + (p.f2 + p.f3)⟩], P') := by
          show passStep (-1) ([(⟨-50, 50, v⟩ : S28)], P') p = _
          unfold passStep
          rw [s0, if_pos ⟨Int.le_refl _, Int.zero_lt_one⟩, if_pos (by decide)]
          have e3 : fixC [(⟨-50, 50, v⟩ : S28)] (0 : Int).toNat p.f2 p.f3 = [⟨-50, 50, wrap64 (v + wrap64 (p.f2 + p.f3))⟩] := rfl
          rw [show (([(⟨-50, 50, v⟩ : S28)], P') : List S28 × List S83).1 = [⟨-50, 50, v⟩] from rfl, e3, show wrap64 (v + wrap64 (p.f2 + p.f3)) = v + (p.f2 + p.f3) by unfold wrap64; omega]
        rw [e]
        rw [List.length_cons] at hl
        exact ⟨_, _, rfl, ⟨(List.pairwise_cons.1 hP.srt).2, hE⟩, by omega, fun q hq => ⟨by have := f3 q hq; omega, (hb q (List.mem_cons_of_mem _ hq)).2⟩, by omega, by omega, by omega⟩
    obtain ⟨v', P', e, hP', hl', hb', hlo', hhi', hx'⟩ := step
    obtain ⟨m1, m2⟩ := loS_neg P' hP'.each
    have ih := all_l1 X ck x6 d (j + 1) v' P' (by omega) hX hP' hl' hb' hlo' hhi' hx'
    have hin : inC [(⟨-50, 50, v'⟩ : S28)] := by
      intro c hc; rw [List.mem_singleton.1 hc]; exact inR_small (by show -1000000000 ≤ v'; omega) (by show v' ≤ 1000000000; omega)
    have hs := sane_ev hin (ok_inP hP' (by omega) (by omega)) (show P'.length < 1000000 by omega) (show [(⟨-50, 50, v'⟩ : S28)].length < 1000000 by show 1 < 1000000; decide)
    rw [sane_one hP' (by omega) (by decide) (by decide) hlo' hhi'] at hs
    refine Evals.succ ?_
    simp only [heronrylaw13_EscrowAll.l1, if_pos (show (j : Int) < (X.length : Int) by omega), e, Option.bind_some, hw]
    refine Evals.bind hs ?_
    simp only [if_true]
    exact ih
theorem all_l0 (l : List Int) (hl30 : l.length ≤ 30) : ∀ (d i : Nat) (x6 ck : Int) (X : List S74) (P : List S83), i + d = l.length → X.length = i → Ok P → P.length ≤ i → (∀ p ∈ P, p.f1 < (i : Int)) → -50 ≤ loS P → hiS P ≤ 50 → x6 = loS P + hiS P →
    Evals (fun k => heronrylaw13_EscrowAll.l0 k l true x6 (i : Int) X ck [⟨-50, 50, 0⟩] P) true
  | 0, i, x6, ck, X, P, hi, hX, hP, hl, hb, hlo, hhi, hx => by
    refine Evals.succ ?_
    simp only [heronrylaw13_EscrowAll.l0, if_neg (show ¬ (i : Int) < (l.length : Int) by omega)]
    exact all_l1 X ck x6 X.length 0 0 P (by omega) (by omega) hP (by omega) (fun p hp => ⟨(hP.each p hp).2.1, by have := hb p hp; omega⟩) (by omega) (by omega) (by omega)
  | d + 1, i, x6, ck, X, P, hi, hX, hP, hl, hb, hlo, hhi, hx => by
    obtain ⟨n1, n2⟩ := loS_neg P hP.each
    have hw : wrap64 ((i : Int) + 1) = ((i + 1 : Nat) : Int) := by unfold wrap64; omega
    have hw2 : wrap64 (rd l (i : Int) % 32 - 16) = rd l (i : Int) % 32 - 16 := by unfold wrap64; omega
    have hbr : -16 ≤ rd l (i : Int) % 32 - 16 ∧ rd l (i : Int) % 32 - 16 ≤ 15 := by omega
    refine Evals.succ ?_
    simp only [heronrylaw13_EscrowAll.l0, if_pos (show (i : Int) < (l.length : Int) by omega), and_31, hw2, hw]
    refine Evals.bind (begin_ev X ck (by omega)) ?_
    simp only [if_true, if_pos (show 0 ≤ (i : Int) by omega)]
    generalize rd l (i : Int) % 32 - 16 = b at hbr
    generalize hX' : X ++ [(⟨-1, 1, wrap64 (ck + 1), 0⟩ : S74)] = X'
    have hXl : X'.length = i + 1 := by rw [← hX', List.length_append, hX]; rfl
    have hrd : (rd_T74 X' (i : Int)).f1 = 1 := by
      rw [← hX']
      unfold rd_T74
      rw [Int.toNat_natCast, List.getD_eq_getElem?_getD, List.getElem?_append_right (by omega), hX, Nat.sub_self]
      rfl
    have ha := add_ev (C := [(⟨-50, 50, 0⟩ : S28)]) (by intro c hc; rw [List.mem_singleton.1 hc]; decide) (ok_inP hP (by omega) (by omega)) (show P.length < 1000000 by omega) (show 1 < 1000000 by decide) X' (wrap64 (ck + 1)) (i : Int) 0 b (inR_small (by omega) (by omega))
    have hadd := add_one (A := -50) (B := 50) (v := 0) hP (by omega) (by decide) (by decide) (by omega) (by omega) (X := X') (i := (i : Int)) (b := b) (by omega) (by omega) (by omega) hrd (by omega) hb
    rw [hadd] at ha
    rw [hX]
    refine Evals.bind ha ?_
    obtain ⟨e1, e2⟩ := ent_sums (i : Int) b
    by_cases hq : -50 ≤ 0 + loS P + min b 0 ∧ 0 + hiS P + max b 0 ≤ 50
    · rw [if_pos hq]
      have hw3 : wrap64 (x6 + b) = x6 + b := by unfold wrap64; omega
      simp only [if_true, hw3]
      have := ent_len (i : Int) b
      refine all_l0 l hl30 d (i + 1) (x6 + b) _ X' (P ++ ent (i : Int) b) (by omega) hXl (ent_ok hP (by omega) (by omega) hb) (by rw [List.length_append]; omega) (fun p hp => ?_) (by rw [loS_append, e1]; omega) (by rw [hiS_append, e2]; omega) (by rw [loS_append, hiS_append, e1, e2]; omega)
      rcases List.mem_append.1 hp with hp | hp
      · have := hb p hp; omega
      · have := ent_f1 hp; omega
    · rw [if_neg hq]
      simp only [if_neg (show ¬ ((8 : Int) = 0) by decide), if_true]
      exact all_l0 l hl30 d (i + 1) x6 _ X' P (by omega) hXl hP (by omega) (fun p hp => by have := hb p hp; omega) hlo hhi hx
theorem all_ev (l : List Int) : Evals (fun k => heronrylaw13_EscrowAll.f k l) true := by
  unfold heronrylaw13_EscrowAll.f
  refine Evals.bind awake_ev ?_
  by_cases h : (l.length : Int) > 30
  · simp only [if_pos h]; exact Evals.const _
  simp only [if_neg h]
  exact all_l0 l (by omega) l.length 0 0 0 [] [] (by omega) rfl ok_nil (Nat.le_refl _) (fun p hp => by cases hp) (by decide) (by decide) rfl
end Go.Proofs.Ytdnkbmjlcdddcaa.Q
namespace Go.Proofs.Ytdnkbmjlcdddcaa
theorem escrowAll_holds : Rows.EscrowAllSaid :=
  escrowAll.said fun A c l w hr hc _ => by
    obtain ⟨k, hk⟩ := (Q.all_ev l).get
    exact Q.heronrylaw13_EscrowAll.calls k A c l true w ⟨rfl⟩ hr hc hk
end Go.Proofs.Ytdnkbmjlcdddcaa
