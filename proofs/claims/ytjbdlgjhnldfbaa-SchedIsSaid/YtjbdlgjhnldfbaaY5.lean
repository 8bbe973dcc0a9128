import Derived.Test.YtjbdlgjhnldfbaaY4
import Derived.Test.YtjbdlgjhnldfbaaQ15
import Derived.Test.YtjbdlgjhnldfbaaQ17
import Derived.Test.YtjbdlgjhnldfbaaQ19
import Derived.Test.YtjbdlgjhnldfbaaQ20
import Derived.Test.YtjbdlgjhnldfbaaQ21
import Derived.Test.YtjbdlgjhnldfbaaQ22
import Derived.Test.YtjbdlgjhnldfbaaQ23
import Derived.Test.YtjbdlgjhnldfbaaQ24
import Derived.Test.YtjbdlgjhnldfbaaQ25
namespace Go.Proofs.Ytjbdlgjhnldfbaa.Q
open Go.RowKit Go.Proofs.YtjbdlgjhnldfbaaW Go.Proofs.YtjbdlgjhnldfbaaW.PrintWords Go.Proofs.YtjbdlgjhnldfbaaW.PrintLast Go.Proofs.YtjbdlgjhnldfbaaW.PrintMore
open FL
set_option linter.unusedVariables false
set_option linter.unusedSimpArgs false
def toR (x : S44) : S43 := ⟨x.f0, x.f1, x.f2⟩
theorem toR_toS (q : List S43) : (q.map toS).map toR = q := by rw [List.map_map]; exact List.map_id q
theorem theirs_go (q : List S44) (e : Int) (hq : q.length < 1000000) : ∀ (n i : Nat), i + n = q.length → Evals (fun k => heronrylaw21_theirs.l0 k (i : Int) q e ((q.take i).map toR) e) (q.map toR, e)
  | 0, i, hi => Evals.succ (Evals.of (fun k => by rw [heronrylaw21_theirs.l0, if_neg (by omega), List.take_of_length_le (by omega)]))
  | n + 1, i, hi => by
    refine Evals.succ (Evals.congr (fun k => ?_) (theirs_go q e hq n (i + 1) (by omega)))
    have hlen : ((q.take i).map toR).length = i := by rw [List.length_map, List.length_take]; omega
    rw [heronrylaw21_theirs.l0, if_pos (by omega), if_pos (by omega), if_pos (by omega), w64 (by omega) (by omega), List.take_succ_eq_append_getElem (show i < q.length by omega), List.map_append, rd_at q i (by omega)]
    rfl
theorem theirs_ev (q : List S44) (e : Int) (hq : q.length < 1000000) : Evals (fun k => heronrylaw21_theirs.f k q e) (q.map toR, e) := theirs_go q e hq q.length 0 (by omega)
theorem same_go (q : List S43) (e : Int) (hq : q.length < 1000000) : ∀ (n i : Nat), i + n = q.length → Evals (fun k => heronryref21_Same.l0 k (i : Int) q e q e) true
  | 0, i, hi => Evals.succ (Evals.of (fun k => by rw [heronryref21_Same.l0, if_neg (by omega)]))
  | n + 1, i, hi => by
    refine Evals.succ (Evals.congr (fun k => ?_) (same_go q e hq n (i + 1) (by omega)))
    rw [heronryref21_Same.l0, if_pos (by omega), if_pos (by omega), if_pos (by omega), if_neg (by simp), w64 (by omega) (by omega)]
    rfl
theorem same_ev (q : List S43) (e : Int) (hq : q.length < 1000000) : Evals (fun k => heronryref21_Same.f k q e q e) true :=
  Evals.congr (h := fun k => heronryref21_Same.j0 k false q e q e) (fun k => by unfold heronryref21_Same.f; rw [if_pos rfl]; simp) (Evals.succ (Evals.congr (fun k => by rw [heronryref21_Same.j0, if_neg (by decide)]; rfl) (same_go q e hq q.length 0 (by omega))))
theorem ixOf_neg_iff (q : List S43) (s : Int) : ixOf (fun y : S44 => y.f0 == s) (q.map toS) ≥ 0 ↔ s ∈ (q.map toS).map (·.f0) := by
  rcases ixOf_cases (fun y : S44 => y.f0 == s) (q.map toS) with ⟨h, h2⟩ | ⟨k, hk, h, h2, _⟩
  · rw [h]
    constructor
    · intro h3; omega
    · intro h3
      obtain ⟨x, hx, e⟩ := List.mem_map.1 h3
      have := h2 x hx
      simp [e] at this
  · rw [h]
    constructor
    · intro _
      refine List.mem_map.2 ⟨_, List.getElem_mem hk, ?_⟩
      simpa using h2
    · intro _; omega
theorem radd_ev (q : List S43) (e s r : Int) (hU : ∀ x ∈ q, inU x.f1 = true) (hr : inU r = true) (hq : q.length < 1000000) :
    Evals (fun k => heronryref21_Add.f k q e s r) ((addQ (q.map toS) e s r).1.map toR, (addQ (q.map toS) e s r).2.1, (addQ (q.map toS) e s r).2.2) := by
  unfold heronryref21_Add.f
  refine Evals.bind (rsane_ev q e hU hq) ?_
  have no : Evals (fun k => heronryref21_Add.j0 k s true q e s r 0) ([], 0, 1) := Evals.succ (Evals.of (fun k => by rw [heronryref21_Add.j0, if_pos rfl]))
  unfold addQ
  cases hs : saneQ (q.map toS) e with
  | false => rw [Bool.false_and, if_neg (by decide)]; exact no
  | true =>
    have ho := one_ev ⟨s, r, 0⟩ hr
    have ho : heronryref21_one.f s r 0 = some (soundQ ⟨s, r, 0⟩) := ho
    simp only [if_pos, ho, Option.bind_some, Bool.true_and]
    cases hso : soundQ ⟨s, r, 0⟩ with
    | false => rw [if_neg (by decide)]; exact no
    | true =>
      rw [if_pos rfl]
      refine Evals.succ (Evals.congr (h := fun k => (heronryref21_find.f k q s).bind fun t => (if t ≥ 0 then some ([], 0, 7) else some (q ++ [⟨s, r, 0⟩], e, 0))) (fun k => ?_) (Evals.bind (find_ev q s hq) ?_))
      · rw [heronryref21_Add.j0, if_neg (by decide)]
        congr 1
        funext t
        by_cases ht : t ≥ 0
        · rw [if_pos ht, if_pos ht]
        · rw [if_neg ht, if_neg ht, Option.bind_some, if_pos (by simp; omega), Option.bind_some, if_pos (by simp; omega)]
          rfl
      · by_cases hm : s ∈ (q.map toS).map (·.f0)
        · rw [if_pos hm]
          refine Evals.of (fun k => ?_)
          rw [if_pos ((ixOf_neg_iff q s).2 hm)]
          rfl
        · rw [if_neg hm]
          refine Evals.of (fun k => ?_)
          rw [if_neg (fun h => hm ((ixOf_neg_iff q s).1 h))]
          rw [List.map_append, toR_toS]
          rfl
def dropQ (l : List S44) (ev s : Int) : List S44 × Int × Int := if saneQ l ev = true then (if ixOf (fun y : S44 => y.f0 == s) l < 0 then ([], 0, 6) else (l.eraseIdx (ixOf (fun y : S44 => y.f0 == s) l).toNat, ev, 0)) else ([], 0, 1)
theorem ixOf_range (s : Int) (l : List S44) : ixOf (fun y : S44 => y.f0 == s) l < (l.length : Int) ∧ -1 ≤ ixOf (fun y : S44 => y.f0 == s) l := by
  rcases ixOf_cases (fun y : S44 => y.f0 == s) l with ⟨h, _⟩ | ⟨k, hk, h, _⟩ <;> rw [h] <;> omega
theorem drop_ev (l : List S44) (ev s : Int) (hU : ∀ x ∈ l, inU x.f1 = true) (hl : l.length < 1000000) : Evals (fun k => sched_Drop.f k l ev s) (dropQ l ev s) := by
  unfold sched_Drop.f sched_Queue_find.f
  simp only [Option.bind_some]
  refine Evals.bind (sane_ev l ev hU (by omega)) ?_
  unfold dropQ
  have hr := ixOf_range s l
  cases hs : saneQ l ev with
  | false => rw [if_neg (by decide)]; exact Evals.of (fun k => by rw [if_neg (by decide)])
  | true =>
    rw [if_pos rfl]
    by_cases h : ixOf (fun y : S44 => y.f0 == s) l < 0
    · rw [if_pos h]; exact Evals.of (fun k => by rw [if_pos rfl, if_pos h])
    · rw [if_neg h]
      refine Evals.of (fun k => ?_)
      unfold sched_Queue_without.f
      rw [if_pos rfl, if_neg h, if_pos ⟨by omega, by omega, by omega⟩, Option.bind_some]
theorem without_val (q : List S43) (i : Int) (h0 : 0 ≤ i) (h1 : i < q.length) (hq : q.length < 1000000) : heronryref21_without.f q i = some (q.eraseIdx i.toNat) := by
  unfold heronryref21_without.f
  have hw : wrap64 (i + 1) = i + 1 := w64 h0 (by omega)
  have e : (i + 1).toNat = i.toNat + 1 := by omega
  rw [Option.bind_some, if_pos h0, if_pos (by omega), Option.bind_some, if_pos (by simp; omega), Option.bind_some, hw, if_pos (by omega), if_pos (by omega), Option.bind_some, if_pos (by simp; omega), e, List.eraseIdx_eq_take_drop_succ, List.nil_append]
theorem erase_map (f : S44 → S43) (l : List S44) (i : Nat) : (l.eraseIdx i).map f = (l.map f).eraseIdx i := by
  rw [List.eraseIdx_eq_take_drop_succ, List.eraseIdx_eq_take_drop_succ, List.map_append, List.map_take, List.map_drop]
theorem rdrop_ev (q : List S43) (e s : Int) (hU : ∀ x ∈ q, inU x.f1 = true) (hq : q.length < 1000000) :
    Evals (fun k => heronryref21_Drop.f k q e s) ((dropQ (q.map toS) e s).1.map toR, (dropQ (q.map toS) e s).2.1, (dropQ (q.map toS) e s).2.2) := by
  unfold heronryref21_Drop.f
  refine Evals.bind (rsane_ev q e hU hq) ?_
  unfold dropQ
  have hr := ixOf_range s (q.map toS)
  rw [List.length_map] at hr
  cases hs : saneQ (q.map toS) e with
  | false => rw [if_neg (by decide)]; exact Evals.of (fun k => by rw [if_neg (by decide)]; rfl)
  | true =>
    rw [if_pos rfl]
    simp only [if_pos]
    refine Evals.bind (find_ev q s hq) ?_
    by_cases h : ixOf (fun y : S44 => y.f0 == s) (q.map toS) < 0
    · rw [if_pos h]; exact Evals.of (fun k => by rw [if_pos h]; rfl)
    · rw [if_neg h]
      refine Evals.of (fun k => ?_)
      rw [if_neg h, without_val q _ (by omega) hr.1 hq, Option.bind_some, erase_map, toR_toS]
theorem among_go (s : Int) (a : List Int) (ha : a.length < 1000000) : ∀ (n i : Nat), i + n = a.length → Evals (fun k => heronryref21_among.l0 k s a (i : Int)) (decide (s ∈ a.drop i))
  | 0, i, hi => by
    have hd : decide (s ∈ a.drop i) = false := by rw [List.drop_eq_nil_of_le (by omega)]; simp
    rw [hd]
    exact Evals.succ (Evals.of (fun k => by rw [heronryref21_among.l0, if_neg (by omega)]))
  | n + 1, i, hi => by
    have hi' : i < a.length := by omega
    by_cases e : a[i] = s
    · have hd : decide (s ∈ a.drop i) = true := decide_eq_true (by rw [List.drop_eq_getElem_cons hi', e]; exact List.mem_cons_self)
      rw [hd]
      exact Evals.succ (Evals.of (fun k => by rw [heronryref21_among.l0, if_pos (by omega), if_pos (by omega), rdi_at a i hi', if_pos e]))
    · have hd : decide (s ∈ a.drop i) = decide (s ∈ a.drop (i + 1)) := by
        rw [List.drop_eq_getElem_cons hi', Bool.eq_iff_iff]
        simp only [decide_eq_true_eq, List.mem_cons]
        exact ⟨fun h => h.resolve_left (fun h2 => e h2.symm), .inr⟩
      rw [hd]
      refine Evals.succ (Evals.congr (fun k => ?_) (among_go s a ha n (i + 1) (by omega)))
      rw [heronryref21_among.l0, if_pos (by omega), if_pos (by omega), rdi_at a i hi', if_neg e, w64 (by omega) (by omega)]
      rfl
theorem among_ev (s : Int) (a : List Int) (ha : a.length < 1000000) : Evals (fun k => heronryref21_among.f k s a) (decide (s ∈ a)) := among_go s a ha a.length 0 (by omega)
theorem rkey_val (b : Int) (h : inU b = true) : heronryref02_Key.f b = some (keyS b) := by
  have h1 := (inU_iff b).1 h
  unfold heronryref02_Key.f heronryref02_sign.f keyS
  rw [Option.bind_some, wrap_u64, wrap_u64]
  by_cases c : 9223372036854775808 ≤ b
  · rw [if_pos c, if_pos (by omega)]; congr 1; omega
  · rw [if_neg c, if_neg (by omega)]; congr 1; omega
theorem rd_map (q : List S43) (k : Nat) (hk : k < q.length) : rd_T44 (q.map toS) (k : Int) = toS q[k] := by rw [rd_at _ k (by simpa using hk), List.getElem_map]
theorem first_go (q : List S43) (e : Int) (ready : List Int) (hU : ∀ x ∈ q, inU x.f1 = true) (hq : q.length < 1000000) (hr : ready.length < 1000000) : ∀ (n i : Nat), i + n = q.length →
    Evals (fun k => heronryref21_first.l0 k ready (bestBy (cW (q.map toS)) (ixs (isO ready e) (q.map toS) i)) (bestBy (cK (q.map toS)) (ixs (isR ready) (q.map toS) i)) (i : Int) q e) (atQ (q.map toS) e ready)
  | 0, i, hi => by
    have hi2 : i = (q.map toS).length := by rw [List.length_map]; omega
    refine Evals.succ (Evals.of (fun k => ?_))
    rw [heronryref21_first.l0, if_neg (by omega)]
    unfold atQ
    rw [hi2]
    by_cases h : bestBy (cW (q.map toS)) (ixs (isO ready e) (q.map toS) (q.map toS).length) < 0
    · rw [if_neg (by omega), if_pos h]
    · rw [if_pos (by omega), if_neg h]
  | n + 1, i, hi => by
    have hi' : i < q.length := by omega
    have ih := first_go q e ready hU hq hr n (i + 1) (by omega)
    have hw : wrap64 ((i : Int) + 1) = ((i + 1 : Nat) : Int) := by rw [w64 (by omega) (by omega)]; omega
    have hln : (q.map toS).length = q.length := List.length_map _
    rw [ixs_snoc, ixs_snoc, rd_map q i hi'] at ih
    have bW := best_ixs (isO ready e) (fun x => x.f2) (q.map toS) i (by omega)
    have bK := best_ixs (isR ready) (fun x => keyS x.f1) (q.map toS) i (by omega)
    have e1 : (fun a b => cmpS (rd_T44 (q.map toS) a).f2 (rd_T44 (q.map toS) b).f2) = cW (q.map toS) := rfl
    have e2 : (fun a b => cmpS (keyS (rd_T44 (q.map toS) a).f1) (keyS (rd_T44 (q.map toS) b).f1)) = cK (q.map toS) := rfl
    simp only [e1] at bW
    simp only [e2] at bK
    have mW : ∀ m y, maxStep (cW (q.map toS)) m y = if (rd_T44 (q.map toS) m).f2 < (rd_T44 (q.map toS) y).f2 then y else m := fun m y => maxStep_cmp (fun a => (rd_T44 (q.map toS) a).f2) m y
    have mK : ∀ m y, maxStep (cK (q.map toS)) m y = if keyS (rd_T44 (q.map toS) m).f1 < keyS (rd_T44 (q.map toS) y).f1 then y else m := fun m y => maxStep_cmp (fun a => keyS (rd_T44 (q.map toS) a).f1) m y
    refine Evals.succ (Evals.congr (fun k => by rw [heronryref21_first.l0, if_pos (by omega), if_pos (by omega), rd43_at q i hi']) (Evals.bind (among_ev q[i].f0 ready hr) ?_))
    have hR : isR ready (toS q[i]) = decide (q[i].f0 ∈ ready) := rfl
    have hO : isO ready e (toS q[i]) = (decide (q[i].f0 ∈ ready) && decide (e ≤ q[i].f2)) := rfl
    cases hin : decide (q[i].f0 ∈ ready) with
    | false =>
      rw [hR, hO, hin, Bool.false_and, if_neg (by decide), List.append_nil, List.append_nil] at ih
      exact Evals.congr (fun k => by rw [if_neg (by decide), hw]) ih
    | true =>
      rw [hR, hO, hin, Bool.true_and, if_pos rfl, bestBy_snoc] at ih
      have two : ∀ o : Int, Evals (fun k => heronryref21_first.l0 k ready o (if (ixs (isR ready) (q.map toS) i).length = 0 then (i : Int) else maxStep (cK (q.map toS)) (bestBy (cK (q.map toS)) (ixs (isR ready) (q.map toS) i)) (i : Int)) ((i + 1 : Nat) : Int) q e) (atQ (q.map toS) e ready) →
          Evals (fun k => heronryref21_first.j2 k ready o (bestBy (cK (q.map toS)) (ixs (isR ready) (q.map toS) i)) (i : Int) q e q[i].f0 q[i].f1 q[i].f2) (atQ (q.map toS) e ready) := by
        intro o h
        refine Evals.succ (Evals.congr (fun k => ?_) h)
        rw [heronryref21_first.j2]
        rcases bK with ⟨h1, h2, _⟩ | ⟨m, hm, h1, h2, _⟩
        · rw [h1, if_pos (by decide), if_pos h2, hw]
        · rw [h1, if_neg (by omega), if_neg h2, rkey_val _ (hU _ (List.getElem_mem hi')), Option.bind_some, if_pos (by omega), if_pos (by omega), rd43_at q m (by omega), rkey_val _ (hU _ (List.getElem_mem _)), Option.bind_some, mK, rd_map q m (by omega), rd_map q i hi', hw]
          have t1 : (toS q[m]).f1 = q[m].f1 := rfl
          have t2 : (toS q[i]).f1 = q[i].f1 := rfl
          rw [t1, t2]
          by_cases c : keyS q[m].f1 < keyS q[i].f1
          · rw [if_pos c, if_pos c]
          · rw [if_neg c, if_neg (by omega)]
      have one : ∀ (o : Int) (b : Bool), Evals (fun k => heronryref21_first.j2 k ready (if b = true then (i : Int) else o) (bestBy (cK (q.map toS)) (ixs (isR ready) (q.map toS) i)) (i : Int) q e q[i].f0 q[i].f1 q[i].f2) (atQ (q.map toS) e ready) →
          Evals (fun k => heronryref21_first.j1 k ready o (bestBy (cK (q.map toS)) (ixs (isR ready) (q.map toS) i)) (i : Int) b q e q[i].f0 q[i].f1 q[i].f2) (atQ (q.map toS) e ready) := by
        intro o b h
        refine Evals.succ (Evals.congr (fun k => ?_) h)
        rw [heronryref21_first.j1]
        cases b <;> rfl
      simp only [if_pos]
      by_cases ho : q[i].f2 ≥ e
      · simp only [if_pos ho]
        rw [decide_eq_true (show e ≤ q[i].f2 from ho), if_pos rfl, bestBy_snoc] at ih
        rcases bW with ⟨h1, h2, _⟩ | ⟨m, hm, h1, h2, _⟩
        · rw [if_pos h2] at ih
          refine Evals.congr (fun k => by rw [h1, if_pos (by decide)]) (one (-1) true (two _ ?_))
          rw [if_pos rfl]; exact ih
        · rw [if_neg h2, h1, mW, rd_map q m (by omega), rd_map q i hi'] at ih
          refine Evals.congr (fun k => by rw [h1, if_neg (by omega), if_pos (by omega), if_pos (by omega), rd43_at q m (by omega)]) (one (m : Int) (decide (q[i].f2 > q[m].f2)) (two _ ?_))
          have t1 : (toS q[m]).f2 = q[m].f2 := rfl
          have t2 : (toS q[i]).f2 = q[i].f2 := rfl
          rw [t1, t2] at ih
          by_cases c : q[m].f2 < q[i].f2
          · rw [if_pos c] at ih; rw [if_pos (decide_eq_true c)]; exact ih
          · rw [if_neg c] at ih; rw [if_neg (by simpa using c)]; exact ih
      · simp only [if_neg ho]
        rw [decide_eq_false (show ¬ e ≤ q[i].f2 from ho), if_neg (by decide), List.append_nil] at ih
        refine one _ false (two _ ?_)
        rw [if_neg (by decide)]; exact ih
theorem first_ev (q : List S43) (e : Int) (ready : List Int) (hU : ∀ x ∈ q, inU x.f1 = true) (hq : q.length < 1000000) (hr : ready.length < 1000000) : Evals (fun k => heronryref21_first.f k q e ready) (atQ (q.map toS) e ready) :=
  first_go q e ready hU hq hr q.length 0 (by omega)
def bumpR (ready : List Int) (x : S43) : S43 := if decide (x.f0 ∈ ready) = true then ⟨x.f0, x.f1, wrap64 (x.f2 + 1)⟩ else x
theorem rpick_go (q : List S43) (e : Int) (ready : List Int) (m : Nat) (hm : m < q.length) (hr : ready.length < 1000000) : ∀ (n i : Nat) (y : List S43), y.length < 1000000 → i + n = y.length →
    Evals (fun k => heronryref21_Pick.l0 k ready (m : Int) (i : Int) q e y e) (y.take i ++ (y.drop i).map (bumpR ready), e, q[m].f0, 0)
  | 0, i, y, hy, hi => by
    refine Evals.succ (Evals.of (fun k => ?_))
    rw [heronryref21_Pick.l0, if_neg (by omega), if_pos (by omega), if_pos (by omega), rd43_at q m hm, List.take_of_length_le (by omega), List.drop_eq_nil_of_le (by omega), List.map_nil, List.append_nil]
  | n + 1, i, y, hy, hi => by
    have hi' : i < y.length := by omega
    have hw : wrap64 ((i : Int) + 1) = ((i + 1 : Nat) : Int) := by rw [w64 (by omega) (by omega)]; omega
    refine Evals.succ (Evals.congr (fun k => by rw [heronryref21_Pick.l0, if_pos (by omega), if_pos (by omega), rd43_at y i hi']) (Evals.bind (among_ev y[i].f0 ready hr) ?_))
    have hd : (y.drop i).map (bumpR ready) = bumpR ready y[i] :: (y.drop (i + 1)).map (bumpR ready) := by rw [List.drop_eq_getElem_cons hi', List.map_cons]
    rw [hd]
    by_cases c : y[i].f0 ∈ ready
    · have hb : bumpR ready y[i] = ⟨y[i].f0, y[i].f1, wrap64 (y[i].f2 + 1)⟩ := by unfold bumpR; rw [if_pos (decide_eq_true c)]
      have ih := rpick_go q e ready m hm hr n (i + 1) (y.set i (bumpR ready y[i])) (by rw [List.length_set]; exact hy) (by rw [List.length_set]; omega)
      rw [List.take_succ_eq_append_getElem (by rw [List.length_set]; exact hi'), List.getElem_set_self, List.take_set_of_le (Nat.le_refl _), List.drop_set_of_lt (Nat.lt_succ_self _), List.append_assoc, List.singleton_append] at ih
      refine Evals.congr (fun k => ?_) ih
      rw [if_pos (decide_eq_true c), hw, hb, Int.toNat_natCast]
    · have hb : bumpR ready y[i] = y[i] := by unfold bumpR; rw [if_neg (by simpa using c)]
      have ih := rpick_go q e ready m hm hr n (i + 1) y hy (by omega)
      rw [List.take_succ_eq_append_getElem hi', List.append_assoc, List.singleton_append] at ih
      rw [hb]
      refine Evals.congr (fun k => ?_) ih
      rw [if_neg (by simpa using c), hw]
theorem bump_R (ready : List Int) (q : List S43) : (bump ready (q.map toS)).map toR = q.map (bumpR ready) := by
  unfold bump
  rw [List.map_map, List.map_map]
  refine List.map_congr_left (fun x _ => ?_)
  show toR (if isR ready (toS x) = true then bump1 (toS x) else toS x) = bumpR ready x
  unfold bumpR
  have hR : isR ready (toS x) = decide (x.f0 ∈ ready) := rfl
  rw [hR]
  by_cases c : decide (x.f0 ∈ ready) = true
  · rw [if_pos c, if_pos c]; rfl
  · rw [if_neg c, if_neg c]; rfl
theorem at_range (l : List S44) (e : Int) (ready : List Int) : atQ l e ready = -1 ∨ (0 ≤ atQ l e ready ∧ atQ l e ready < l.length) := by
  have h1 := bestBy_range (cW l) (ixs (isO ready e) l l.length) l.length (fun x hx => ⟨(ixs_mem _ _ _ _ hx).1, (ixs_mem _ _ _ _ hx).2.1⟩)
  have h2 := bestBy_range (cK l) (ixs (isR ready) l l.length) l.length (fun x hx => ⟨(ixs_mem _ _ _ _ hx).1, (ixs_mem _ _ _ _ hx).2.1⟩)
  unfold atQ
  by_cases c : bestBy (cW l) (ixs (isO ready e) l l.length) < 0
  · rw [if_pos c]; exact h2
  · rw [if_neg c]; exact h1
theorem rpick_ev (q : List S43) (e : Int) (ready : List Int) (hU : ∀ x ∈ q, inU x.f1 = true) (hq : q.length < 1000000) (hr : ready.length < 1000000) :
    Evals (fun k => heronryref21_Pick.f k q e ready) ((pickQ (q.map toS) e ready).1.map toR, (pickQ (q.map toS) e ready).2.1, (pickQ (q.map toS) e ready).2.2.1, (pickQ (q.map toS) e ready).2.2.2) := by
  unfold heronryref21_Pick.f
  refine Evals.bind (rsane_ev q e hU hq) ?_
  unfold pickQ
  have ha := at_range (q.map toS) e ready
  rw [List.length_map] at ha
  cases hs : saneQ (q.map toS) e with
  | false => rw [if_neg (by decide)]; exact Evals.of (fun k => by rw [if_neg (by decide)]; rfl)
  | true =>
    rw [if_pos rfl]
    simp only [if_pos]
    refine Evals.bind (first_ev q e ready hU hq hr) ?_
    by_cases h : atQ (q.map toS) e ready < 0
    · rw [if_pos h]; exact Evals.of (fun k => by rw [if_pos h]; rfl)
    · rw [if_neg h]
      obtain ⟨m, hm⟩ : ∃ m : Nat, atQ (q.map toS) e ready = m := ⟨(atQ (q.map toS) e ready).toNat, by omega⟩
      rw [hm] at h ha ⊢
      have hml : m < q.length := by omega
      have g := rpick_go q e ready m hml hr (q.eraseIdx m).length 0 (q.eraseIdx m) (by rw [List.length_eraseIdx_of_lt hml]; omega) (by omega)
      rw [List.take_zero, List.nil_append, List.drop_zero] at g
      have e1 : ((bump ready (q.map toS)).eraseIdx (m : Int).toNat).map toR = (q.eraseIdx m).map (bumpR ready) := by
        rw [Int.toNat_natCast, erase_map, bump_R, List.eraseIdx_eq_take_drop_succ, List.eraseIdx_eq_take_drop_succ, List.map_append, List.map_take, List.map_drop]
      have e2 : (rd_T44 (q.map toS) (m : Int)).f0 = q[m].f0 := by rw [rd_map q m hml]; rfl
      dsimp only
      rw [e1, e2]
      refine Evals.congr (fun k => ?_) g
      rw [if_neg h, without_val q _ (by omega) (by omega) hq, Option.bind_some, Int.toNat_natCast]
      rfl
end Go.Proofs.Ytjbdlgjhnldfbaa.Q
