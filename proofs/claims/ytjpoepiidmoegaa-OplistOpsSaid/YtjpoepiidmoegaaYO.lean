/- The open entries of entries: plain. No condition. -/
import Derived.Test.YtjpoepiidmoegaaOC
import Derived.Test.YtjpoepiidmoegaaOA
namespace Go.Proofs.Ytjpoepiidmoegaa.Q
open Go.RowKit Go.Proofs.YtjpoepiidmoegaaW Go.Proofs.YtjpoepiidmoegaaW.PrintWords
set_option linter.unusedVariables false
set_option linter.unusedSimpArgs false

/-- Entries without the last one that u undoes. -/
def pop1 (u : S33) : List S33 → Option (List S33)
  | [] => none
  | e :: E => match pop1 u E with
    | some E' => some (e :: E')
    | none => if opp e = u then some E else none
/-- The open entries, in order; none: an entry undoes none. -/
def opE : List S33 → List S33 → Option (List S33)
  | [], E => some E
  | x :: l, E => if x.f3 = true then (pop1 x E).bind (opE l) else opE l (E ++ [x])

theorem pop1_none {u : S33} : ∀ {E : List S33}, (∀ e ∈ E, opp e ≠ u) → pop1 u E = none
  | [], _ => rfl
  | e :: E, h => by
    rw [pop1, pop1_none (fun e he => h e (List.mem_cons_of_mem _ he))]
    exact if_neg (h e (List.mem_cons_self ..))
theorem pop1_some {u e : S33} (B : List S33) (he : opp e = u) (hB : ∀ b ∈ B, opp b ≠ u) : ∀ (A : List S33), pop1 u (A ++ e :: B) = some (A ++ B)
  | [] => by
    show pop1 u (e :: B) = _
    rw [pop1, pop1_none hB]; exact if_pos he
  | a :: A => by
    show pop1 u (a :: (A ++ e :: B)) = _
    rw [pop1, pop1_some B he hB A]; rfl
theorem split_last {α : Type} (f : α → Bool) : ∀ (P : List α), P.filter f ≠ [] → ∃ A p B, P = A ++ p :: B ∧ f p = true ∧ ∀ b ∈ B, f b = false
  | [], h => absurd rfl h
  | a :: P, h => by
    by_cases hP : P.filter f = []
    · have ha : f a = true := by
        cases hfa : f a with
        | true => rfl
        | false => exact absurd (by rw [List.filter_cons, hfa]; simpa using hP) h
      exact ⟨[], a, P, rfl, ha, fun b hb => by
        cases hfb : f b with
        | false => rfl
        | true => have : b ∈ P.filter f := List.mem_filter.2 ⟨hb, hfb⟩; rw [hP] at this; cases this⟩
    · obtain ⟨A, p, B, rfl, h1, h2⟩ := split_last f P hP
      exact ⟨a :: A, p, B, rfl, h1, h2⟩
theorem filter_none {α : Type} {f : α → Bool} {B : List α} (h : ∀ b ∈ B, f b = false) : B.filter f = [] := by
  rw [List.filter_eq_nil_iff]; intro b hb; rw [h b hb]; decide
theorem outL_gone (L : List S33) (gone : List Int) (p : Int) (n : Nat) : outL L (gone ++ [p]) n = (outL L gone n).filter (fun q => !decide (q = p)) := by
  unfold outL
  rw [List.filter_map, List.filter_filter]
  congr 1
  apply List.filter_congr
  intro a _
  simp only [Function.comp, List.mem_append, List.mem_singleton]
  cases h1 : (rd_T33 L (a : Int)).f3 <;> by_cases h2 : (a : Int) ∈ gone <;> by_cases h3 : (a : Int) = p <;> simp [h1, h2, h3]
theorem outL_nodup (L : List S33) (gone : List Int) (n : Nat) : (outL L gone n).Nodup := by
  unfold outL
  exact List.pairwise_map.2 ((List.nodup_range.filter _).imp (fun h e => h (by exact Int.ofNat.inj e)))
theorem outL_in {L : List S33} {gone : List Int} {n : Nat} {p : Int} (h : p ∈ outL L gone n) : 0 ≤ p ∧ p < n := by
  unfold outL at h
  obtain ⟨a, ha, rfl⟩ := List.mem_map.1 h
  have := List.mem_range.1 (List.mem_filter.1 ha).1
  omega
theorem filter_ne {A B : List Int} {p : Int} (h : (A ++ p :: B).Nodup) : (A ++ p :: B).filter (fun q => !decide (q = p)) = A ++ B := by
  have hA : p ∉ A := fun hp => (List.nodup_append.1 h).2.2 p hp p (by simp) rfl
  have hB : p ∉ B := (List.nodup_cons.1 (List.nodup_append.1 h).2.1).1
  rw [List.filter_append, List.filter_cons]
  have e1 : A.filter (fun q => !decide (q = p)) = A := List.filter_eq_self.2 (fun a ha => by
    have : a ≠ p := fun e => hA (e ▸ ha)
    simp [this])
  have e2 : B.filter (fun q => !decide (q = p)) = B := List.filter_eq_self.2 (fun a ha => by
    have : a ≠ p := fun e => hB (e ▸ ha)
    simp [this])
  rw [e1, e2]; simp
def RelO (L : List S33) : Option (List Int) → Option (List S33) → Prop
  | some g, some E => (outL L g L.length).map (rd_T33 L) = E
  | none, none => True
  | _, _ => False
theorem open_rel (L : List S33) : ∀ (l : List S33) (k : Nat) (st : S33 → List Int) (gone : List Int), L.drop k = l → k ≤ L.length → Good k st gone →
    (∀ y, st y = (outL L gone k).filter (fun p => decide (opp (rd_T33 L p) = y))) → RelO L (openGo l k st gone) (opE l ((outL L gone k).map (rd_T33 L)))
  | [], k, st, gone, hd, hk, hg, hs => by
    have : k = L.length := by have := congrArg List.length hd; simp at this; omega
    subst this
    rfl
  | x :: l, k, st, gone, hd, hk, hg, hs => by
    have hlt : k < L.length := by have := congrArg List.length hd; simp at this; omega
    have hx : rd_T33 L (k : Int) = x := by
      rw [List.drop_eq_getElem_cons hlt] at hd
      rw [rd_at L k hlt]; exact (List.cons.inj hd).1
    have hd' : L.drop (k + 1) = l := by
      rw [List.drop_eq_getElem_cons hlt] at hd; exact (List.cons.inj hd).2
    have hsn := outL_snoc L gone k
    rw [hx] at hsn
    cases h3 : x.f3 with
    | false =>
      rw [openGo, opE, if_neg (by rw [h3]; decide), if_neg (by rw [h3]; decide)]
      have hkg : (k : Int) ∉ gone := fun h => by have := hg.gn _ h; omega
      have hsn' : outL L gone (k + 1) = outL L gone k ++ [(k : Int)] := by rw [hsn, h3]; simp [hkg]
      have := open_rel L l (k + 1) _ gone hd' hlt (hg.push (opp x)) (fun y => by
        rw [hsn', List.filter_append]
        unfold upd
        by_cases e : y = opp x
        · rw [if_pos e, hs (opp x), e, List.filter_cons, hx]; simp
        · rw [if_neg e, hs y, List.filter_cons, hx]; simp [Ne.symm e])
      rw [hsn', List.map_append, List.map_cons, List.map_nil, hx] at this
      exact this
    | true =>
      have hsn0 : ∀ gone', outL L gone' (k + 1) = outL L gone' k := fun gone' => by
        have := outL_snoc L gone' k
        rw [hx, h3] at this
        rw [this]; simp
      rw [openGo, opE, if_pos h3, if_pos h3]
      by_cases h0 : (st x).length = 0
      · rw [if_pos h0]
        have hz : st x = [] := List.eq_nil_of_length_eq_zero h0
        rw [hs x] at hz
        rw [pop1_none (fun e he => by
          obtain ⟨p, hp, rfl⟩ := List.mem_map.1 he
          intro ho
          have : p ∈ (outL L gone k).filter (fun p => decide (opp (rd_T33 L p) = x)) := List.mem_filter.2 ⟨hp, by simp [ho]⟩
          rw [hz] at this; cases this)]
        trivial
      · rw [if_neg h0]
        have hne : st x ≠ [] := fun e => h0 (by rw [e]; rfl)
        have hne' := hne
        rw [hs x] at hne'
        obtain ⟨A, p, B, hP, hp, hB⟩ := split_last _ _ hne'
        have hfx : st x = A.filter (fun p => decide (opp (rd_T33 L p) = x)) ++ [p] := by
          rw [hs x, hP, List.filter_append, List.filter_cons, if_pos hp, filter_none hB]
        have hop : opp (rd_T33 L p) = x := of_decide_eq_true hp
        have hlast : (st x).getLast?.getD 0 = p := by rw [hfx]; simp
        have hdrop : (st x).dropLast = A.filter (fun p => decide (opp (rd_T33 L p) = x)) := by rw [hfx]; simp
        have hnd := outL_nodup L gone k
        rw [hP] at hnd
        have hout : outL L (gone ++ [p]) (k + 1) = A ++ B := by rw [hsn0, outL_gone, hP, filter_ne hnd]
        have hpop : pop1 x ((outL L gone k).map (rd_T33 L)) = some ((A ++ B).map (rd_T33 L)) := by
          rw [hP, List.map_append, List.map_cons, List.map_append]
          exact pop1_some _ hop (fun b hb => by
            obtain ⟨q, hq, rfl⟩ := List.mem_map.1 hb
            exact of_decide_eq_false (hB q hq)) _
        have hg' := (hg.pop x hne).1
        rw [hlast] at hg'
        rw [hpop, hlast, hdrop]
        rw [hdrop] at hg'
        have := open_rel L l (k + 1) _ (gone ++ [p]) hd' hlt hg' (fun y => by
          rw [hout, List.filter_append]
          unfold upd
          by_cases e : y = x
          · rw [if_pos e, e, filter_none hB, List.append_nil]
          · rw [if_neg e, hs y, hP, List.filter_append, List.filter_cons, if_neg (by simp [hop]; exact Ne.symm e)])
        rw [hout] at this
        exact this

/-- The open entries. -/
def opn (L : List S33) : List S33 := (opE L []).getD []
theorem openL_spec (L : List S33) : (openL L).1.map (rd_T33 L) = opn L ∧ (openL L).2 = (opE L []).isSome ∧ ∀ p ∈ (openL L).1, 0 ≤ p ∧ p < L.length := by
  have h := open_rel L L 0 (fun _ => []) [] rfl (Nat.zero_le _) Good.start (fun y => rfl)
  have e0 : (outL L [] 0).map (rd_T33 L) = [] := rfl
  rw [e0] at h
  unfold openL opn
  cases h1 : openGo L 0 (fun _ => []) [] with
  | none =>
    rw [h1] at h
    cases h2 : opE L [] with
    | none => exact ⟨rfl, rfl, fun p hp => by cases hp⟩
    | some E => rw [h2] at h; exact h.elim
  | some g =>
    rw [h1] at h
    cases h2 : opE L [] with
    | none => rw [h2] at h; exact h.elim
    | some E => rw [h2] at h; exact ⟨h, rfl, fun p hp => outL_in hp⟩
theorem openL_len (L : List S33) : (openL L).1.length = (opn L).length := by rw [← (openL_spec L).1, List.length_map]
/-- May entries be? -/
def saneL (L : List S33) : Bool := L.all soundB && ((opE L []).isSome && decide (L.length + (opn L).length ≤ 256))

theorem opE_append : ∀ (l m E : List S33), opE (l ++ m) E = (opE l E).bind (opE m)
  | [], m, E => rfl
  | x :: l, m, E => by
    show opE (x :: (l ++ m)) E = _
    rw [opE, opE]
    by_cases h : x.f3 = true
    · rw [if_pos h, if_pos h]
      cases pop1 x E with
      | none => rfl
      | some E' => exact opE_append l m E'
    · rw [if_neg h, if_neg h]; exact opE_append l m _
/-- Undoing the last ones of those of which something is so, one by one. -/
theorem opE_undo (q : S33 → Bool) (hq : ∀ a b, q a = true → opp b = opp a → q b = true) (ho : ∀ x : S33, (opp x).f3 = true) : ∀ (n : Nat) (E : List S33), E.length ≤ n → opE ((E.filter q).reverse.map opp) E = some (E.filter (fun e => !q e))
  | 0, E, h => by
    have : E = [] := List.eq_nil_of_length_eq_zero (by omega)
    subst this; rfl
  | n + 1, E, h => by
    by_cases h0 : E.filter q = []
    · rw [h0]
      show some E = _
      rw [List.filter_eq_self.2]
      intro a ha
      cases hqa : q a with
      | false => rfl
      | true => have : a ∈ E.filter q := List.mem_filter.2 ⟨ha, hqa⟩; rw [h0] at this; cases this
    · obtain ⟨A, p, B, rfl, hp, hB⟩ := split_last q E h0
      have e1 : (A ++ p :: B).filter q = A.filter q ++ [p] := by rw [List.filter_append, List.filter_cons, if_pos hp, filter_none hB]
      have e2 : (A ++ B).filter q = A.filter q := by rw [List.filter_append, filter_none hB, List.append_nil]
      rw [e1, List.reverse_append, List.map_append]
      show opE (opp p :: (A.filter q).reverse.map opp) _ = _
      rw [opE, if_pos (ho p), pop1_some B rfl (fun b hb e => by have := hq p b hp e; rw [hB b hb] at this; cases this) A]
      show opE ((A.filter q).reverse.map opp) (A ++ B) = _
      rw [← e2, opE_undo q hq ho n (A ++ B) (by simp at h ⊢; omega)]
      rw [List.filter_append, List.filter_append, List.filter_cons, if_neg (by simp [hp])]
/-- Entries with those that undo the open ones of which something is so. -/
def undL (L : List S33) (q : S33 → Bool) : List S33 := L ++ ((opn L).filter q).reverse.map opp
theorem opn_of {L E : List S33} (h : opE L [] = some E) : opn L = E := by unfold opn; rw [h]; rfl
theorem opE_undL {L E : List S33} (h : opE L [] = some E) (q : S33 → Bool) (hq : ∀ a b, q a = true → opp b = opp a → q b = true) : opE (undL L q) [] = some (E.filter (fun e => !q e)) := by
  unfold undL
  rw [opE_append, h, opn_of h]
  exact opE_undo q hq (fun _ => rfl) _ E (Nat.le_refl _)
theorem q_tx (txs : List Int) : ∀ a b : S33, decide (a.f0 ∈ txs) = true → opp b = opp a → decide (b.f0 ∈ txs) = true := fun a b h e => by
  have : (opp b).f0 = (opp a).f0 := congrArg S33.f0 e
  have : b.f0 = a.f0 := this
  rw [this]; exact h
theorem sound_opp {x : S33} (h : soundB x = true) (hi : inE x = true) : soundB (opp x) = true := by
  unfold inE inI at hi
  unfold soundB opp at *
  simp only [Bool.and_eq_true, decide_eq_true_eq, bne_iff_ne] at h hi ⊢
  refine ⟨h.1, h.2.1, h.2.2.1, h.2.2.2.1, ?_⟩
  have := h.2.2.2.2
  unfold wrap64; omega
end Go.Proofs.Ytjpoepiidmoegaa.Q
