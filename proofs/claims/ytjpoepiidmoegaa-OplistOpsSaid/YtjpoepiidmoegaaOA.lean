/- What is open: plain. No condition. -/
import Derived.Test.YtjpoepiidmoegaaOS
namespace Go.Proofs.Ytjpoepiidmoegaa.Q
open Go.RowKit Go.Proofs.YtjpoepiidmoegaaW Go.Proofs.YtjpoepiidmoegaaW.PrintWords
set_option linter.unusedVariables false
set_option linter.unusedSimpArgs false

def opp (x : S33) : S33 := ⟨x.f0, x.f1, wrap64 (-x.f2), true⟩
theorem inI_wrap (n : Int) : inI (wrap64 n) = true := by unfold inI wrap64; simp; omega
theorem inE_opp {x : S33} (h : inE x = true) : inE (opp x) = true := by
  unfold inE opp at *
  simp only [Bool.and_eq_true] at h ⊢
  exact ⟨h.1, h.2.1, inI_wrap _⟩
/-- The places that are undone, by the stacks of those that may be; none: an entry undoes none. -/
def openGo : List S33 → Nat → (S33 → List Int) → List Int → Option (List Int)
  | [], _, _, gone => some gone
  | x :: l, k, st, gone =>
    if x.f3 = true then
      if (st x).length = 0 then none else openGo l (k + 1) (upd st x (st x).dropLast) (gone ++ [(st x).getLast?.getD 0])
    else openGo l (k + 1) (upd st (opp x) (st (opp x) ++ [(k : Int)])) gone
def outL (l : List S33) (gone : List Int) (n : Nat) : List Int := ((List.range n).filter (fun k : Nat => !((rd_T33 l (k : Int)).f3) && !decide ((k : Int) ∈ gone))).map (fun k : Nat => (k : Int))
theorem outL_snoc (l : List S33) (gone : List Int) (n : Nat) : outL l gone (n + 1) = outL l gone n ++ (if (!((rd_T33 l (n : Int)).f3) && !decide ((n : Int) ∈ gone)) = true then [(n : Int)] else []) := by
  unfold outL
  rw [List.range_succ, List.filter_append, List.map_append]
  congr 1
  by_cases h : (!((rd_T33 l (n : Int)).f3) && !decide ((n : Int) ∈ gone)) = true
  · rw [if_pos h]; simp only [List.filter_cons, h, if_true, List.filter_nil, List.map_cons, List.map_nil]
  · rw [if_neg h]; simp only [List.filter_cons, h, List.filter_nil, List.map_nil]; rfl
theorem outL_len (l : List S33) (gone : List Int) (n : Nat) : (outL l gone n).length ≤ n := by
  unfold outL; rw [List.length_map]
  exact Nat.le_trans (List.length_filter_le _ _) (by simp)
/-- The open places, and whether all may be. -/
def openL (l : List S33) : List Int × Bool := match openGo l 0 (fun _ => []) [] with
  | none => ([], false)
  | some gone => (outL l gone l.length, true)
structure Good (k : Nat) (st : S33 → List Int) (gone : List Int) : Prop where
  inn : ∀ x, ∀ i ∈ st x, 0 ≤ i ∧ i < k ∧ i ∉ gone
  nd : ∀ x, (st x).Nodup
  ap : ∀ x y, x ≠ y → ∀ i ∈ st x, i ∉ st y
  gn : ∀ i ∈ gone, 0 ≤ i ∧ i < k
  len : ∀ x, (st x).length ≤ k
theorem Good.start : Good 0 (fun _ => []) [] := ⟨by simp, by simp, by simp, by simp, by simp⟩
theorem Good.push {k : Nat} {st : S33 → List Int} {gone : List Int} (h : Good k st gone) (y : S33) : Good (k + 1) (upd st y (st y ++ [(k : Int)])) gone := by
  have hk : ∀ x, (k : Int) ∉ st x := fun x hx => by have := (h.inn x _ hx).2.1; omega
  refine ⟨fun x i hi => ?_, fun x => ?_, fun x z hxz i hi => ?_, fun i hi => by have := h.gn i hi; omega, fun x => ?_⟩
  · unfold upd at hi
    by_cases e : x = y
    · rw [if_pos e] at hi
      rcases List.mem_append.1 hi with hi | hi
      · have := h.inn y i hi; exact ⟨this.1, by omega, this.2.2⟩
      · rw [List.mem_singleton.1 hi]
        exact ⟨by omega, by omega, fun hg => by have := h.gn _ hg; omega⟩
    · rw [if_neg e] at hi; have := h.inn x i hi; exact ⟨this.1, by omega, this.2.2⟩
  · unfold upd
    by_cases e : x = y
    · rw [if_pos e]
      refine List.nodup_append.2 ⟨h.nd y, by simp, fun a ha b hb e2 => ?_⟩
      rw [List.mem_singleton.1 hb] at e2
      exact hk y (e2 ▸ ha)
    · rw [if_neg e]; exact h.nd x
  · unfold upd at hi ⊢
    by_cases e : x = y
    · rw [if_pos e] at hi
      rw [if_neg (fun e2 => hxz (e.trans e2.symm))]
      rcases List.mem_append.1 hi with hi | hi
      · exact h.ap y z (fun e2 => hxz (e.trans e2)) i hi
      · rw [List.mem_singleton.1 hi]; exact hk z
    · rw [if_neg e] at hi
      by_cases e2 : z = y
      · rw [if_pos e2]
        intro hz
        rcases List.mem_append.1 hz with hz | hz
        · exact h.ap x y e i hi hz
        · rw [List.mem_singleton.1 hz] at hi; exact hk x hi
      · rw [if_neg e2]; exact h.ap x z hxz i hi
  · unfold upd
    by_cases e : x = y
    · rw [if_pos e, List.length_append, List.length_singleton]; have := h.len y; omega
    · rw [if_neg e]; have := h.len x; omega
theorem last_split {l : List Int} (h : l ≠ []) : l = l.dropLast ++ [l.getLast?.getD 0] := by
  rw [List.getLast?_eq_some_getLast h, Option.getD_some]; exact (List.dropLast_concat_getLast h).symm
theorem Good.pop {k : Nat} {st : S33 → List Int} {gone : List Int} (h : Good k st gone) (y : S33) (hy : st y ≠ []) : Good (k + 1) (upd st y (st y).dropLast) (gone ++ [(st y).getLast?.getD 0]) ∧ (st y).getLast?.getD 0 ∉ gone := by
  obtain ⟨p, hp⟩ : ∃ p, (st y).getLast?.getD 0 = p := ⟨_, rfl⟩
  have hs := last_split hy
  rw [hp] at hs ⊢
  have hpm : p ∈ st y := by rw [hs]; simp
  have hsub : ∀ i ∈ (st y).dropLast, i ∈ st y := fun i hi => by rw [hs]; exact List.mem_append_left _ hi
  have hnd := h.nd y
  rw [hs] at hnd
  have hpd : p ∉ (st y).dropLast := fun hd => (List.nodup_append.1 hnd).2.2 p hd p (by simp) rfl
  have hpi := h.inn y p hpm
  refine ⟨⟨fun x i hi => ?_, fun x => ?_, fun x z hxz i hi => ?_, fun i hi => ?_, fun x => ?_⟩, hpi.2.2⟩
  · unfold upd at hi
    by_cases e : x = y
    · rw [if_pos e] at hi
      have := h.inn y i (hsub i hi)
      refine ⟨this.1, by omega, fun hg => ?_⟩
      rcases List.mem_append.1 hg with hg | hg
      · exact this.2.2 hg
      · rw [List.mem_singleton.1 hg] at hi; exact hpd hi
    · rw [if_neg e] at hi
      have := h.inn x i hi
      refine ⟨this.1, by omega, fun hg => ?_⟩
      rcases List.mem_append.1 hg with hg | hg
      · exact this.2.2 hg
      · rw [List.mem_singleton.1 hg] at hi; exact h.ap x y e p hi hpm
  · unfold upd
    by_cases e : x = y
    · rw [if_pos e]; exact (List.nodup_append.1 hnd).1
    · rw [if_neg e]; exact h.nd x
  · unfold upd at hi ⊢
    by_cases e : x = y
    · rw [if_pos e] at hi
      rw [if_neg (fun e2 => hxz (e.trans e2.symm))]
      exact h.ap y z (fun e2 => hxz (e.trans e2)) i (hsub i hi)
    · rw [if_neg e] at hi
      by_cases e2 : z = y
      · rw [if_pos e2]; exact fun hz => h.ap x y e i hi (hsub i hz)
      · rw [if_neg e2]; exact h.ap x z hxz i hi
  · rcases List.mem_append.1 hi with hi | hi
    · have := h.gn i hi; omega
    · rw [List.mem_singleton.1 hi]; omega
  · unfold upd
    by_cases e : x = y
    · rw [if_pos e, List.length_dropLast]; have := h.len y; omega
    · rw [if_neg e]; have := h.len x; omega
end Go.Proofs.Ytjpoepiidmoegaa.Q
