/- Two notes as one, in plain words. No condition. -/
import Derived.Test.YthcikbbglpdjhaaPU
namespace Go.Proofs.Ythcikbbglpdjhaa.Q
open Go.RowKit Go.Proofs.YthcikbbglpdjhaaW Go.Proofs.YthcikbbglpdjhaaW.PrintWords Go.Proofs.YthcikbbglpdjhaaW.PrintLast Go.Proofs.YthcikbbglpdjhaaW.PrintMore
set_option linter.unusedVariables false
set_option linter.unusedSimpArgs false
def SrtS (l : List S44) : Prop := l.Pairwise (fun a b => a.f0 < b.f0)
def posS (l : List S44) (t : Int) : Nat := (l.takeWhile (fun x => decide (x.f0 < t))).length
def hasS (l : List S44) (t : Int) : Bool := l.any (fun x => decide (x.f0 = t))
def insS (l : List S44) (x : S44) : List S44 := if hasS l x.f0 = true then l else l.take (posS l x.f0) ++ x :: l.drop (posS l x.f0)
/-- What b says of each block, or else a. -/
def mergeI (a b : List S44) : List S44 := a.foldl insS b
def look : List S44 → Int → Option (List Int)
  | [], _ => none
  | x :: r, k => if x.f0 = k then some x.f1 else look r k
theorem look_none {l : List S44} {k : Int} (h : ∀ x ∈ l, x.f0 ≠ k) : look l k = none := by
  induction l with
  | nil => rfl
  | cons x r ih =>
    rw [look, if_neg (h x List.mem_cons_self)]
    exact ih (fun y hy => h y (List.mem_cons_of_mem _ hy))
theorem look_none_iff {l : List S44} {k : Int} : look l k = none ↔ ∀ x ∈ l, x.f0 ≠ k := by
  refine ⟨fun h => ?_, look_none⟩
  induction l with
  | nil => intro x hx; cases hx
  | cons y r ih =>
    rw [look] at h
    by_cases hy : y.f0 = k
    · rw [if_pos hy] at h; cases h
    · rw [if_neg hy] at h
      intro x hx
      rcases List.mem_cons.1 hx with rfl | hx
      · exact hy
      · exact ih h x hx
theorem has_look (l : List S44) (k : Int) : hasS l k = (look l k).isSome := by
  induction l with
  | nil => rfl
  | cons x r ih =>
    unfold hasS at ih ⊢
    rw [List.any_cons, look]
    by_cases h : x.f0 = k
    · rw [if_pos h, decide_eq_true h]; rfl
    · rw [if_neg h, decide_eq_false h, Bool.false_or]; exact ih
theorem look_append (l m : List S44) (k : Int) : look (l ++ m) k = (look l k).or (look m k) := by
  induction l with
  | nil => rfl
  | cons x r ih =>
    rw [List.cons_append, look, look]
    by_cases h : x.f0 = k
    · rw [if_pos h, if_pos h]; rfl
    · rw [if_neg h, if_neg h, ih]
theorem look_ins (l : List S44) (x : S44) (k : Int) : look (insS l x) k = (look l k).or (look [x] k) := by
  unfold insS
  by_cases h : hasS l x.f0 = true
  · rw [if_pos h]
    rw [has_look] at h
    by_cases hk : x.f0 = k
    · subst hk
      cases hl : look l x.f0 with
      | none => rw [hl] at h; cases h
      | some v => rfl
    · rw [show look [x] k = none by rw [look, if_neg hk]; rfl, Option.or_none]
  · rw [if_neg h]
    have hn : look l x.f0 = none := by
      rw [has_look] at h
      cases hl : look l x.f0 with
      | none => rfl
      | some v => rw [hl] at h; exact absurd rfl h
    have e := List.take_append_drop (posS l x.f0) l
    rw [look_append, look]
    by_cases hk : x.f0 = k
    · subst hk
      rw [if_pos rfl, hn]
      have h1 : look (l.take (posS l x.f0)) x.f0 = none := look_none (fun y hy => look_none_iff.1 hn y (List.mem_of_mem_take hy))
      rw [h1, look, if_pos rfl]
    · rw [if_neg hk, show look [x] k = none by rw [look, if_neg hk]; rfl, Option.or_none]
      rw [← look_append, e]
theorem pos_lt {l : List S44} (t : Int) : ∀ x ∈ l.take (posS l t), x.f0 < t := by
  intro x hx
  have : l.take (posS l t) = l.takeWhile (fun x => decide (x.f0 < t)) := by
    unfold posS
    exact (List.prefix_iff_eq_take.1 (List.takeWhile_prefix _)).symm
  rw [this] at hx
  have := List.all_eq_true.1 (List.all_takeWhile (p := fun x : S44 => decide (x.f0 < t)) (l := l)) x hx
  simpa using this
theorem pos_ge {l : List S44} (hs : SrtS l) (t : Int) : ∀ x ∈ l.drop (posS l t), t ≤ x.f0 := by
  induction l with
  | nil => intro x hx; simp at hx
  | cons y r ih =>
    unfold SrtS at hs
    rw [List.pairwise_cons] at hs
    intro x hx
    by_cases hy : y.f0 < t
    · have hp : posS (y :: r) t = posS r t + 1 := by
        unfold posS
        rw [List.takeWhile_cons, if_pos (decide_eq_true hy), List.length_cons]
      rw [hp, List.drop_succ_cons] at hx
      exact ih hs.2 x hx
    · have hp : posS (y :: r) t = 0 := by
        unfold posS
        rw [List.takeWhile_cons, if_neg (by simpa using hy)]; rfl
      rw [hp, List.drop_zero] at hx
      rcases List.mem_cons.1 hx with rfl | hx
      · omega
      · have := hs.1 x hx; omega
theorem srt_ins {l : List S44} (hs : SrtS l) (x : S44) : SrtS (insS l x) := by
  unfold insS
  by_cases h : hasS l x.f0 = true
  · rw [if_pos h]; exact hs
  · rw [if_neg h]
    have hn : ∀ y ∈ l, y.f0 ≠ x.f0 := fun y hy e => h (by unfold hasS; rw [List.any_eq_true]; exact ⟨y, hy, decide_eq_true e⟩)
    unfold SrtS at hs ⊢
    rw [List.pairwise_append, List.pairwise_cons]
    refine ⟨hs.sublist (List.take_sublist _ _), ⟨fun y hy => ?_, hs.sublist (List.drop_sublist _ _)⟩, fun y hy z hz => ?_⟩
    · have h1 := pos_ge hs x.f0 y hy
      have h2 := hn y (List.mem_of_mem_drop hy)
      omega
    · have h1 := pos_lt x.f0 y hy
      rcases List.mem_cons.1 hz with rfl | hz
      · exact h1
      · have := pos_ge hs x.f0 z hz; omega
theorem srt_merge : ∀ (a b : List S44), SrtS b → SrtS (mergeI a b)
  | [], b, h => h
  | x :: a, b, h => srt_merge a (insS b x) (srt_ins h x)
theorem look_merge : ∀ (a b : List S44) (k : Int), look (mergeI a b) k = (look b k).or (look a k)
  | [], b, k => by show look b k = _; rw [show look ([] : List S44) k = none from rfl, Option.or_none]
  | x :: a, b, k => by
    have ih := look_merge a (insS b x) k
    show look (mergeI a (insS b x)) k = _
    rw [ih, look_ins, Option.or_assoc, ← look_append]
    rfl
/-- In order, a list is what it says. -/
theorem srt_ext : ∀ (l m : List S44), SrtS l → SrtS m → (∀ k, look l k = look m k) → l = m
  | [], [], _, _, _ => rfl
  | [], y :: m, _, _, h => by have := h y.f0; rw [look, look, if_pos rfl] at this; cases this
  | x :: l, [], _, _, h => by have := h x.f0; rw [look, look, if_pos rfl] at this; cases this
  | x :: l, y :: m, hl, hm, h => by
    unfold SrtS at hl hm
    rw [List.pairwise_cons] at hl hm
    have hxy : x.f0 = y.f0 := by
      rcases Int.lt_trichotomy x.f0 y.f0 with h1 | h1 | h1
      · have := h x.f0
        rw [look, if_pos rfl, look, if_neg (by omega), look_none (fun z hz => by have := hm.1 z hz; omega)] at this
        cases this
      · exact h1
      · have := h y.f0
        rw [look, if_neg (by omega), look_none (fun z hz => by have := hl.1 z hz; omega), look, if_pos rfl] at this
        cases this
    have hd : x.f1 = y.f1 := by
      have := h x.f0
      rw [look, if_pos rfl, look, if_pos hxy.symm] at this
      injection this
    have hx : x = y := by cases x; cases y; simp only at hxy hd; subst hxy; subst hd; rfl
    subst hx
    have ht : ∀ k, look l k = look m k := fun k => by
      by_cases hk : x.f0 = k
      · subst hk
        rw [look_none (fun z hz => by have := hl.1 z hz; omega), look_none (fun z hz => by have := hm.1 z hz; omega)]
      · have := h k
        rwa [look, if_neg hk, look, if_neg hk] at this
    rw [srt_ext l m hl.2 hm.2 ht]
theorem mem_ins {l : List S44} {x y : S44} (h : y ∈ insS l x) : y ∈ l ∨ y = x := by
  unfold insS at h
  split at h
  · exact .inl h
  · rw [List.mem_append, List.mem_cons] at h
    rcases h with h | h | h
    · exact .inl (List.mem_of_mem_take h)
    · exact .inr h
    · exact .inl (List.mem_of_mem_drop h)
theorem mem_merge : ∀ (a b : List S44) (y : S44), y ∈ mergeI a b → y ∈ a ∨ y ∈ b
  | [], b, y, h => .inr h
  | x :: a, b, y, h => by
    rcases mem_merge a (insS b x) y h with h | h
    · exact .inl (List.mem_cons_of_mem _ h)
    · rcases mem_ins h with h | rfl
      · exact .inr h
      · exact .inl List.mem_cons_self
theorem ins_length (l : List S44) (x : S44) : l.length ≤ (insS l x).length ∧ (insS l x).length ≤ l.length + 1 := by
  unfold insS
  split
  · omega
  · rw [List.length_append, List.length_cons, List.length_take, List.length_drop]
    omega
theorem merge_length : ∀ (a b : List S44), b.length ≤ (mergeI a b).length ∧ (mergeI a b).length ≤ a.length + b.length
  | [], b => ⟨Nat.le_refl _, by show b.length ≤ 0 + b.length; omega⟩
  | x :: a, b => by
    have h1 := merge_length a (insS b x)
    have h2 := ins_length b x
    show b.length ≤ (mergeI a (insS b x)).length ∧ (mergeI a (insS b x)).length ≤ (a.length + 1) + b.length
    omega
theorem good_srt : ∀ (l : List S44) (last : Int), goodI last l = true ↔ (SrtS l ∧ ∀ x ∈ l, last < x.f0 ∧ x.f0 < 256 ∧ x.f1.length = 32)
  | [], last => by simp [goodI, SrtS]
  | x :: r, last => by
    have ih := good_srt r x.f0
    unfold goodI
    simp only [Bool.and_eq_true, decide_eq_true_eq]
    unfold SrtS at ih ⊢
    rw [List.pairwise_cons, ih]
    constructor
    · rintro ⟨⟨⟨h1, h2⟩, h3⟩, h4, h5⟩
      refine ⟨⟨fun y hy => (h5 y hy).1, h4⟩, fun y hy => ?_⟩
      rcases List.mem_cons.1 hy with rfl | hy
      · exact ⟨h1, h2, h3⟩
      · have := h5 y hy; exact ⟨by omega, this.2⟩
    · rintro ⟨⟨h1, h2⟩, h3⟩
      have hx := h3 x List.mem_cons_self
      exact ⟨⟨⟨hx.1, hx.2.1⟩, hx.2.2⟩, h2, fun y hy => ⟨h1 y hy, (h3 y (List.mem_cons_of_mem _ hy)).2⟩⟩
/-- What Merge answers. -/
def mergeR (ak as_ : Int) (ai : List S44) (ao : List S46) (bk bs : Int) (bi : List S44) (bo : List S46) : Int × Int × List S44 × List S46 × Int :=
  if saneN ak as_ ai ao = true ∧ saneN bk bs bi bo = true ∧ ak = 1 ∧ bk = 1 then (if saneN 1 bs (mergeI ai bi) (ao ++ bo) = true then (1, bs, mergeI ai bi, ao ++ bo, 0) else (0, 0, [], [], 13)) else (0, 0, [], [], 1)
end Go.Proofs.Ythcikbbglpdjhaa.Q
