/- EscrowUndo: three pends under three transactions, handed up, freed, or made to count, answer true. No condition. -/
import Derived.Test.YtdnkbmjlcdddcaaY1
import Derived.Test.YtdnkbmjlcdddcaaQ9
import Derived.Test.YtdnkbmjlcdddcaaFEscrowUndo
namespace Go.Proofs.Ytdnkbmjlcdddcaa.Q
open Go.RowKit Go.Proofs.YtdnkbmjlcdddcaaW Go.Proofs.YtdnkbmjlcdddcaaW.PrintWords
set_option linter.unusedVariables false
set_option linter.unusedSimpArgs false
/-- The one counter. -/
def C13 : List S28 := [⟨-1000, 1000, 0⟩]
def X13 : List S74 := [⟨-1, 1, 1, 0⟩, ⟨0, 1, 2, 0⟩, ⟨-1, 1, 3, 0⟩]
theorem inC13 : inC C13 := by intro c hc; rw [List.mem_singleton.1 hc]; decide
def P3 (a b c : Int) : List S83 := (ent 0 a ++ ent 1 b) ++ ent 2 c
theorem ent_f1 {i b : Int} {p : S83} (h : p ∈ ent i b) : p.f1 = i := by
  unfold ent at h
  split at h
  · cases h
  · rw [List.mem_singleton.1 h]
theorem ent_len (i b : Int) : (ent i b).length ≤ 1 := by unfold ent; split <;> simp
def bal (P : List S83) (n : Nat) (m : Int) : Prop := Ok P ∧ P.length ≤ n ∧ (-m ≤ loS P) ∧ (hiS P ≤ m)
theorem bal_step {P : List S83} {n : Nat} {m i b : Int} (h : bal P n m) (h0 : 0 ≤ i) (h1 : i < 64) (hlt : ∀ p ∈ P, p.f1 < i) (hb : -63 ≤ b ∧ b ≤ 63) : bal (P ++ ent i b) (n + 1) (m + 63) := by
  obtain ⟨a1, a2, a3, a4⟩ := h
  obtain ⟨e1, e2⟩ := ent_sums i b
  have := ent_len i b
  exact ⟨ent_ok a1 h0 h1 hlt, by rw [List.length_append]; omega, by rw [loS_append, e1]; omega, by rw [hiS_append, e2]; omega⟩
theorem bal_add {P : List S83} {n : Nat} {m i b : Int} (h : bal P n m) (hn : n ≤ 10) (hm : m ≤ 200) (h0 : 0 ≤ i) (h1 : i < 3) (hlt : ∀ p ∈ P, p.f1 < i) (hb : -63 ≤ b ∧ b ≤ 63) (ck : Int) (hX : (rd_T74 X13 i).f1 = 1) :
    Evals (fun k => escrow_Add.f k C13 P X13 ck i 0 b) (C13, P ++ ent i b, 0) := by
  obtain ⟨a1, a2, a3, a4⟩ := h
  have hh := add_one (A := -1000) (B := 1000) (v := 0) a1 (by omega) (by decide) (by decide) (by omega) (by omega) (X := X13) h0 (show i < 3 from h1) (by omega) hX (show -1000 ≤ b ∧ b ≤ 1000 by omega) hlt
  rw [if_pos (by omega)] at hh
  have := add_ev inC13 (ok_inP a1 (by omega) (by omega)) (show P.length < 1000000 by omega) (show C13.length < 1000000 by decide) X13 ck i 0 b (inR_small (by omega) (by omega))
  rw [show addT C13 P X13 i 0 b = _ from hh] at this
  exact this
theorem bal_nil : bal [] 0 0 := ⟨ok_nil, Nat.le_refl _, Int.le_refl _, Int.le_refl _⟩
theorem undo_end (a b c : Int) (ha : 0 ≤ a ∧ a ≤ 63) (hb : -63 ≤ b ∧ b ≤ 0) (hc : 0 ≤ c ∧ c ≤ 63) :
    ∃ P1, escrow_Pass.f C13 (P3 a b c) 1 0 = some (C13, P1) ∧ escrow_Free.f C13 P1 [0] = some (C13, ent 2 c) ∧ escrow_Of.f C13 P1 1 = some [] ∧ escrow_Pass.f C13 (ent 2 c) 2 (-1) = some ([⟨-1000, 1000, c⟩], []) ∧ ((ent 2 c).length : Int) = mn c 1 := by
  have hs : Srt (P3 a b c) := by
    have b1 := bal_step bal_nil (Int.le_refl 0) (by decide) (fun p hp => by cases hp) (b := a) (by omega)
    have b2 := bal_step b1 (i := 1) (by decide) (by decide) (fun p hp => by rw [ent_f1 (by simpa using hp)]; decide) (b := b) (by omega)
    have b3 := bal_step b2 (i := 2) (by decide) (by decide) (fun p hp => by
      rcases List.mem_append.1 hp with hp | hp
      · rw [ent_f1 (by simpa using hp)]; decide
      · rw [ent_f1 hp]; decide) (b := c) (by omega)
    simpa [P3] using b3.1.srt
  have hl : (P3 a b c).length < 1000000000000 := by
    have := ent_len 0 a; have := ent_len 1 b; have := ent_len 2 c
    unfold P3; rw [List.length_append, List.length_append]; omega
  have hs2 : Srt (ent 2 c) := by unfold ent; split; exact List.Pairwise.nil; exact List.pairwise_singleton ..
  have hc1 : C13.length < 1000000000000 := by decide
  have hc2 : C13.length < 4398046511104 := by decide
  have hl2 := ent_len 2 c
  have f1 : (P3 a b c).filter (fun x => x.f1 == 1) = ent 1 b := by unfold P3 ent; (repeat' split) <;> simp
  have f2 : (P3 a b c).filter (fun x => !decide (x.f1 ∈ [(1 : Int)])) = ent 0 a ++ ent 2 c := by unfold P3 ent; (repeat' split) <;> simp
  have f3 : (ent 2 c).filter (fun x => x.f1 == 2) = ent 2 c := by unfold ent; split <;> simp
  have f4 : (ent 2 c).filter (fun x => !decide (x.f1 ∈ [(2 : Int)])) = [] := by unfold ent; split <;> simp
  have key : ∃ P1, (ent 1 b).foldl (passStep 0) (C13, ent 0 a ++ ent 2 c) = (C13, P1) ∧ P1.length ≤ 3 ∧ P1.filter (fun x => !decide (x.f1 ∈ [(0 : Int)])) = ent 2 c ∧ P1.filter (fun x => x.f1 == 1) = [] := by
    by_cases hb0 : b = 0
    · subst hb0
      refine ⟨ent 0 a ++ ent 2 c, rfl, ?_, ?_, ?_⟩
      · have := ent_len 0 a; rw [List.length_append]; omega
      · unfold ent; (repeat' split) <;> simp
      · unfold ent; (repeat' split) <;> simp
    · have e1 : ent 1 b = [⟨0, 1, max b 0, min b 0⟩] := by unfold ent; rw [if_neg hb0]
      have e2 : (ent 1 b).foldl (passStep 0) (C13, ent 0 a ++ ent 2 c) = (C13, takeP (ent 0 a ++ ent 2 c) ⟨0, 0, max b 0, min b 0⟩) := by rw [e1]; rfl
      have hne : ¬ max b 0 = min b 0 := by omega
      have hk : ∃ u v : Int, takeP (ent 0 a ++ ent 2 c) ⟨0, 0, max b 0, min b 0⟩ = ⟨0, 0, u, v⟩ :: ent 2 c := by
        unfold takeP ent
        rw [if_neg hne]
        by_cases h1 : a = 0 <;> by_cases h2 : c = 0
        · rw [if_pos h1, if_pos h2]; exact ⟨_, _, rfl⟩
        · rw [if_pos h1, if_neg h2]; exact ⟨_, _, rfl⟩
        · rw [if_neg h1, if_pos h2]; exact ⟨_, _, rfl⟩
        · rw [if_neg h1, if_neg h2]; exact ⟨_, _, rfl⟩
      obtain ⟨u, v, hk⟩ := hk
      rw [e2, hk]
      refine ⟨_, rfl, ?_, ?_, ?_⟩
      · rw [List.length_cons]; omega
      · unfold ent; split <;> simp
      · unfold ent; split <;> simp
  obtain ⟨P1, k1, k2, k3, k4⟩ := key
  refine ⟨P1, ?_, ?_, ?_, ?_, ?_⟩
  · unfold escrow_Pass.f; rw [if_pos ⟨hc1, hl, hs⟩, f1, f2, k1]
  · unfold escrow_Free.f; rw [if_pos ⟨hc2, by omega⟩, k3]
  · unfold escrow_Of.f; rw [if_pos (by omega), k4]
  · unfold escrow_Pass.f; rw [if_pos ⟨hc1, by omega, hs2⟩, f3, f4]
    by_cases hc0 : c = 0
    · subst hc0; rfl
    · have e1 : ent 2 c = [⟨0, 2, max c 0, min c 0⟩] := by unfold ent; rw [if_neg hc0]
      rw [e1]
      show some (fixC C13 0 (max c 0) (min c 0), []) = _
      have e3 : fixC C13 0 (max c 0) (min c 0) = [⟨-1000, 1000, wrap64 (0 + wrap64 (max c 0 + min c 0))⟩] := rfl
      rw [e3, show wrap64 (0 + wrap64 (max c 0 + min c 0)) = c by unfold wrap64; omega]
  · unfold ent mn
    by_cases hc0 : c = 0
    · subst hc0; rfl
    · rw [if_neg hc0]; split
      · rfl
      · simp; omega
theorem undo_ev (a0 a1 a2 : Int) : Evals (fun k => heronrylaw13_EscrowUndo.f k a0 a1 a2) true := by
  have hw : wrap64 (-(a1 % 64)) = -(a1 % 64) := by unfold wrap64; omega
  have ha : 0 ≤ a0 % 64 ∧ a0 % 64 ≤ 63 := by omega
  have hb : -63 ≤ -(a1 % 64) ∧ -(a1 % 64) ≤ 0 := by omega
  have hc : 0 ≤ a2 % 64 ∧ a2 % 64 ≤ 63 := by omega
  unfold heronrylaw13_EscrowUndo.f
  simp only [and_63, hw]
  generalize a0 % 64 = a at ha
  generalize hbb : -(a1 % 64) = b at hb
  generalize hcc : a2 % 64 = c at hc
  have b1 := bal_step bal_nil (Int.le_refl 0) (by decide) (fun p hp => by cases hp) (b := a) (by omega)
  have lt1 : ∀ p ∈ [] ++ ent 0 a, p.f1 < 1 := fun p hp => by rw [ent_f1 (by simpa using hp)]; decide
  have b2 := bal_step b1 (i := 1) (by decide) (by decide) lt1 (b := b) (by omega)
  have lt2 : ∀ p ∈ ([] ++ ent 0 a) ++ ent 1 b, p.f1 < 2 := fun p hp => by
    rcases List.mem_append.1 hp with hp | hp
    · rw [ent_f1 (by simpa using hp)]; decide
    · rw [ent_f1 hp]; decide
  obtain ⟨P1, p1, p2, p3, p4, p5⟩ := undo_end a b c ha hb hc
  refine Evals.bind awake_ev ?_
  refine Evals.bind begin1 ?_
  refine Evals.bind begin2 ?_
  refine Evals.bind begin3 ?_
  refine Evals.bind (bal_add bal_nil (by decide) (by decide) (Int.le_refl 0) (by decide) (fun p hp => by cases hp) (by omega) 3 rfl) ?_
  refine Evals.bind (bal_add b1 (by decide) (by decide) (i := 1) (by decide) (by decide) lt1 (by omega) 3 rfl) ?_
  refine Evals.bind (bal_add b2 (by decide) (by decide) (i := 2) (by decide) (by decide) lt2 (by omega) 3 rfl) ?_
  refine Evals.succ (Evals.of fun k => ?_)
  have e3 : ([] ++ ent 0 a) ++ ent 1 b ++ ent 2 c = P3 a b c := rfl
  simp only [heronrylaw13_EscrowUndo.j0, if_true, e3, p1, p2, p3, p4, Option.bind_some, and_63, hcc, if_pos p5]
  have e4 : (rd_T28 [(⟨-1000, 1000, c⟩ : S28)] 0).f2 = c := rfl
  rw [if_neg (by decide), if_pos (show ((([] : List S83).length : Nat) : Int) = 0 from rfl), if_pos (show (([(⟨-1000, 1000, c⟩ : S28)].length : Nat) : Int) = 1 from rfl), if_pos (show 0 < (([(⟨-1000, 1000, c⟩ : S28)].length : Nat) : Int) from Int.zero_lt_one), if_pos e4]
  rfl
end Go.Proofs.Ytdnkbmjlcdddcaa.Q
namespace Go.Proofs.Ytdnkbmjlcdddcaa
theorem escrowUndo_holds : Rows.EscrowUndoSaid :=
  escrowUndo.said (Q.heronrylaw13_EscrowUndo.walk fun a0 a1 a2 _ _ _ => (Q.undo_ev a0 a1 a2).get)
end Go.Proofs.Ytdnkbmjlcdddcaa
