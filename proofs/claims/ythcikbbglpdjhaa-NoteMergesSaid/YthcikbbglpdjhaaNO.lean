/- note.ops: slices.ContainsFunc at operations. No condition. -/
import Derived.Test.YthcikbbglpdjhaaQ0
namespace Go.Proofs.Ythcikbbglpdjhaa.Q
open Go.RowKit Go.Proofs.YthcikbbglpdjhaaW Go.Proofs.YthcikbbglpdjhaaW.PrintWords Go.Proofs.YthcikbbglpdjhaaW.PrintLast Go.Proofs.YthcikbbglpdjhaaW.PrintMore
set_option linter.unusedVariables false
set_option linter.unusedSimpArgs false
def badO (x : S46) : Bool := decide (x.f0 < 0) || decide (64 ≤ x.f0)
theorem badO_any (x : S46) (W : World) : Calls Try.prog 51 #[.agg #[.int .i64 x.f0, .int .i64 x.f1]] W fun e w' => e = .returned (.bool (badO x)) ∧ Below W.heap.size W w' := by
  obtain ⟨a, b⟩ := x
  have hu := Try.underlying46
  have hB : Below W.heap.size W (W.alloc (.cells #[.int .i64 a, .int .i64 b] 46)) := (Below.refl _ _).alloc (Nat.le_refl _) _
  have HB := Aside0.mk hB
  clear hB
  by_cases h1 : a < 0
  · have e : badO ⟨a, b⟩ = true := by unfold badO; simp [h1]
    rw [e]
    clear e
    have q1 : (a < 0) = True := eq_true h1
    go_enter Try.func51, Try.ntmps51
    go_wp2
    go_ret
    exact ⟨rfl, HB.out⟩
  · have q1 : (a < 0) = False := eq_false h1
    by_cases h2 : 64 ≤ a
    · have e : badO ⟨a, b⟩ = true := by unfold badO; simp [h2]
      rw [e]
      clear e
      have q2 : (64 ≤ a) = True := eq_true h2
      go_enter Try.func51, Try.ntmps51
      go_wp2
      go_ret
      exact ⟨rfl, HB.out⟩
    · have e : badO ⟨a, b⟩ = false := by unfold badO; simp [h1, h2]
      rw [e]
      clear e
      have q2 : (64 ≤ a) = False := eq_false h2
      go_enter Try.func51, Try.ntmps51
      go_wp2
      go_ret
      exact ⟨rfl, HB.out⟩
theorem rd_at46 (l : List S46) (k : Nat) (hk : k < l.length) : rd_T46 l (k : Int) = l[k] := by
  unfold rd_T46; simp [List.getD_eq_getElem?_getD, List.getElem?_eq_getElem hk]
set_option maxHeartbeats 1600000 in
theorem ix46 (A0 : Option Addr) (c0 : Nat) (l0 : List S46) (w : World) (hr0 : Kd.C k46 w A0 l0.length l0) (hl : l0.length < 1000000000) :
    Calls Try.prog 59 #[.slice A0 l0.length c0, .func (.func 51) #[] #[]] w fun e w' => (∃ i : Int, e = .returned (.int .i64 i) ∧ decide (0 ≤ i) = l0.any badO) ∧ Below w.heap.size w w' := by
  have hu := Try.underlying46
  have HR := Aside0.mk hr0
  have HB := Aside0.mk (Below.refl w.heap.size w)
  have HP := Aside0.mk (fun (x : S46) (W : World) => badO_any x W)
  have H0 := Aside0.mk (show ∀ j, j < 0 → ∀ (hj : j < l0.length), badO l0[j] = false from fun j hj => by omega)
  obtain ⟨n, hn⟩ : ∃ n, l0.length = n := ⟨_, rfl⟩
  have HN := Aside0.mk hn
  rw [hn] at HR hl ⊢
  clear hr0 hn
  go_enter Try.func59, Try.ntmps59
  go_wp2
  go_loopg [8] n (fun gg s8 wr => ∃ k : Nat, k ≤ n ∧ n - k ≤ gg ∧ s8 = .int .i64 k ∧ Aside0 (∀ j, j < k → ∀ (hj : j < l0.length), badO l0[j] = false) ∧ Aside0 (Below w.heap.size w wr))
  case atStart => exact ⟨0, Nat.zero_le _, by omega, rfl, H0, HB⟩
  case round =>
    clear H0 HB
    obtain ⟨k, hk, hgg, rfl, H0, HB⟩ := hrel
    by_cases hlt : k < n
    · obtain ⟨ad, rfl, e0, e1⟩ := at_T46 (Kd.C_below HR.out HB.out) (k : Int) (by omega) (by omega)
      have hkl : k < l0.length := by rw [HN.out]; exact hlt
      rw [Int.toNat_natCast, rd_at46 l0 k hkl] at e0 e1
      have HNX := Aside0.mk (show badO l0[k] = false → ∀ j, j < k + 1 → ∀ (hj : j < l0.length), badO l0[j] = false from fun hf j hj hjl => by
        by_cases e : j = k
        · subst e; exact hf
        · exact H0.out j (by omega) hjl)
      have HYS := Aside0.mk (show badO l0[k] = true → l0.any badO = true from fun ht => List.any_eq_true.2 ⟨_, List.getElem_mem hkl, ht⟩)
      obtain ⟨x, hx⟩ : ∃ x, l0[k] = x := ⟨_, rfl⟩
      rw [hx] at e0 e1 HNX HYS
      have hcall := Aside0.mk (fun W => HP.out x W)
      obtain ⟨x0, x1⟩ := x
      simp only at e0 e1 hcall
      have q1 : ((k : Int) < (n : Int)) = True := eq_true (by omega)
      have q2 : (0 ≤ (k : Int)) = True := eq_true (by omega)
      clear hx hkl
      have w1 : IntKind.i64.wrap ((k : Int) + 1) = ((k + 1 : Nat) : Int) := by rw [IntKind.wrap_i64]; omega
      cases hb : badO ⟨x0, x1⟩ with
      | true =>
        rw [hb] at hcall HYS
        go_wp2_with (go_at_call 51; refine (hcall.out _).mono ?_; rintro e w4 ⟨rfl, hb4⟩; have HB4 := Aside0.mk (HB.out.trans (hb4.mono HB.out.size)); clear hcall hb4)
        go_ret
        exact ⟨⟨_, rfl, by rw [HYS.out trivial]; simp⟩, HB4.out⟩
      | false =>
        rw [hb] at hcall HNX
        go_wp2_with (go_at_call 51; refine (hcall.out _).mono ?_; rintro e w4 ⟨rfl, hb4⟩; have HB4 := Aside0.mk (HB.out.trans (hb4.mono HB.out.size)); clear hcall hb4)
        go_roundg (n - (k + 1))
        case measure => omega
        case rel => exact ⟨k + 1, by omega, Nat.le_refl _, by go_num, ⟨HNX.out trivial⟩, HB4⟩
    · have hkn : k = n := by omega
      subst hkn
      have hf : l0.any badO = false := List.any_eq_false.2 (fun x hx => by
        obtain ⟨j, hj, rfl⟩ := List.getElem_of_mem hx
        rw [H0.out j (by have := HN.out; omega) hj]; decide)
      have HF := Aside0.mk hf
      clear hf
      go_wp2
      go_ret
      exact ⟨⟨-1, rfl, by rw [HF.out]; decide⟩, HB.out⟩
def note_ops.f (l0 : List S46) : Option Bool := if l0.length < 1000000000 then some (decide (l0.length ≤ 256) && !(l0.any badO)) else none
theorem contains46 (A0 : Option Addr) (c0 : Nat) (l0 : List S46) (w : World) (hr0 : Kd.C k46 w A0 l0.length l0) (hl : l0.length < 1000000000) :
    Calls Try.prog 50 #[.slice A0 l0.length c0, .func (.func 51) #[] #[]] w fun e w' => e = .returned (.bool (l0.any badO)) ∧ Below w.heap.size w w' := by
  have hcall := Aside0.mk (ix46 A0 c0 l0 w hr0 hl)
  obtain ⟨r, hr⟩ : ∃ r, l0.any badO = r := ⟨_, rfl⟩
  rw [hr] at hcall ⊢
  generalize l0.length = n at *
  clear hr0 hr hl
  go_enter Try.func50, Try.ntmps50
  go_wp2_with (go_at_call 59; refine hcall.out.mono ?_; rintro e w4 ⟨⟨i, rfl, hi⟩, hb4⟩; have HB4 := Aside0.mk hb4; have HI := Aside0.mk hi; clear hcall hb4 hi)
  go_ret
  exact ⟨by rw [← HI.out]; rfl, HB4.out⟩
theorem note_ops.calls (A0 : Option Addr) (c0 : Nat) (l0 : List S46) (r : Bool) (w : World) (hr0 : Kd.C k46 w A0 l0.length l0) (hc0 : l0.length ≤ c0) (h : note_ops.f l0 = some r) :
    Calls Try.prog 30 #[.slice A0 l0.length c0] w fun e w' => e = .returned (.bool r) ∧ Below w.heap.size w w' := by
  unfold note_ops.f at h
  split at h
  case isFalse => cases h
  rename_i hl
  have h := Option.some.inj h
  have hcall := Aside0.mk (contains46 A0 c0 l0 w hr0 hl)
  obtain ⟨q, hq⟩ : ∃ q, l0.any badO = q := ⟨_, rfl⟩
  rw [hq] at hcall h
  generalize l0.length = n at *
  clear hr0 hc0 hl hq
  by_cases h1 : n ≤ 256
  · have q1 : ((n : Int) ≤ 256) = True := eq_true (by omega)
    rw [decide_eq_true h1, Bool.true_and] at h
    subst h
    go_enter Try.func30, Try.ntmps30
    go_wp2_with (go_at_call 50; refine hcall.out.mono ?_; rintro e w4 ⟨rfl, hb4⟩; have HB4 := Aside0.mk hb4; clear hcall hb4)
    go_ret
    exact ⟨rfl, HB4.out⟩
  · have q1 : ((n : Int) ≤ 256) = False := eq_false (by omega)
    rw [decide_eq_false h1, Bool.false_and] at h
    subst h
    clear hcall
    go_enter Try.func30, Try.ntmps30
    go_wp2
    go_ret
    exact ⟨rfl, Below.refl _ _⟩
end Go.Proofs.Ythcikbbglpdjhaa.Q
