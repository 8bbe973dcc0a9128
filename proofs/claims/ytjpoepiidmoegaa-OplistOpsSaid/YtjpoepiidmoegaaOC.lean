/- slices.ContainsFunc at entries: is there one that is not sound? No condition. -/
import Derived.Test.YtjpoepiidmoegaaQS
namespace Go.Proofs.Ytjpoepiidmoegaa.Q
open Go.RowKit Go.Proofs.YtjpoepiidmoegaaW Go.Proofs.YtjpoepiidmoegaaW.PrintWords Go.Proofs.YtjpoepiidmoegaaW.PrintLast Go.Proofs.YtjpoepiidmoegaaW.PrintMore
set_option linter.unusedVariables false
set_option linter.unusedSimpArgs false

def ixOf {α : Type} (p : α → Bool) (l : List α) : Int := match l.findIdx? p with | some i => (i : Int) | none => -1
theorem ixOf_at {α : Type} (p : α → Bool) (l : List α) (k : Nat) (hk : k < l.length) (hp : p l[k] = true) (hb : ∀ j (hj : j < k), p (l[j]'(by omega)) = false) : ixOf p l = (k : Int) := by
  have : l.findIdx? p = some k := by
    rw [List.findIdx?_eq_some_iff_getElem]
    exact ⟨hk, hp, fun j hj => by rw [hb j hj]; decide⟩
  unfold ixOf; rw [this]
theorem ixOf_none {α : Type} (p : α → Bool) (l : List α) (hb : ∀ j (hj : j < l.length), p l[j] = false) : ixOf p l = -1 := by
  have : l.findIdx? p = none := by
    rw [List.findIdx?_eq_none_iff]
    intro x hx
    obtain ⟨j, hj, rfl⟩ := List.mem_iff_getElem.1 hx
    exact hb j hj
  unfold ixOf; rw [this]

def PredC (g : Nat) (lb : Array Value) (p : S33 → Bool) (w : World) : Prop := ∀ (W : World) (x : S33), Below w.heap.size w W →
  Calls Try.prog g (#[.agg #[.int .i64 x.f0, .int .i64 x.f1, .int .i64 x.f2, .bool x.f3]] ++ lb) W fun e w' => e = .returned (.bool (p x)) ∧ Below W.heap.size W w'

theorem rd_at (l : List S33) (k : Nat) (hk : k < l.length) : rd_T33 l (k : Int) = l[k] := by
  unfold rd_T33; simp [List.getD_eq_getElem?_getD, List.getElem?_eq_getElem hk]

set_option maxHeartbeats 1600000 in
theorem index_any (p : S33 → Bool) (A : Option Addr) (c : Nat) (l : List S33) (w : World) (hr : Kd.C k33 w A l.length l) (hp : PredC 39 #[] p w) :
    Calls Try.prog 57 #[.slice A l.length c, .func (.func 39) #[] #[]] w fun e w' => e = .returned (.int .i64 (ixOf p l)) ∧ Below w.heap.size w w' := by
  have hmax : l.length ≤ 9223372036854775807 := hr.2.1
  have HR := Aside0.mk hr
  have HP := Aside0.mk hp
  have hu33 := Try.underlying33
  clear hr hp
  go_enter Try.func57, Try.ntmps57
  go_wp2
  go_loopg [8] l.length (fun gg s8 wr => ∃ k : Nat, k ≤ l.length ∧ l.length - k ≤ gg ∧ s8 = .int .i64 k ∧ Aside0 (Below w.heap.size w wr) ∧ Aside0 (∀ j (hj : j < l.length), j < k → p l[j] = false))
  case atStart =>
    exact ⟨0, Nat.zero_le _, by omega, rfl, ⟨Below.refl _ _⟩, ⟨fun j hj h => by omega⟩⟩
  case round =>
    obtain ⟨k, hk, hgk, rfl, HB, HF⟩ := hrel
    by_cases hlt : k < l.length
    · obtain ⟨ad, rfl, e1, e2, e3, e4⟩ := at_T33 (Kd.C_below HR.out HB.out) (k : Int) (by omega) (by omega)
      have hx := rd_at l k hlt
      rw [hx] at e1 e2 e3 e4
      obtain ⟨x, hxx⟩ : ∃ x, x = l[k] := ⟨_, rfl⟩
      rw [← hxx] at e1 e2 e3 e4
      have HX := Aside0.mk hxx
      rw [Int.toNat_natCast] at e1 e2 e3 e4
      clear hx hxx
      have hcall := Aside0.mk (fun W h => HP.out W x h)
      obtain ⟨b, hb⟩ : ∃ b, p x = b := ⟨_, rfl⟩
      rw [hb] at hcall
      have HPX := Aside0.mk hb
      clear hb
      obtain ⟨x0, x1, x2, x3⟩ := x
      simp only at e1 e2 e3 e4 hcall
      cases b with
      | true =>
        go_wp2_with (go_at_call 39; refine (hcall.out _ HB.out).mono ?_; rintro e w1 ⟨rfl, hb1⟩; have HB1 := Aside0.mk (below_then HB.out HB.out.size hb1); clear hb1)
        go_ret
        exact ⟨by rw [ixOf_at p l k hlt (by rw [← HX.out]; exact HPX.out) (fun j hj => HF.out j (by omega) hj)]; rfl, HB1.out⟩
      | false =>
        go_wp2_with (go_at_call 39; refine (hcall.out _ HB.out).mono ?_; rintro e w1 ⟨rfl, hb1⟩; have HB1 := Aside0.mk (below_then HB.out HB.out.size hb1); clear hb1)
        go_roundg (l.length - (k + 1))
        case measure => omega
        case rel =>
          exact ⟨k + 1, by omega, by omega, by go_num, HB1, ⟨fun j hj h => by
            by_cases he : j = k
            · subst he; rw [← HX.out]; exact HPX.out
            · exact HF.out j hj (by omega)⟩⟩
    · have : k = l.length := by omega
      subst this
      go_wp2
      go_ret
      exact ⟨by rw [ixOf_none p l (fun j hj => HF.out j hj hj)]; rfl, HB.out⟩

def soundB (x : S33) : Bool := decide (0 ≤ x.f0) && (decide (x.f0 < 64) && (decide (0 ≤ x.f1) && (decide (x.f1 < 64) && (x.f2 != -9223372036854775808))))
theorem sound_val (x : S33) : oplist_Entry_sound.f x.f0 x.f1 x.f2 x.f3 = some (soundB x) := by
  unfold oplist_Entry_sound.f soundB
  by_cases h1 : x.f0 ≥ 0
  · rw [if_pos h1]
    have h1' : (0 : Int) ≤ x.f0 := h1
    by_cases h2 : x.f0 < 64
    · rw [if_pos h2]
      by_cases h3 : x.f1 ≥ 0
      · rw [if_pos h3]
        have h3' : (0 : Int) ≤ x.f1 := h3
        by_cases h4 : x.f1 < 64
        · rw [if_pos h4]; simp [h1', h2, h3', h4]
        · rw [if_neg h4]; simp [h4]
      · rw [if_neg h3]; have : ¬ (0 : Int) ≤ x.f1 := h3; simp [this]
    · rw [if_neg h2]; simp [h2]
  · rw [if_neg h1]; have : ¬ (0 : Int) ≤ x.f0 := h1; simp [this]
set_option maxRecDepth 100000 in
theorem pred39 (w : World) : PredC 39 #[] (fun x => !soundB x) w := by
  intro W x hb
  clear hb
  have hu33 := Try.underlying33
  have HC := Aside0.mk (fun W => oplist_Entry_sound.calls x.f0 x.f1 x.f2 x.f3 (soundB x) W (sound_val x))
  show Calls Try.prog 39 #[.agg #[.int .i64 x.f0, .int .i64 x.f1, .int .i64 x.f2, .bool x.f3]] W _
  go_enter Try.func39, Try.ntmps39
  go_wp2_with (go_at_call 30; refine (HC.out _).mono ?_; rintro e w1 ⟨rfl, hb1⟩; have HB1 := Aside0.mk (below_then ((Below.refl _ _).alloc (Nat.le_refl _) _) (by simp) hb1); clear hb1)
  go_ret
  exact ⟨rfl, HB1.out⟩
theorem ixOf_any (p : S33 → Bool) (l : List S33) : decide (ixOf p l ≥ 0) = l.any p := by
  cases h : l.findIdx? p with
  | none =>
    have : ixOf p l = -1 := by unfold ixOf; rw [h]
    rw [this]
    rw [List.findIdx?_eq_none_iff] at h
    have : l.any p = false := by rw [List.any_eq_false]; intro x hx; simpa using h x hx
    rw [this]; rfl
  | some i =>
    have e : ixOf p l = (i : Int) := by unfold ixOf; rw [h]
    rw [e]
    rw [List.findIdx?_eq_some_iff_getElem] at h
    obtain ⟨hi, hp, _⟩ := h
    have : l.any p = true := by rw [List.any_eq_true]; exact ⟨l[i], List.getElem_mem _, hp⟩
    rw [this]; simp
def oplist_Entry_38.f (l0 : List S33) (g : Int) : Option Bool := if g = 39 then some (l0.any (fun x => !soundB x)) else none
set_option maxRecDepth 100000 in
theorem containsNot.calls (A0 : Option Addr) (c0 : Nat) (l0 : List S33) (r : Bool) (w : World) (hr0 : Kd.C k33 w A0 l0.length l0) (hc0 : l0.length ≤ c0) (h : oplist_Entry_38.f l0 39 = some r) :
    Calls Try.prog 38 #[.slice A0 l0.length c0, .func (.func 39) #[] #[]] w fun e w' => e = .returned (.bool r) ∧ Below w.heap.size w w' := by
  unfold oplist_Entry_38.f at h
  rw [if_pos rfl] at h
  have h := Option.some.inj h
  have H := Aside0.mk (fun W hw => index_any (fun x => !soundB x) A0 c0 l0 W (Kd.C_below hr0 hw) (pred39 W))
  have HR := Aside0.mk ((ixOf_any (fun x => !soundB x) l0).trans h)
  clear hr0 h
  go_enter Try.func38, Try.ntmps38
  go_wp2_with (go_at_call 57; refine (H.out _ (Below.refl _ _)).mono ?_; rintro e w1 ⟨rfl, hb1⟩; have HB1 := Aside0.mk hb1; clear hb1)
  go_ret
  exact ⟨by rw [← HR.out]; rfl, HB1.out⟩
end Go.Proofs.Ytjpoepiidmoegaa.Q
