import Derived.Test.YtnlnglfjehohpaaTA
namespace Go.Proofs.Ytnlnglfjehohpaa.Q
open Go.RowKit Go.Shelf Go.Proofs.YtnlnglfjehohpaaW Go.Proofs.YtnlnglfjehohpaaW.PrintWords Go.Proofs.YtnlnglfjehohpaaW.PrintLast Go.Proofs.YtnlnglfjehohpaaW.PrintMore
set_option linter.unusedVariables false
set_option linter.unusedSimpArgs false

theorem tells_lost : Tells 29 (fun x => x.f1 == 3) := by
  intro x W
  have hu := Try.underlying35
  go_enter Try.func29, Try.ntmps29
  go_wp2
  go_ret
  exact ⟨rfl, (Below.refl _ _).alloc (Nat.le_refl _) _⟩
theorem tells_fixed : Tells 30 (fun x => x.f1 != 2) := by
  intro x W
  have hu := Try.underlying35
  go_enter Try.func30, Try.ntmps30
  go_wp2
  go_ret
  exact ⟨rfl, (Below.refl _ _).alloc (Nat.le_refl _) _⟩

def tree_Lost.f (l0 : List S35) (a0 : Int) (a1 : Int) : Option Bool := some (!isB l0 a1 || anyUp (fun x => x.f1 == 3) l0 a1)
def tree_Fixed.f (l0 : List S35) (a0 : Int) (a1 : Int) : Option Bool := some (isB l0 a1 && !anyUp (fun x => x.f1 != 2) l0 a1)

set_option maxHeartbeats 1600000 in
theorem tree_Lost.calls (A0 : Option Addr) (c0 : Nat) (l0 : List S35) (a0 : Int) (a1 : Int) (r : Bool) (w : World) (hr0 : Kd.C k35 w A0 l0.length l0) (hc0 : l0.length ≤ c0) (h : tree_Lost.f l0 a0 a1 = some r) :
    Calls Try.prog 16 #[.agg #[.slice A0 l0.length c0, .int .i64 a0], .int .i64 a1] w fun e w' => e = .returned (.bool r) ∧ Below w.heap.size w w' := by
  have h := Option.some.inj h
  have hu := Try.underlying26
  have HI := Aside0.mk (is_any A0 c0 l0 a0 a1)
  have HA := Aside0.mk (fun W (hW : Below w.heap.size w W) => any_any 29 (fun x => x.f1 == 3) (enters_of Try.func29 (by kernel_rfl) rfl) tells_lost A0 c0 l0 a0 a1 _ W (Kd.C_below hr0 hW) hc0 rfl)
  clear hr0
  cases hi : isB l0 a1 with
  | false =>
    rw [hi] at HI h
    obtain rfl : true = r := h
    clear hi h
    go_enter Try.func16, Try.ntmps16
    go_wp2_with (go_at_call 20; refine (HI.out _).mono ?_; rintro e w1 ⟨rfl, rfl⟩)
    go_ret
    exact ⟨rfl, ((Below.refl _ _).alloc (Nat.le_refl _) _).alloc (by simp) _⟩
  | true =>
    rw [hi] at HI h
    obtain rfl : anyUp (fun x => x.f1 == 3) l0 a1 = r := h
    clear hi
    generalize anyUp (fun x => x.f1 == 3) l0 a1 = r at *
    go_enter Try.func16, Try.ntmps16
    go_wp2_with (first | (go_at_call 20; refine (HI.out _).mono ?_; rintro e w1 ⟨rfl, rfl⟩) | (go_at_call 28; refine (HA.out _ ?s1).mono ?_; (case s1 => exact ((Below.refl _ _).alloc (Nat.le_refl _) _).alloc (by simp) _); rintro e w2 ⟨rfl, hb⟩; have HB := Aside0.mk (below_then (((Below.refl _ _).alloc (Nat.le_refl _) _).alloc (by simp) _) (by simp; omega) hb); clear hb))
    go_ret
    exact ⟨rfl, HB.out⟩

set_option maxHeartbeats 1600000 in
theorem tree_Fixed.calls (A0 : Option Addr) (c0 : Nat) (l0 : List S35) (a0 : Int) (a1 : Int) (r : Bool) (w : World) (hr0 : Kd.C k35 w A0 l0.length l0) (hc0 : l0.length ≤ c0) (h : tree_Fixed.f l0 a0 a1 = some r) :
    Calls Try.prog 17 #[.agg #[.slice A0 l0.length c0, .int .i64 a0], .int .i64 a1] w fun e w' => e = .returned (.bool r) ∧ Below w.heap.size w w' := by
  have h := Option.some.inj h
  have hu := Try.underlying26
  have HI := Aside0.mk (is_any A0 c0 l0 a0 a1)
  have HA := Aside0.mk (fun W (hW : Below w.heap.size w W) => any_any 30 (fun x => x.f1 != 2) (enters_of Try.func30 (by kernel_rfl) rfl) tells_fixed A0 c0 l0 a0 a1 _ W (Kd.C_below hr0 hW) hc0 rfl)
  clear hr0
  cases hi : isB l0 a1 with
  | false =>
    rw [hi] at HI h
    obtain rfl : false = r := h
    clear hi h
    go_enter Try.func17, Try.ntmps17
    go_wp2_with (go_at_call 20; refine (HI.out _).mono ?_; rintro e w1 ⟨rfl, rfl⟩)
    go_ret
    exact ⟨rfl, ((Below.refl _ _).alloc (Nat.le_refl _) _).alloc (by simp) _⟩
  | true =>
    rw [hi] at HI h
    obtain rfl : (!anyUp (fun x => x.f1 != 2) l0 a1) = r := h
    clear hi
    generalize anyUp (fun x => x.f1 != 2) l0 a1 = q at *
    go_enter Try.func17, Try.ntmps17
    go_wp2_with (first | (go_at_call 20; refine (HI.out _).mono ?_; rintro e w1 ⟨rfl, rfl⟩) | (go_at_call 28; refine (HA.out _ ?s1).mono ?_; (case s1 => exact ((Below.refl _ _).alloc (Nat.le_refl _) _).alloc (by simp) _); rintro e w2 ⟨rfl, hb⟩; have HB := Aside0.mk (below_then (((Below.refl _ _).alloc (Nat.le_refl _) _).alloc (by simp) _) (by simp; omega) hb); clear hb))
    go_ret
    exact ⟨rfl, HB.out⟩
end Go.Proofs.Ytnlnglfjehohpaa.Q
