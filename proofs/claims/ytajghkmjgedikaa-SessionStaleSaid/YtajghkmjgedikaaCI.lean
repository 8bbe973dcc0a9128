/- slices.Index and slices.Contains at ints. No condition. -/
import Derived.Test.YtajghkmjgedikaaQ0
import Derived.Lib.Hide
namespace Go.Proofs.Ytajghkmjgedikaa.Q
open Go.RowKit Go.Proofs.YtajghkmjgedikaaW Go.Proofs.YtajghkmjgedikaaW.PrintWords Go.Proofs.YtajghkmjgedikaaW.PrintLast Go.Proofs.YtajghkmjgedikaaW.PrintMore
set_option linter.unusedVariables false
set_option linter.unusedSimpArgs false

def ixI (x : Int) (l : List Int) : Int := match l.findIdx? (fun y => decide (x = y)) with | some i => (i : Int) | none => -1
theorem ixI_at (x : Int) (l : List Int) (k : Nat) (hk : k < l.length) (hp : x = l[k]) (hb : ∀ j (hj : j < k), x ≠ l[j]'(by omega)) : ixI x l = (k : Int) := by
  have : l.findIdx? (fun y => decide (x = y)) = some k := by
    rw [List.findIdx?_eq_some_iff_getElem]
    exact ⟨hk, by simp [hp], fun j hj => by simpa using hb j hj⟩
  unfold ixI; rw [this]
theorem ixI_none (x : Int) (l : List Int) (hb : ∀ j (hj : j < l.length), x ≠ l[j]) : ixI x l = -1 := by
  have : l.findIdx? (fun y => decide (x = y)) = none := by
    rw [List.findIdx?_eq_none_iff]
    intro y hy
    obtain ⟨j, hj, rfl⟩ := List.mem_iff_getElem.1 hy
    simpa using hb j hj
  unfold ixI; rw [this]
theorem ixI_mem (x : Int) (l : List Int) : decide (ixI x l ≥ 0) = decide (x ∈ l) := by
  cases h : l.findIdx? (fun y => decide (x = y)) with
  | none =>
    have e : ixI x l = -1 := by unfold ixI; rw [h]
    rw [e]
    rw [List.findIdx?_eq_none_iff] at h
    have : x ∉ l := fun hx => by simpa using h x hx
    simp [this]
  | some i =>
    have e : ixI x l = (i : Int) := by unfold ixI; rw [h]
    rw [e]
    rw [List.findIdx?_eq_some_iff_getElem] at h
    obtain ⟨hi, hp, _⟩ := h
    have : x ∈ l := by rw [of_decide_eq_true hp]; exact List.getElem_mem _
    simp [this]
set_option maxRecDepth 100000 in
set_option maxHeartbeats 1600000 in
theorem index_int (x : Int) (A : Option Addr) (c : Nat) (l : List Int) (w : World) (hr : Kd.C (Kd.int .i64) w A l.length l) :
    Calls Try.prog 26 #[.slice A l.length c, .int .i64 x] w fun e w' => e = .returned (.int .i64 (ixI x l)) ∧ Below w.heap.size w w' := by
  have hmax : l.length ≤ 9223372036854775807 := hr.2.1
  have HR := Aside0.mk hr
  clear hr
  go_enter Try.func26, Try.ntmps26
  go_wp2
  go_loopg [8] l.length (fun gg s8 wr => ∃ k : Nat, k ≤ l.length ∧ l.length - k ≤ gg ∧ s8 = .int .i64 k ∧ Aside0 (Below w.heap.size w wr) ∧ Aside0 (∀ j (hj : j < l.length), j < k → x ≠ l[j]))
  case atStart =>
    exact ⟨0, Nat.zero_le _, by omega, rfl, ⟨Below.refl _ _⟩, ⟨fun j hj h => by omega⟩⟩
  case round =>
    obtain ⟨k, hk, hgk, rfl, HB, HF⟩ := hrel
    by_cases hlt : k < l.length
    · obtain ⟨ad, rfl, hc⟩ := Kd.at_int (Kd.C_below HR.out HB.out) k (by omega) (by omega)
      have hx : rd l k = l[k] := by simp [rd, List.getD_eq_getElem?_getD, List.getElem?_eq_getElem hlt]
      rw [hx] at hc
      obtain ⟨y, hy⟩ : ∃ y, y = l[k] := ⟨_, rfl⟩
      rw [← hy] at hc
      have HY := Aside0.mk hy
      have hcell : wr.cell? (ad.add k) = some (.int .i64 y) := by simpa using hc
      clear hx hy hc
      by_cases he : x = y
      · have hb : (x == y) = true := by simp [he]
        have HE := Aside0.mk he
        clear he
        go_wp2
        go_ret
        exact ⟨by rw [ixI_at x l k hlt (HE.out.trans HY.out) (fun j hj => HF.out j (by omega) hj)]; first | rfl | simp, HB.out⟩
      · have hb : (x == y) = false := by simp [he]
        have HE := Aside0.mk he
        clear he
        go_wp2
        go_roundg (l.length - (k + 1))
        case measure => omega
        case rel =>
          exact ⟨k + 1, by omega, by omega, by go_num, HB, ⟨fun j hj h => by
            by_cases he : j = k
            · subst he; rw [← HY.out]; exact HE.out
            · exact HF.out j hj (by omega)⟩⟩
    · have : k = l.length := by omega
      subst this
      go_wp2
      go_ret
      exact ⟨by rw [ixI_none x l (fun j hj => HF.out j hj hj)]; rfl, HB.out⟩
set_option maxRecDepth 100000 in
theorem contains_int (x : Int) (A : Option Addr) (c : Nat) (l : List Int) (w : World) (hr : Kd.C (Kd.int .i64) w A l.length l) :
    Calls Try.prog 19 #[.slice A l.length c, .int .i64 x] w fun e w' => e = .returned (.bool (decide (x ∈ l))) ∧ Below w.heap.size w w' := by
  have H := Aside0.mk (fun W hw => index_int x A c l W (Kd.C_below hr hw))
  have HM := Aside0.mk (ixI_mem x l)
  clear hr
  go_enter Try.func19, Try.ntmps19
  go_wp2_with (go_at_call 26; refine (H.out _ (Below.refl _ _)).mono ?_; rintro e w1 ⟨rfl, hb1⟩; have HB1 := Aside0.mk hb1; clear hb1)
  go_ret
  exact ⟨by rw [← HM.out]; rfl, HB1.out⟩
end Go.Proofs.Ytajghkmjgedikaa.Q
