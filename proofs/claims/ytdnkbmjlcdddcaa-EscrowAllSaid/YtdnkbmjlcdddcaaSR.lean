/- Reach: the two sums. No condition beyond the numbers' ranges. -/
import Derived.Test.YtdnkbmjlcdddcaaSP
namespace Go.Proofs.Ytdnkbmjlcdddcaa.Q
open Go.RowKit Go.Proofs.YtdnkbmjlcdddcaaW.PrintWords Go.Proofs.YtdnkbmjlcdddcaaW.PrintLast Go.Proofs.YtdnkbmjlcdddcaaW.PrintMore
attribute [local go_sem] max2_int min2_int max_two min_two max_three min_three max_four min_four
set_option linter.unusedVariables false
set_option linter.unusedSimpArgs false
set_option maxRecDepth 100000 in
set_option maxHeartbeats 800000 in
theorem low_adds : Adds 69 (fun x => mn x 0) := by
  intro T x w h
  have h' := (inR_iff x).1 h
  have hm : -9223372036854775808 ≤ mn x 0 ∧ mn x 0 ≤ 9223372036854775807 := by unfold mn; split <;> omega
  have hut := Try.underlying122
  obtain ⟨m, hm'⟩ : ∃ j : Int, (if (0 : Int) < x then 0 else x) = j := ⟨_, rfl⟩
  have e : mn x 0 = m := hm'
  simp only [e] at hm ⊢
  clear e h' h
  go_enter Try.func69, Try.ntmps69
  go_wp2_with (go_at_call 67; refine (add_any T m _ hm.1 hm.2).mono ?_; rintro e w1 ⟨rfl, hb1⟩; obtain ⟨hb0, c0, c1, f0, f1⟩ := two_behind (two_new w _ _) hb1; have B0 := Aside0.mk hb0; have HB1 := Aside0.mk hb1; clear hb0 hb1)
  refine bodyPost_ret (results_cell_row rfl _ _ (w.heap.size + 1) 122 _ (0, 0) _ rfl (blk_set (blk_set B0.out 0 (.int .u64 (hiOf (T + m)))) 1 (.int .u64 (loOf (T + m)))) hut rfl (by kernel_rfl)) rfl ?_
  exact ⟨rfl, ((below_then (((Below.refl _ _).alloc (Nat.le_refl _) _).alloc (by simp) _) (by simp; omega) HB1.out).setCell (by simp) _).setCell (by simp) _⟩

set_option maxRecDepth 100000 in
set_option maxHeartbeats 800000 in
theorem high_adds : Adds 71 (fun x => mx x 0) := by
  intro T x w h
  have h' := (inR_iff x).1 h
  have hm : -9223372036854775808 ≤ mx x 0 ∧ mx x 0 ≤ 9223372036854775807 := by unfold mx; split <;> omega
  have hut := Try.underlying122
  obtain ⟨m, hm'⟩ : ∃ j : Int, (if x < (0 : Int) then 0 else x) = j := ⟨_, rfl⟩
  have e : mx x 0 = m := hm'
  simp only [e] at hm ⊢
  clear e h' h
  go_enter Try.func71, Try.ntmps71
  go_wp2_with (go_at_call 67; refine (add_any T m _ hm.1 hm.2).mono ?_; rintro e w1 ⟨rfl, hb1⟩; obtain ⟨hb0, c0, c1, f0, f1⟩ := two_behind (two_new w _ _) hb1; have B0 := Aside0.mk hb0; have HB1 := Aside0.mk hb1; clear hb0 hb1)
  refine bodyPost_ret (results_cell_row rfl _ _ (w.heap.size + 1) 122 _ (0, 0) _ rfl (blk_set (blk_set B0.out 0 (.int .u64 (hiOf (T + m)))) 1 (.int .u64 (loOf (T + m)))) hut rfl (by kernel_rfl)) rfl ?_
  exact ⟨rfl, ((below_then (((Below.refl _ _).alloc (Nat.le_refl _) _).alloc (by simp) _) (by simp; omega) HB1.out).setCell (by simp) _).setCell (by simp) _⟩

def span_Reach.f (a0 : Int) (l1 : List Int) : Option (Int × Int × Int) :=
  if inR a0 = true ∧ l1.all inR = true then
    if 4096 < l1.length then some (0, 0, 13)
    else if inR (a0 + sumBy (fun x => mn x 0) l1) = true ∧ inR (a0 + sumBy (fun x => mx x 0) l1) = true then some (a0 + sumBy (fun x => mn x 0) l1, a0 + sumBy (fun x => mx x 0) l1, 0) else some (0, 0, 12)
  else none

theorem mn_range (x : Int) (h : inR x = true) : -9223372036854775808 ≤ mn x 0 ∧ mn x 0 ≤ 9223372036854775807 := by
  have := (inR_iff x).1 h
  unfold mn; split <;> omega
theorem mx_range (x : Int) (h : inR x = true) : -9223372036854775808 ≤ mx x 0 ∧ mx x 0 ≤ 9223372036854775807 := by
  have := (inR_iff x).1 h
  unfold mx; split <;> omega

/-- The middle of Reach, whatever is told of the two sums. -/
theorem reach_walk (a0 : Int) (A1 : Option Addr) (c1 : Nat) (l1 : List Int) (w : World) (H1 L1 H2 L2 x y e f : Int) (r1 r2 r3 : Int) (h5 : ¬ (4096 : Int) < (l1.length : Int))
    (HF : Aside0 (∀ W, Calls Try.prog 67 #[.agg #[.int .u64 0, .int .u64 0], .int .i64 a0] W fun e w' => e = .returned (.agg #[.int .u64 (hiOf a0), .int .u64 (loOf a0)]) ∧ Below W.heap.size W w'))
    (HL : Aside0 (∀ W, Below w.heap.size w W → Calls Try.prog 68 #[.slice A1 l1.length c1, .agg #[.int .u64 (hiOf a0), .int .u64 (loOf a0)], .func (.func 69) #[] #[]] W fun e w' => e = .returned (.agg #[.int .u64 H1, .int .u64 L1]) ∧ Below W.heap.size W w'))
    (HL2 : Aside0 (∀ W, Calls Try.prog 70 #[.agg #[.int .u64 H1, .int .u64 L1]] W fun g w' => g = .returned (.tuple #[.int .i64 x, .int .i64 e]) ∧ Below W.heap.size W w'))
    (HH : Aside0 (∀ W, Below w.heap.size w W → Calls Try.prog 68 #[.slice A1 l1.length c1, .agg #[.int .u64 (hiOf a0), .int .u64 (loOf a0)], .func (.func 71) #[] #[]] W fun e w' => e = .returned (.agg #[.int .u64 H2, .int .u64 L2]) ∧ Below W.heap.size W w'))
    (HH2 : Aside0 (∀ W, Calls Try.prog 70 #[.agg #[.int .u64 H2, .int .u64 L2]] W fun g w' => g = .returned (.tuple #[.int .i64 y, .int .i64 f]) ∧ Below W.heap.size W w'))
    (hres : ((e != 0 || f != 0) = true ∧ r1 = 0 ∧ r2 = 0 ∧ r3 = 12) ∨ (e = 0 ∧ f = 0 ∧ r1 = x ∧ r2 = y ∧ r3 = 0)) :
    Calls Try.prog 50 #[.int .i64 a0, .slice A1 l1.length c1] w fun e w' => e = .returned (.tuple #[.agg #[.int .i64 r1, .int .i64 r2], .int .i64 r3]) ∧ Below w.heap.size w w' := by
  have HS := Aside0.mk hres
  clear hres
  have hut := Try.underlying122
  have hus := Try.underlying62
  go_enter Try.func50, Try.ntmps50
  go_wp2_with fail
  refine (HF.out _).mono ?_
  rintro _ w1 ⟨rfl, hb1⟩
  have B1 := Aside0.mk (blk_below (blk_new w _) hb1)
  have K1 := Aside0.mk (below_then ((Below.refl _ w).alloc (Nat.le_refl _) _) (by simp) hb1)
  clear hb1
  go_wp2_with fail
  refine (HL.out _ (by exact K1.out.alloc K1.out.size _)).mono ?_
  rintro _ w2 ⟨rfl, hb2⟩
  have B2 := Aside0.mk (blk_below (blk_alloc B1.out _) hb2)
  have T2 := Aside0.mk (two_behind (blk_new w1 _) hb2).1
  have K2 := Aside0.mk (below_then (K1.out.alloc K1.out.size _) (by have := K1.out.size; simp; omega) hb2)
  clear hb2 HL
  go_wp2_with fail
  refine (HL2.out _).mono ?_
  rintro _ w3 ⟨rfl, hb3⟩
  have B3 := Aside0.mk (blk_below B2.out hb3)
  obtain ⟨t3, c0, c1', f0, f1⟩ := two_behind T2.out hb3
  have T3 := Aside0.mk t3
  have K3 := Aside0.mk (below_then K2.out K2.out.size hb3)
  clear hb3 HL2 t3
  go_wp2_with fail
  refine (HH.out _ (by exact K3.out)).mono ?_
  rintro _ w4 ⟨rfl, hb4⟩
  have B4 := Aside0.mk (blk_below B3.out hb4)
  have K4 := Aside0.mk (below_then K3.out K3.out.size hb4)
  clear hb4 HH
  go_wp2_with fail
  refine (HH2.out _).mono ?_
  rintro _ w5 ⟨rfl, hb5⟩
  obtain ⟨t5, d0, d1', g0, g1⟩ := two_behind B4.out hb5
  have B5 := Aside0.mk t5
  have K5 := Aside0.mk (below_then K4.out K4.out.size hb5)
  clear hb5 HH2 t5
  obtain ⟨h, rfl, rfl, rfl⟩ | ⟨rfl, rfl, rfl, rfl, rfl⟩ := HS.out
  · by_cases he : e = 0
    · subst he
      have hf : (f != 0) = true := by simpa using h
      clear h HS
      go_wp2
      refine bodyPost_ret (results_ct rfl _ _ w.heap.size 62 _ (0, 0) _ rfl (blk_set (blk_set B5.out 0 (.int .i64 0)) 1 (.int .i64 0)) hus rfl (by kernel_rfl)) rfl ?_
      exact ⟨rfl, (K5.out.setCell (by simp) _).setCell (by simp) _⟩
    · have he' : (e != 0) = true := by simpa using he
      clear h HS
      go_wp2
      refine bodyPost_ret (results_ct rfl _ _ w.heap.size 62 _ (0, 0) _ rfl (blk_set (blk_set B5.out 0 (.int .i64 0)) 1 (.int .i64 0)) hus rfl (by kernel_rfl)) rfl ?_
      exact ⟨rfl, (K5.out.setCell (by simp) _).setCell (by simp) _⟩
  · clear HS
    go_wp2
    refine bodyPost_ret (results_ct rfl _ _ w.heap.size 62 _ (0, 0) _ rfl (blk_set (blk_set B5.out 0 (.int .i64 r1)) 1 (.int .i64 r2)) hus rfl (by kernel_rfl)) rfl ?_
    exact ⟨rfl, (K5.out.setCell (by simp) _).setCell (by simp) _⟩

theorem span_Reach.calls (a0 : Int) (A1 : Option Addr) (c1 : Nat) (l1 : List Int) (r1 : Int) (r2 : Int) (r3 : Int) (w : World) (hr1 : Kd.C (Kd.int .i64) w A1 l1.length l1) (hc1 : l1.length ≤ c1) (h : span_Reach.f a0 l1 = some (r1, r2, r3)) :
    Calls Try.prog 50 #[.int .i64 a0, .slice A1 l1.length c1] w fun e w' => e = .returned (.tuple #[.agg #[.int .i64 r1, .int .i64 r2], .int .i64 r3]) ∧ Below w.heap.size w w' := by
  unfold span_Reach.f at h
  by_cases hR : inR a0 = true ∧ l1.all inR = true
  case neg => rw [if_neg hR] at h; cases h
  rw [if_pos hR] at h
  obtain ⟨ha, hl⟩ := hR
  have hmax : l1.length ≤ 9223372036854775807 := hr1.2.1
  by_cases h4 : 4096 < l1.length
  · rw [if_pos h4] at h
    simp only [Option.some.injEq, Prod.mk.injEq] at h
    obtain ⟨rfl, rfl, rfl⟩ := h
    have h5 : (4096 : Int) < (l1.length : Int) := by omega
    have HR := Aside0.mk hr1
    clear hr1
    have hus := Try.underlying62
    go_enter Try.func50, Try.ntmps50
    go_wp2
    refine bodyPost_ret (results_ct rfl _ _ w.heap.size 62 _ (0, 0) _ rfl (blk_new w _) hus rfl (by kernel_rfl)) rfl ?_
    exact ⟨rfl, (Below.refl _ _).alloc (Nat.le_refl _) _⟩
  · rw [if_neg h4] at h
    have ha' := (inR_iff a0).1 ha
    have bl := sum_bound (fun x => mn x 0) mn_range l1 hl
    have bh := sum_bound (fun x => mx x 0) mx_range l1 hl
    have z1 : hiOf 0 = 0 := by decide
    have z2 : loOf 0 = 0 := by decide
    have F := fun W => add_any 0 a0 W ha'.1 ha'.2
    simp only [z1, z2, Int.zero_add] at F
    have e_low := enters_of Try.func69 (by kernel_rfl) rfl
    have e_high := enters_of Try.func71 (by kernel_rfl) rfl
    refine reach_walk a0 A1 c1 l1 w _ _ _ _ (toldOf (a0 + sumBy (fun x => mn x 0) l1)).1 (toldOf (a0 + sumBy (fun x => mx x 0) l1)).1 (toldOf (a0 + sumBy (fun x => mn x 0) l1)).2 (toldOf (a0 + sumBy (fun x => mx x 0) l1)).2 r1 r2 r3 (by omega) ⟨F⟩
      ⟨fun W hW => fold_any 69 _ low_adds e_low a0 A1 c1 l1 W (Kd.C_below hr1 hW) hl⟩ ⟨fun W => told_any _ W (by omega) (by omega)⟩
      ⟨fun W hW => fold_any 71 _ high_adds e_high a0 A1 c1 l1 W (Kd.C_below hr1 hW) hl⟩ ⟨fun W => told_any _ W (by omega) (by omega)⟩ ?_
    generalize a0 + sumBy (fun x => mn x 0) l1 = S at h ⊢
    generalize a0 + sumBy (fun x => mx x 0) l1 = U at h ⊢
    unfold toldOf
    cases hS : inR S <;> cases hU : inR U <;> simp [hS, hU] at h ⊢ <;> omega
end Go.Proofs.Ytdnkbmjlcdddcaa.Q
