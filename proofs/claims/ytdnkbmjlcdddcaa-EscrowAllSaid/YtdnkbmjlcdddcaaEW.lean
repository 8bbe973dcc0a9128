/- A table of its own. No condition beyond the rows' lengths. -/
import Derived.Test.YtdnkbmjlcdddcaaCLc
import Derived.Test.YtdnkbmjlcdddcaaCLp
import Derived.Test.YtdnkbmjlcdddcaaQA
namespace Go.Proofs.Ytdnkbmjlcdddcaa.Q
open Go.RowKit Go.Proofs.YtdnkbmjlcdddcaaW Go.Proofs.YtdnkbmjlcdddcaaW.PrintWords Go.Proofs.YtdnkbmjlcdddcaaW.PrintLast Go.Proofs.YtdnkbmjlcdddcaaW.PrintMore
set_option linter.unusedVariables false
set_option linter.unusedSimpArgs false
def own.T1 : Bool × List (List Nat × List Nat) := (true, [([], []), ([0], [0]), ([1], [1]), ([], []), ([3], [3]), ([4, 2], [4]), ([2, 5], [2, 5]), ([6], [6]), ([7, 5, 0, 1, 2, 3, 4, 5, 6, 7], [7])])
def own.B1 : List Nat := [0, 1, 3, 0, 8, 31, 63, 127, 255]
theorem own.tab1 : rtab .any (opsOf Try.f33 1) = own.T1 := by kernel_rfl
theorem own.bits1 : waitsOk own.T1.2 own.B1 = true := by kernel_rfl
set_option maxRecDepth 100000 in
set_option maxHeartbeats 1600000 in
theorem own_any (A0 : Option Addr) (c0 : Nat) (l0 : List S28) (A1 : Option Addr) (c1 : Nat) (l1 : List S83) (w : World) (hr0 : Kd.C k28 w A0 l0.length l0) (hc0 : l0.length ≤ c0) (hr1 : Kd.C k83 w A1 l1.length l1) (hc1 : l1.length ≤ c1) (hl0 : l0.length < 4398046511104) (hl1 : l1.length < 4398046511104) :
    Calls Try.prog 33 #[.agg #[.slice A0 l0.length c0, .slice A1 l1.length c1]] w fun e w' => ∃ (b : Nat) (v0 v1 : Value), e = .returned (.pointer (some ⟨b, 0, none⟩)) ∧ w.heap.size ≤ b ∧ w'.heap[b]? = some (.cells #[v0, v1] 32 (0, 0)) ∧ Kd.R k28 28 w' w.heap.size (fun _ => True) v0 l0 ∧ Kd.R k83 83 w' w.heap.size (fun _ => True) v1 l1 ∧ Below w.heap.size w w' := by
  have hu32 := Try.underlying32
  have HC0 := Aside0.mk (fun W (hb : Below w.heap.size w W) => clone_Counter.calls A0 c0 l0 l0 W (Kd.C_below hr0 hb) hc0 (by unfold clone_Counter.f; rw [if_pos (by omega)]))
  have HC1 := Aside0.mk (fun W (hb : Below w.heap.size w W) => clone_Pend.calls A1 c1 l1 l1 W (Kd.C_below hr1 hb) hc1 (by unfold clone_Pend.f; rw [if_pos hl1]))
  have HBR := Aside0.mk (Below.refl w.heap.size w)
  clear hr0 hr1 hc0 hc1 hl0 hl1
  go_enter Try.func33, Try.ntmps33
  go_upto_region 1 with (first
    | ((with_reducible refine gate_dst (N := 1) rfl ?_); refine box_event ?hg (N := 1) ?hd (cs := #[.slice A0 l0.length c0, .slice A1 l1.length c1]) (t := 32) ?hr ?_; (case hd => rfl); (case hg => rfl); (case hr => first | (go_simp; done) | (go_simp; rfl)); intro b1 hb1_ w2 hbox hb; have BK1 := Aside0.mk hbox; have HB2 := Aside0.mk (below_step HBR.out hb); clear hbox hb hb1_))
  have HB3 := Aside0.mk (below_drew1 HB2.out)
  have BK3 := Aside0.mk (blk_drew BK1.out)
  clear HB2 BK1
  refine start_ (n := 9) (S := fun w' => w'.cell? ⟨b1, 0, none⟩ = some (.slice A0 l0.length c0) ∧ w'.cell? ⟨b1, 1, none⟩ = some (.slice A1 l1.length c1)) (ds := []) #[false, false, false, false, false, false, false, false, false] (by kernel_rfl) rfl rfl ⟨(blk_cell BK3.out 0).trans rfl, (blk_cell BK3.out 1).trans rfl⟩ (fun hHeld => ?_)
  refine with_tabW own.tab1 own.bits1 (fun HT_ HW_ => ?_)
  generalize w2.drew = w3 at HB3 BK3 hHeld ⊢
  refine pz_ 0 3 HT_ ?_
  refine pz_ 3 6 HT_ ?_
  refine tz_ 1 4 HT_ HW_ hHeld ?_
  refine tz_ 4 7 HT_ HW_ hHeld ?_
  refine oz_ 2 5 HT_ (fun K hK => ?_)
  refine goes_ Try.func57 (by kernel_rfl) rfl #[.slice A0 l0.length c0] (by rfl) rfl rfl ma_ ?_
  refine (HC0.out _ HB3.out).mono ?_
  rintro e w4 ⟨v4, rfl, ho4, hb4⟩
  refine ⟨_, rfl, ?_⟩
  have HO4 := Aside0.mk (Kd.R_lower ho4 HB3.out.size)
  have BK4 := Aside0.mk (blk_below BK3.out hb4)
  have HB4 := Aside0.mk (below_step HB3.out hb4)
  clear ho4 hb4 HB3 BK3 hHeld
  refine hK.out _ _ ⟨(blk_cell BK4.out 0).trans rfl, (blk_cell BK4.out 1).trans rfl⟩ (fun hHeld => ?_)
  clear hK K
  refine norm_ (a' := ?_) ?_ ?_
  rotate_left
  · show Act.put _ (some 5) _ = _
    simp only [Act.put, List.setIfInBounds_toArray, List.set_cons_zero, List.set_cons_succ, i64_w, i32_w]
    rfl
  refine oz_ 5 8 HT_ (fun K hK => ?_)
  refine goes_ Try.func42 (by kernel_rfl) rfl #[.slice A1 l1.length c1] (by rfl) rfl rfl ma_ ?_
  refine (HC1.out _ HB4.out).mono ?_
  rintro e w5 ⟨v5, rfl, ho5, hb5⟩
  refine ⟨_, rfl, ?_⟩
  have HO5 := Aside0.mk (Kd.R_lower ho5 HB4.out.size)
  have HO45 := Aside0.mk (Kd.R_below HO4.out hb5)
  have BK5 := Aside0.mk (blk_below BK4.out hb5)
  have HB5 := Aside0.mk (below_step HB4.out hb5)
  clear ho5 hb5 HB4 BK4 hHeld HO4
  refine hK.out _ _ ⟨(blk_cell BK5.out 0).trans rfl, (blk_cell BK5.out 1).trans rfl⟩ (fun hHeld => ?_)
  clear hK K
  refine norm_ (a' := ?_) ?_ ?_
  rotate_left
  · show Act.put _ (some 8) _ = _
    simp only [Act.put, List.setIfInBounds_toArray, List.set_cons_zero, List.set_cons_succ, i64_w, i32_w]
    rfl
  obtain ⟨X4, d4, rfl⟩ := Kd.R_slice HO45.out
  obtain ⟨X5, d5, rfl⟩ := Kd.R_slice HO5.out
  refine pz_ 6 9 HT_ ?_
  refine oz_ 7 10 HT_ (fun K hK => ?_)
  refine box_step ?hw (N := 10) ?hd (cs := #[.slice X4 l0.length d4, .slice X5 l1.length d5]) (t := 32) ?hr ?_
  case hd => rfl
  case hw => rfl
  case hr => first | (go_simp; done) | (go_simp; rfl)
  intro b6 hb6 w6 hbox hb
  have BK6 := Aside0.mk hbox
  have HO4 := Aside0.mk (Kd.R_below HO45.out hb)
  have HO6 := Aside0.mk (Kd.R_below HO5.out hb)
  have HB6 := Aside0.mk (below_step HB5.out hb)
  have HG6 := Aside0.mk (show w.heap.size ≤ b6 by rw [hb6]; exact HB5.out.size)
  have BK16 := Aside0.mk (blk_below BK5.out hb)
  clear hbox hb hb6 HO45 HO5 HB5 BK5
  refine hK.out _ _ ⟨(blk_cell BK16.out 0).trans rfl, (blk_cell BK16.out 1).trans rfl⟩ (fun hHeld => ?_)
  clear hK K
  refine norm_ (a' := ?_) ?_ ?_
  rotate_left
  · show Act.put _ (some 10) _ = _
    simp only [Act.put, List.setIfInBounds_toArray, List.set_cons_zero, List.set_cons_succ, i64_w, i32_w]
    rfl
  refine pz_ 8 2 HT_ ?_
  refine done_ (done_of HT_.out (by kernel_rfl)) ?_
  go_wp2
  go_ret
  exact ⟨b6, _, _, rfl, HG6.out, BK6.out, HO4.out, HO6.out, HB6.out⟩
end Go.Proofs.Ytdnkbmjlcdddcaa.Q
