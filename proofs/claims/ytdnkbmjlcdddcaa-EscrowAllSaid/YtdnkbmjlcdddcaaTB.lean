-- Written by hprint.py (the kit's printer, with functions that are given). Lean checks it.
import Derived.Test.YtdnkbmjlcdddcaaTD
import Derived.Test.YtdnkbmjlcdddcaaTK
import Derived.Test.YtdnkbmjlcdddcaaQ0
import Derived.Test.YtdnkbmjlcdddcaaQA
namespace Go.Proofs.Ytdnkbmjlcdddcaa.Q
open Go.RowKit Go.Proofs.YtdnkbmjlcdddcaaW.PrintWords Go.Proofs.YtdnkbmjlcdddcaaW.PrintLast Go.Proofs.YtdnkbmjlcdddcaaW.PrintMore
attribute [local go_sem] max2_int min2_int max_two min_two max_three min_three max_four min_four   -- for this text's walks alone
set_option linter.unusedVariables false
set_option linter.unusedSimpArgs false

/-! ### tree_Tree_is: function 28 -/
def tree_Tree_is.f (l0_0 : List (S74)) (a0_1 : Int) (a1 : Int) : Option (Bool) := if a1 ≥ 0 then (some (decide (a1 < (l0_0.length : Int)))) else (some false)
set_option maxHeartbeats 8000000 in
set_option maxRecDepth 100000 in
theorem tree_Tree_is.calls (A0_0 : Option Addr) (c0_0 : Nat) (l0_0 : List (S74)) (a0_1 : Int) (a1 : Int) (r : Bool) (w : World) (hr0_0 : Kd.C k74 w A0_0 l0_0.length l0_0) (hc0_0 : l0_0.length ≤ c0_0) (h : tree_Tree_is.f l0_0 a0_1 a1 = some r) :
    Calls Try.prog 28 #[.agg #[.slice A0_0 l0_0.length c0_0, .int .i64 a0_1], .int .i64 a1] w fun e w' => e = .returned (.bool r) ∧ Below w.heap.size w w' := by
  have hu26 := Try.underlying26; have HR0_0 := am_ hr0_0; have HC0_0 := am_ hc0_0; clear hr0_0 hc0_0; have HB := am_ (Below.refl w.heap.size w); have H : (if a1 ≥ 0 then (some (decide (a1 < (l0_0.length : Int)))) else (some false)) = some r := h; clear h
  by_cases c3 : a1 ≥ 0
  · rw [if_pos c3] at H
    have c3b0 : decide (0 ≤ a1) = true := decide_eq_true c3; clear c3; obtain rfl := Option.some.inj H
    go_enter Try.func28, Try.ntmps28
    go_wp2_with (first | ((with_reducible refine gate_dst (N := 2) rfl ?_); (try (refine gate_guard (by rfl) ?_; dsimp only)); refine box_event ?hg (N := 2) ?hd (cs := #[.slice A0_0 l0_0.length c0_0, .int .i64 a0_1]) (t := 26) ?hr ?_; (case hd => rfl); (case hg => rfl); (case hr => first | (go_simp; done) | (go_simp; rfl)); intro gb101 hg w4 hbox hb; have n0_ := am_ (below_step (be_ HB.out) hb); have n1_ := am_ (hbox); have n2_ := am_ ((by rw [hg]; exact (below_size (be_ HB.out)) : w.heap.size ≤ gb101)); have n3_ := am_ ((by rw [hg]; exact (below_size (be_ HB.out)) : w.heap.size ≤ gb101)); clear HB; have HB := n0_; have BK101 := n1_; have GW101 := n2_; have GE101 := n3_; clear n0_ n1_ n2_ n3_; clear hb hbox hg; have hcz5_0 : w4.cell? ⟨gb101, 0, none⟩ = some (.slice A0_0 l0_0.length c0_0) := (blk_cell BK101.out 0).trans rfl; have hcz5_1 : w4.cell? ⟨gb101, 1, none⟩ = some (.int .i64 a0_1) := (blk_cell BK101.out 1).trans rfl; have hfz5_0 := blk_frozen BK101.out 0; have hfz5_1 := blk_frozen BK101.out 1))
    go_ret
    exact ⟨by first | rfl | (simp [errW_none, errW_some] <;> rfl) | (simp [*, errW_none, errW_some] <;> rfl), be_ HB.out⟩
  · rw [if_neg c3] at H
    have c3b0 : decide (0 ≤ a1) = false := decide_eq_false c3; clear c3; obtain rfl := Option.some.inj H
    go_enter Try.func28, Try.ntmps28
    go_wp2_with (first | ((with_reducible refine gate_dst (N := 2) rfl ?_); (try (refine gate_guard (by rfl) ?_; dsimp only)); refine box_event ?hg (N := 2) ?hd (cs := #[.slice A0_0 l0_0.length c0_0, .int .i64 a0_1]) (t := 26) ?hr ?_; (case hd => rfl); (case hg => rfl); (case hr => first | (go_simp; done) | (go_simp; rfl)); intro gb101 hg w6 hbox hb; have n0_ := am_ (below_step (be_ HB.out) hb); have n1_ := am_ (hbox); have n2_ := am_ ((by rw [hg]; exact (below_size (be_ HB.out)) : w.heap.size ≤ gb101)); have n3_ := am_ ((by rw [hg]; exact (below_size (be_ HB.out)) : w.heap.size ≤ gb101)); clear HB; have HB := n0_; have BK101 := n1_; have GW101 := n2_; have GE101 := n3_; clear n0_ n1_ n2_ n3_; clear hb hbox hg))
    go_ret
    exact ⟨by first | rfl | (simp [errW_none, errW_some] <;> rfl) | (simp [*, errW_none, errW_some] <;> rfl), be_ HB.out⟩

-- GIVEN: function 29 (tree_Deep)

-- GIVEN: function 55 (tree_Tx)

/-! ### tree_Tree_tick: function 30 -/
def tree_Tree_tick.f (l0_0 : List (S74)) (a0_1 : Int) : Option ((List (S74)) × Int) := (tree_Tx.f l0_0).bind fun t104 => (some (t104, wrap64 (a0_1 + 1)))
def tree_Tree_tick.T1 : Bool × List (List Nat × List Nat) := (true, [([], []), ([0], [0]), ([1], [1]), ([], []), ([3], [3]), ([4], [4]), ([2, 5], [2, 5]), ([6, 2, 0, 1, 2, 3, 4, 5, 6], [6])])
def tree_Tree_tick.B1 : List Nat := [0, 1, 3, 0, 8, 24, 63, 127]
theorem tree_Tree_tick.tab1 : rtab .any (opsOf Try.f30 1) = tree_Tree_tick.T1 := by kernel_rfl
theorem tree_Tree_tick.bits1 : waitsOk tree_Tree_tick.T1.2 tree_Tree_tick.B1 = true := by kernel_rfl
set_option maxHeartbeats 8000000 in
set_option maxRecDepth 100000 in
theorem tree_Tree_tick.calls (A0_0 : Option Addr) (c0_0 : Nat) (l0_0 : List (S74)) (a0_1 : Int) (r1 : List (S74)) (r2 : Int) (w : World) (hr0_0 : Kd.C k74 w A0_0 l0_0.length l0_0) (hc0_0 : l0_0.length ≤ c0_0) (h : tree_Tree_tick.f l0_0 a0_1 = some (r1, r2)) :
    Calls Try.prog 30 #[.agg #[.slice A0_0 l0_0.length c0_0, .int .i64 a0_1]] w fun e w' => ∃ v0_ : Value, e = .returned (.agg #[v0_, .int .i64 r2]) ∧ Kd.R k74 74 w' w.heap.size (fun _ => True) v0_ r1 ∧ Below w.heap.size w w' := by
  have hu26 := Try.underlying26; have HR0_0 := am_ hr0_0; have HC0_0 := am_ hc0_0; clear hr0_0 hc0_0; have HB := am_ (Below.refl w.heap.size w); have H : ((tree_Tx.f l0_0).bind fun t104 => (some (t104, wrap64 (a0_1 + 1)))) = some (r1, r2) := h; clear h; replace H := Option.bind_eq_some_iff.mp H; obtain ⟨t104, A20, H⟩ := H; replace H : (some (t104, wrap64 (a0_1 + 1))) = some (r1, r2) := H; have A2 := am_ A20; clear A20; simp only [Option.some.injEq, Prod.mk.injEq] at H; obtain ⟨rfl, rfl⟩ := H
  go_enter Try.func30, Try.ntmps30
  try go_wp2_with (first | ((with_reducible refine gate_dst (N := 1) rfl ?_); refine box_event ?hg (N := 1) ?hd (cs := #[.slice A0_0 l0_0.length c0_0, .int .i64 a0_1]) (t := 26) ?hr ?_; (case hd => rfl); (case hg => rfl); (case hr => first | (go_simp; done) | (go_simp; rfl)); intro gb102 hg w3 hbox hb; have n0_ := am_ (below_step (be_ HB.out) hb); have n1_ := am_ (hbox); have n2_ := am_ ((by rw [hg]; exact (below_size (be_ HB.out)) : w.heap.size ≤ gb102)); have n3_ := am_ ((by rw [hg]; exact (below_size (be_ HB.out)) : w.heap.size ≤ gb102)); clear HB; have HB := n0_; have BK102 := n1_; have GW102 := n2_; have GE102 := n3_; clear n0_ n1_ n2_ n3_; clear hb hbox hg) | ((with_reducible refine gate_dst (N := 2) rfl ?_); refine box_event ?hg (N := 2) ?hd (cs := #[.slice none 0 0, .int .i64 0]) (t := 26) ?hr ?_; (case hd => rfl); (case hg => rfl); (case hr => first | (go_simp; done) | (go_simp; rfl)); intro gb103 hg w4 hbox hb; have n0_ := am_ (bb_ BK102.out hb); have n1_ := am_ (below_step (be_ HB.out) hb); have n2_ := am_ (hbox); have n3_ := am_ ((by rw [hg]; exact (below_size (be_ HB.out)) : w.heap.size ≤ gb103)); have n4_ := am_ ((by rw [hg]; exact (below_size (be_ HB.out)) : w.heap.size ≤ gb103)); have n5_ := am_ ((by rw [hg]; exact Nat.ne_of_lt (bl_ BK102.out) : gb102 ≠ gb103)); have n6_ := am_ ((by rw [hg]; exact Nat.ne_of_gt (bl_ BK102.out) : gb103 ≠ gb102)); clear BK102; clear HB; have BK102 := n0_; have HB := n1_; have BK103 := n2_; have GW103 := n3_; have GE103 := n4_; have NB102_103 := n5_; have NB103_102 := n6_; clear n0_ n1_ n2_ n3_ n4_ n5_ n6_; clear hb hbox hg))
  have n0_ := am_ (blk_drew BK102.out); have n1_ := am_ (blk_drew BK103.out); have n2_ := am_ (below_drew1 HB.out); clear BK102; clear BK103; clear HB; have BK102 := n0_; have BK103 := n1_; have HB := n2_; clear n0_ n1_ n2_; refine start_ (n := 8) (S := fun w' => w'.cell? ⟨gb102, 0, none⟩ = some (.slice A0_0 l0_0.length c0_0) ∧ w'.cell? ⟨gb102, 1, none⟩ = some (.int .i64 a0_1)) (ds := []) #[false, false, false, false, false, false, false, false] (by kernel_rfl) rfl rfl ⟨(blk_cell BK102.out 0).trans rfl, (blk_cell BK102.out 1).trans rfl⟩ (fun hHeld => ?_); refine with_tabW tree_Tree_tick.tab1 tree_Tree_tick.bits1 (fun HT_ HW_ => ?_); generalize w4.drew = w5 at BK102 BK103 HB hHeld ⊢; refine pz_ 0 3 HT_ ?_; refine pz_ 3 6 HT_ ?_; refine tz_ 1 4 HT_ HW_ hHeld ?_; refine tz_ 4 7 HT_ HW_ hHeld ?_; refine pz_ 5 8 HT_ ?_; refine oz_ 2 5 HT_ (fun K hK => ?_); refine goes_ Try.func55 (by kernel_rfl) rfl #[.slice A0_0 l0_0.length c0_0] (by rfl) rfl rfl ma_ ?_
  with_reducible refine (tree_Tx.calls _ _ l0_0 t104 _ ?side1 ?side2 A2.out).mono ?_
  (case side1 => exact ks_ (Kd.C_below HR0_0.out HB.out))
  (case side2 => exact HC0_0.out)
  rintro e w6 ⟨v105, rfl, ho0, hb⟩; refine ⟨_, rfl, ?_⟩; have n0_ := am_ (Kd.R_lower ho0 (below_size (be_ HB.out))); have n1_ := am_ (bb_ BK102.out hb); have n2_ := am_ (bb_ BK103.out hb); have n3_ := am_ (below_step (be_ HB.out) hb); clear BK102; clear BK103; clear HB; have HO106 := n0_; have BK102 := n1_; have BK103 := n2_; have HB := n3_; clear n0_ n1_ n2_ n3_; (try clear hb); (try clear hb2); (try clear hk); (try clear hi); (try clear ho0); obtain ⟨Ao7, co7, eo7⟩ := Kd.R_slice HO106.out
  (first | subst eo7 | (injection eo7 with f1_ f2_ f3_; have f4_ := f1_.symm; have f5_ := f3_.symm; clear f1_ f2_ f3_; subst f4_; subst f5_))
  refine hK.out _ _ ⟨(blk_cell BK102.out 0).trans rfl, (blk_cell BK102.out 1).trans rfl⟩ (fun hHeld => ?_); clear hK K; refine norm_ (a' := ?_) ?_ ?_; rotate_left
  · show Act.put _ (some 5) _ = _
    simp only [Act.put, List.setIfInBounds_toArray, List.set_cons_zero, List.set_cons_succ, i64_w, i32_w]
    rfl
  refine pz_ 6 9 HT_ ?_; refine one_ (i := 7) (N := none) #[true, true, true, true, true, true, true, true] rfl rfl (one_of HT_.out (by kernel_rfl)) (by decide) (fun K hK => ?_); have hs8 : w6.cell? ⟨gb103, 0, none⟩ = some (.slice none 0 0) := (blk_cell BK103.out 0).trans rfl; have hfs8 := blk_frozen BK103.out 0; have hns8_0 := NB102_103.out; have hms8_0 := NB103_102.out; have hs9 : w6.cell? ⟨gb103, 1, none⟩ = some (.int .i64 0) := (blk_cell BK103.out 1).trans rfl; have hfs9 := blk_frozen BK103.out 1; have hns9_0 := NB102_103.out; have hms9_0 := NB103_102.out; refine skip_ (w1 := ?_) (by rfl) rfl ?_ ?_; rotate_left
  · go_simp
    rfl
  refine hK.out _ _ ⟨((cell_far (p := ⟨gb103, _, none⟩) NB102_103.out _).trans (((cell_far (p := ⟨gb103, _, none⟩) NB102_103.out _).trans (hHeld.1)))), ((cell_far (p := ⟨gb103, _, none⟩) NB102_103.out _).trans (((cell_far (p := ⟨gb103, _, none⟩) NB102_103.out _).trans (hHeld.2))))⟩ (fun hHeld => ?_); clear hK K; refine done_ (done_of HT_.out (by kernel_rfl)) ?_
  try go_wp2
  refine bodyPost_ret (results_cell_row rfl _ _ gb103 26 #[.slice Ao7 t104.length co7, .int .i64 (wrap64 (a0_1 + 1))] (0, 0) _ rfl (by (with_reducible repeat (first | refine blk_drewN ?_ _ | refine blk_drew ?_ | refine blk_alloc ?_ _)); refine blk_put (cs := #[.slice Ao7 t104.length co7, .int .i64 0]) ?_ 1 _ rfl; (with_reducible repeat (first | refine blk_drewN ?_ _ | refine blk_drew ?_ | refine blk_alloc ?_ _)); refine blk_put (cs := #[.slice none 0 0, .int .i64 0]) ?_ 0 _ rfl; (with_reducible repeat (first | refine blk_drewN ?_ _ | refine blk_drew ?_ | refine blk_alloc ?_ _)); exact BK103.out) Try.underlying26 rfl (by kernel_rfl)) rfl ?_
  exact ⟨_, by first | rfl | (simp [errW_none, errW_some] <;> rfl) | (simp [*, errW_none, errW_some] <;> rfl), by (with_reducible repeat (first | apply Kd.R_alloc | apply Kd.R_drewN | apply Kd.R_drew)); exact Kd.R_mono (Kd.R_far (p := ⟨gb103, 1, none⟩) (Kd.R_far (p := ⟨gb103, 0, none⟩) (Kd.R_types HO106.out BK103.out (by decide)) (fun _ hk => hk.2) (.slice Ao7 t104.length co7)) (fun _ hk => hk.2) (.int .i64 (wrap64 (a0_1 + 1)))) (fun _ hk => trivial), be_ HB.out⟩

/-! ### tree_Begin: function 7 -/
mutual
def tree_Begin.j0 : Nat → Int → Bool → Bool → List (S74) → Int → Option ((List (S74)) × Int × Int × Int)
  | 0, _, _, _, _, _ => none
  | k + 1, x1, x7, x10, x108000, x108001 => if x10 = true then (some (([] : List (S74)), 0, 0, 6)) else (if x7 = true then (if 0 ≤ x1 then (if x1 < (x108000.length : Int) then (tree_Begin.j1 k x1 x7 (((rd_T74 x108000 x1).f1) != 1) x108000 x108001) else (none)) else (none)) else (tree_Begin.j1 k x1 x7 false x108000 x108001))
def tree_Begin.j1 : Nat → Int → Bool → Bool → List (S74) → Int → Option ((List (S74)) × Int × Int × Int)
  | 0, _, _, _, _, _ => none
  | k + 1, x1, x7, x19, x108000, x108001 => if x19 = true then (some (([] : List (S74)), 0, 0, 7)) else (if (x108000.length : Int) ≥ 64 then (some (([] : List (S74)), 0, 0, 13)) else (if x7 = true then ((tree_Deep.f x108000 x108001 x1).bind fun t111 => (if t111 ≥ 8 then (some (([] : List (S74)), 0, 0, 13)) else ((tree_Tree_tick.f x108000 x108001).bind fun bt112 => (if bt112.1.length < 4398046511104 then ((some (bt112.1 ++ [(⟨x1, 1, bt112.2, 0⟩ : S74)] : List (S74))).bind fun y116 => (some (y116, bt112.2, wrap64 ((y116.length : Int) - 1), 0))) else (none))))) else ((tree_Tree_tick.f x108000 x108001).bind fun bt119 => (if bt119.1.length < 4398046511104 then ((some (bt119.1 ++ [(⟨x1, 1, bt119.2, 0⟩ : S74)] : List (S74))).bind fun y123 => (some (y123, bt119.2, wrap64 ((y123.length : Int) - 1), 0))) else (none)))))
end
def tree_Begin.f (k : Nat) (l0_0 : List (S74)) (a0_1 : Int) (a1 : Int) : Option ((List (S74)) × Int × Int × Int) := if a1 = (-1) then (tree_Begin.j0 k a1 (a1 != (-1)) false l0_0 a0_1) else ((tree_Tree_is.f l0_0 a0_1 a1).bind fun t109 => (tree_Begin.j0 k a1 (a1 != (-1)) (!t109) l0_0 a0_1))
theorem tree_Begin.mono_l : ∀ k, (∀ y0 y1 y2 y3 y4, LeO (tree_Begin.j0 k y0 y1 y2 y3 y4) (tree_Begin.j0 (k + 1) y0 y1 y2 y3 y4)) ∧ (∀ y0 y1 y2 y3 y4, LeO (tree_Begin.j1 k y0 y1 y2 y3 y4) (tree_Begin.j1 (k + 1) y0 y1 y2 y3 y4))
  | 0 => ⟨fun _ _ _ _ _ r h => by simp [tree_Begin.j0] at h, fun _ _ _ _ _ r h => by simp [tree_Begin.j1] at h⟩
  | k + 1 => by
    obtain ⟨ih0, ih1⟩ := tree_Begin.mono_l k; refine ⟨?_, ?_⟩
    · intro y0 y1 y2 y3 y4
      unfold tree_Begin.j0
      repeat' first
      | (with_reducible exact ih0 _ _ _ _ _)
      | (with_reducible exact ih1 _ _ _ _ _)
      | (with_reducible exact LeO.refl _)
      | (with_reducible exact LeO.none _)
      | (with_reducible refine LeO.ite ?_ ?_)
      | (with_reducible refine LeO.bind ?_ (fun _ => ?_))
      | exact ih0 _ _ _ _ _
      | exact ih1 _ _ _ _ _
      | exact LeO.none _
      | refine LeO.ite ?_ ?_
      | refine LeO.bind ?_ (fun _ => ?_)
    · intro y0 y1 y2 y3 y4
      unfold tree_Begin.j1
      repeat' first
      | (with_reducible exact ih0 _ _ _ _ _)
      | (with_reducible exact ih1 _ _ _ _ _)
      | (with_reducible exact LeO.refl _)
      | (with_reducible exact LeO.none _)
      | (with_reducible refine LeO.ite ?_ ?_)
      | (with_reducible refine LeO.bind ?_ (fun _ => ?_))
      | exact ih0 _ _ _ _ _
      | exact ih1 _ _ _ _ _
      | exact LeO.none _
      | refine LeO.ite ?_ ?_
      | refine LeO.bind ?_ (fun _ => ?_)
theorem tree_Begin.mono : ∀ a0 a1 a2 k, LeO (tree_Begin.f k a0 a1 a2) (tree_Begin.f (k + 1) a0 a1 a2) := by
  intro a0 a1 a2 k
  obtain ⟨ih0, ih1⟩ := tree_Begin.mono_l k
  unfold tree_Begin.f
  repeat' first
      | (with_reducible exact ih0 _ _ _ _ _)
      | (with_reducible exact ih1 _ _ _ _ _)
      | (with_reducible exact LeO.refl _)
      | (with_reducible exact LeO.none _)
      | (with_reducible refine LeO.ite ?_ ?_)
      | (with_reducible refine LeO.bind ?_ (fun _ => ?_))
      | exact ih0 _ _ _ _ _
      | exact ih1 _ _ _ _ _
      | exact LeO.none _
      | refine LeO.ite ?_ ?_
      | refine LeO.bind ?_ (fun _ => ?_)
def tree_Begin.T10 : Bool × List (List Nat × List Nat) := (true, [([], []), ([], []), ([1], [1]), ([2], [2]), ([3], [3]), ([0, 0], [0]), ([4, 5, 0, 1, 2, 3, 4, 5], [4]), ([6, 0, 1, 2, 3, 4, 5, 6], [])])
def tree_Begin.B10 : List Nat := [0, 0, 2, 6, 14, 1, 63, 127]
theorem tree_Begin.tab10 : rtab .any (opsOf Try.f7 10) = tree_Begin.T10 := by kernel_rfl
theorem tree_Begin.bits10 : waitsOk tree_Begin.T10.2 tree_Begin.B10 = true := by kernel_rfl
set_option maxHeartbeats 8000000 in
set_option maxRecDepth 100000 in
theorem tree_Begin.calls (k : Nat) (A0_0 : Option Addr) (c0_0 : Nat) (l0_0 : List (S74)) (a0_1 : Int) (a1 : Int) (r1 : List (S74)) (r2 : Int) (r3 : Int) (r4 : Int) (w : World) (hr0_0 : Kd.C k74 w A0_0 l0_0.length l0_0) (hc0_0 : l0_0.length ≤ c0_0) (h : tree_Begin.f k l0_0 a0_1 a1 = some (r1, r2, r3, r4)) :
    Calls Try.prog 7 #[.agg #[.slice A0_0 l0_0.length c0_0, .int .i64 a0_1], .int .i64 a1] w fun e w' => ∃ v0_ : Value, e = .returned (.tuple #[.agg #[v0_, .int .i64 r2], .int .i64 r3, .int .i64 r4]) ∧ Kd.R k74 74 w' w.heap.size (fun _ => True) v0_ r1 ∧ Below w.heap.size w w' := by
  have hu26 := Try.underlying26; have hu74 := Try.underlying74; have HR0_0 := am_ hr0_0; have HC0_0 := am_ hc0_0; clear hr0_0 hc0_0; have HB := am_ (Below.refl w.heap.size w); have H : (if a1 = (-1) then (tree_Begin.j0 k a1 (a1 != (-1)) false l0_0 a0_1) else ((tree_Tree_is.f l0_0 a0_1 a1).bind fun t109 => (tree_Begin.j0 k a1 (a1 != (-1)) (!t109) l0_0 a0_1))) = some (r1, r2, r3, r4) := h; clear h; have HC3 := am_ H; clear H
  go_enter Try.func7, Try.ntmps7
  go_upto_region 2 with (first | ((with_reducible refine gate_dst (N := 2) rfl ?_); refine box_event ?hg (N := 2) ?hd (cs := #[.slice A0_0 l0_0.length c0_0, .int .i64 a0_1]) (t := 26) ?hr ?_; (case hd => rfl); (case hg => rfl); (case hr => first | (go_simp; done) | (go_simp; rfl)); intro gb107 hg w4 hbox hb; have n0_ := am_ (below_step (be_ HB.out) hb); have n1_ := am_ (hbox); have n2_ := am_ ((by rw [hg]; exact (below_size (be_ HB.out)) : w.heap.size ≤ gb107)); have n3_ := am_ ((by rw [hg]; exact (below_size (be_ HB.out)) : w.heap.size ≤ gb107)); clear HB; have HB := n0_; have BK107 := n1_; have GW107 := n2_; have GE107 := n3_; clear n0_ n1_ n2_ n3_; clear hb hbox hg) | ((with_reducible refine gate_dst (N := 4) rfl ?_); refine box_event ?hg (N := 4) ?hd (cs := #[.slice none 0 0, .int .i64 0]) (t := 26) ?hr ?_; (case hd => rfl); (case hg => rfl); (case hr => first | (go_simp; done) | (go_simp; rfl)); intro gb108 hg w5 hbox hb; have n0_ := am_ (bb_ BK107.out hb); have n1_ := am_ (below_step (be_ HB.out) hb); have n2_ := am_ (hbox); have n3_ := am_ ((by rw [hg]; exact (below_size (be_ HB.out)) : w.heap.size ≤ gb108)); have n4_ := am_ ((by rw [hg]; exact (below_size (be_ HB.out)) : w.heap.size ≤ gb108)); have n5_ := am_ ((by rw [hg]; exact Nat.ne_of_lt (bl_ BK107.out) : gb107 ≠ gb108)); have n6_ := am_ ((by rw [hg]; exact Nat.ne_of_gt (bl_ BK107.out) : gb108 ≠ gb107)); clear BK107; clear HB; have BK107 := n0_; have HB := n1_; have BK108 := n2_; have GW108 := n3_; have GE108 := n4_; have NB107_108 := n5_; have NB108_107 := n6_; clear n0_ n1_ n2_ n3_ n4_ n5_ n6_; clear hb hbox hg))
  (try simp only [Act.put, List.setIfInBounds_toArray, List.set_cons_zero, List.set_cons_succ])
  go_cut [7, 10] (fun v7 v10 wc => ∃ (kq : Nat) (x7 x10_2 : Bool), v7 = .bool x7 ∧ Aside0 (x7 = (a1 != (-1))) ∧ v10 = .bool x10_2 ∧ Aside0 (tree_Begin.j0 kq a1 (a1 != (-1)) x10_2 l0_0 a0_1 = some (r1, r2, r3, r4)) ∧ Aside0 (kq ≤ k) ∧ Aside0 (wc.heap[gb107]? = some (.cells #[(.slice A0_0 l0_0.length c0_0), .int .i64 a0_1] 26 (0, 0))) ∧ Aside0 (wc.heap[gb108]? = some (.cells #[(.slice none 0 0), .int .i64 0] 26 (0, 0))) ∧ Aside0 (Below w.heap.size w wc))
  case first =>
    have H := HC3.out; clear HC3
    by_cases c6 : a1 = (-1)
    · rw [if_pos c6] at H
      have c6b0 : (a1 == (-1)) = true := beq_iff_eq.mpr c6; have c6b1 : (a1 != (-1)) = false := bne_eq_false_iff_eq.mpr c6; clear c6
      (first | rw [c6b0] | (simp only [i64_w, i32_w]; rw [c6b0]) | skip)
      have H' := am_ H; clear H
      go_wp2
      go_meet
      case rel => exact ⟨_, _, (false), rfl, ⟨by first | exact c6b1.symm | rfl⟩, (by first | rfl | (simp; done) | (simp [*]; done)), H', ⟨by first | omega | exact Nat.le_refl _⟩, ⟨bk_ BK107.out⟩, ⟨bk_ BK108.out⟩, ⟨be_ HB.out⟩⟩
    · rw [if_neg c6] at H
      have c6b0 : (a1 == (-1)) = false := beq_eq_false_iff_ne.mpr c6; have c6b1 : (a1 != (-1)) = true := bne_iff_ne.mpr c6
      (first | rw [c6b0] | (simp only [i64_w, i32_w]; rw [c6b0]) | skip)
      replace H := Option.bind_eq_some_iff.mp H; obtain ⟨t109, A70, H⟩ := H; replace H : (tree_Begin.j0 k a1 (a1 != (-1)) (!t109) l0_0 a0_1) = some (r1, r2, r3, r4) := H; have A7 := am_ A70; clear A70; have H' := am_ H; clear H; have hnb8 := NB107_108.out; have hnc8 := NB108_107.out; have hcz9_0 : w5.cell? ⟨gb107, 0, none⟩ = some (.slice A0_0 l0_0.length c0_0) := (blk_cell BK107.out 0).trans rfl; have hcz9_1 : w5.cell? ⟨gb107, 1, none⟩ = some (.int .i64 a0_1) := (blk_cell BK107.out 1).trans rfl; have hfz9_0 := blk_frozen BK107.out 0; have hfz9_1 := blk_frozen BK107.out 1
      go_wp2_with (first | (go_at_call 28; (with_reducible refine (tree_Tree_is.calls _ _ l0_0 a0_1 a1 t109 _ ?side1 ?side2 A7.out).mono ?_); (case side1 => exact ks_ (Kd.C_below HR0_0.out HB.out)); (case side2 => exact HC0_0.out); rintro e w10 ⟨rfl, hb⟩; have n0_ := am_ (bb_ BK107.out hb); have n1_ := am_ (bb_ BK108.out hb); have n2_ := am_ (below_step (be_ HB.out) hb); clear BK107; clear BK108; clear HB; have BK107 := n0_; have BK108 := n1_; have HB := n2_; clear n0_ n1_ n2_; (try clear hb); (try clear hb2); (try clear hk); (try clear hi)))
      go_meet
      case rel => exact ⟨_, _, (!t109), rfl, ⟨by first | exact c6b1.symm | rfl⟩, (by first | rfl | (simp; done) | (simp [*]; done)), H', ⟨by first | omega | exact Nat.le_refl _⟩, ⟨bk_ BK107.out⟩, ⟨bk_ BK108.out⟩, ⟨be_ HB.out⟩⟩
  case rest =>
    clear HC3
    try clear p2
    try clear c6
    try clear c6b0
    try clear c6b1
    try clear c7
    try clear c8
    try clear hcz9_0
    try clear hcz9_1
    try clear hfz9_0
    try clear hfz9_1
    obtain ⟨kq, x7, x10_2, rfl, hx7, rfl, HA, HJ2, BK107, BK108, HB⟩ := hcut; replace hx7 := hx7.out; subst hx7; cases kq with
    | zero => exact absurd HA.out (by simp [tree_Begin.j0])
    | succ kj2 =>
      have H := HA.out; clear HA; simp only [tree_Begin.j0] at H
      by_cases c11 : x10_2 = true
      · subst c11
        have H1 : (some (([] : List (S74)), 0, 0, 6)) = some (r1, r2, r3, r4) := by rw [if_pos rfl] at H; exact H
        clear H; have H := H1; clear H1; simp only [Option.some.injEq, Prod.mk.injEq] at H; obtain ⟨rfl, rfl, rfl, rfl⟩ := H; have hnb12 := NB108_107.out; have hnc12 := NB107_108.out; have hcz13_0 : wc.cell? ⟨gb108, 0, none⟩ = some (.slice none 0 0) := (blk_cell BK108.out 0).trans rfl; have hcz13_1 : wc.cell? ⟨gb108, 1, none⟩ = some (.int .i64 0) := (blk_cell BK108.out 1).trans rfl; have hfz13_0 := blk_frozen BK108.out 0; have hfz13_1 := blk_frozen BK108.out 1
        go_wp2
        refine bodyPost_ret (results_ctt rfl _ _ gb108 26 #[.slice none 0 0, .int .i64 0] (0, 0) _ rfl (by (with_reducible repeat (first | refine blk_drewN ?_ _ | refine blk_drew ?_ | refine blk_alloc ?_ _)); refine blk_put (cs := #[.slice none 0 0, .int .i64 0]) ?_ 1 _ rfl; (with_reducible repeat (first | refine blk_drewN ?_ _ | refine blk_drew ?_ | refine blk_alloc ?_ _)); refine blk_put (cs := #[.slice none 0 0, .int .i64 0]) ?_ 0 _ rfl; (with_reducible repeat (first | refine blk_drewN ?_ _ | refine blk_drew ?_ | refine blk_alloc ?_ _)); exact BK108.out) Try.underlying26 rfl (by kernel_rfl)) rfl ?_
        exact ⟨_, by first | rfl | (simp [errW_none, errW_some] <;> rfl) | (simp [*, errW_none, errW_some] <;> rfl), by first | exact Kd.R_nil _ _ _ _ _ | exact Kd.N_nil _ _ _ _ _ | exact Kd.V_nil _ _ _ _ _ | exact Kd.Q_nil _ _ _ _ _ | exact Kd.S_nil _ _ _ _ _, be_ HB.out⟩
      · replace c11 := Bool.eq_false_iff.mpr c11
        subst c11; have H1 : (if (a1 != (-1)) = true then (if 0 ≤ a1 then (if a1 < (l0_0.length : Int) then (tree_Begin.j1 kj2 a1 (a1 != (-1)) (((rd_T74 l0_0 a1).f1) != 1) l0_0 a0_1) else (none)) else (none)) else (tree_Begin.j1 kj2 a1 (a1 != (-1)) false l0_0 a0_1)) = some (r1, r2, r3, r4) := by rw [if_neg (show ¬ (false = true) by decide)] at H; exact H
        clear H; have H := H1; clear H1; have HC14 := am_ H; clear H
        go_upto_region 4 with (fail)
        go_cut [7, 19] (fun v7 v19 wc => ∃ (kq : Nat) (x7 x19_13 : Bool), v7 = .bool x7 ∧ Aside0 (x7 = (a1 != (-1))) ∧ v19 = .bool x19_13 ∧ Aside0 (tree_Begin.j1 kq a1 (a1 != (-1)) x19_13 l0_0 a0_1 = some (r1, r2, r3, r4)) ∧ Aside0 (kq ≤ kj2) ∧ Aside0 (wc.heap[gb107]? = some (.cells #[(.slice A0_0 l0_0.length c0_0), .int .i64 a0_1] 26 (0, 0))) ∧ Aside0 (wc.heap[gb108]? = some (.cells #[(.slice none 0 0), .int .i64 0] 26 (0, 0))) ∧ Aside0 (Below w.heap.size w wc))
        case first =>
          have H := HC14.out; clear HC14
          by_cases c15 : (a1 != (-1)) = true
          · rw [if_pos c15] at H
            have c15b0 : (a1 != (-1)) = true := c15; (try (have c15b1 : decide (a1 = (-1)) = false := by simpa using c15)); (try (have c15b2 : (a1 == (-1)) = false := by simpa using c15)); (try (have c15b3 : ¬ (a1 = (-1)) := by simpa using c15)); clear c15
            (first | rw [c15b0] | (simp only [i64_w, i32_w]; rw [c15b0]) | skip)
            by_cases c16 : 0 ≤ a1
            · rw [if_pos c16] at H
              have c16b0 : decide (0 ≤ a1) = true := decide_eq_true c16; clear c16
              by_cases c17 : a1 < (l0_0.length : Int)
              · rw [if_pos c17] at H
                have c17b0 : decide (a1 < (l0_0.length : Int)) = true := decide_eq_true c17; clear c17; have H' := am_ H; clear H; have hnb18 := NB107_108.out; have hnc18 := NB108_107.out; have hcz19_0 : wc.cell? ⟨gb107, 0, none⟩ = some (.slice A0_0 l0_0.length c0_0) := (blk_cell BK107.out 0).trans rfl; have hcz19_1 : wc.cell? ⟨gb107, 1, none⟩ = some (.int .i64 a0_1) := (blk_cell BK107.out 1).trans rfl; have hfz19_0 := blk_frozen BK107.out 0; have hfz19_1 := blk_frozen BK107.out 1; have p110 : 0 ≤ (a1 : Int) := od_; have q110 : a1 < (l0_0.length : Int) := od_; obtain ⟨ad110, e110, hx110_0, hx110_1, hx110_2, hx110_3⟩ := at_T74 HR0_0.out a1 p110 q110; cases e110; replace hx110_0 := (HB.out.cell (World.block_lt_of_cell? w _ hx110_0)).trans hx110_0; replace hx110_1 := (HB.out.cell (World.block_lt_of_cell? w _ hx110_1)).trans hx110_1; replace hx110_2 := (HB.out.cell (World.block_lt_of_cell? w _ hx110_2)).trans hx110_2; replace hx110_3 := (HB.out.cell (World.block_lt_of_cell? w _ hx110_3)).trans hx110_3; replace p110 := eq_true p110; replace q110 := eq_true q110
                go_wp2
                go_meet
                case rel => exact ⟨_, _, ((((rd_T74 l0_0 a1).f1) != 1)), rfl, ⟨by first | exact c15b0.symm | rfl⟩, (by first | rfl | (simp; done) | (simp [*]; done)), H', ⟨by have := HJ2.out; first | omega | exact Nat.le_refl _⟩, ⟨bk_ BK107.out⟩, ⟨bk_ BK108.out⟩, ⟨be_ HB.out⟩⟩
              · rw [if_neg c17] at H
                exact absurd H (by simp)
            · rw [if_neg c16] at H
              exact absurd H (by simp)
          · rw [if_neg c15] at H
            have c15b0 : (a1 != (-1)) = false := by simpa using c15
            (try (have c15b1 : decide (a1 = (-1)) = true := by simpa using c15)); (try (have c15b2 : (a1 == (-1)) = true := by simpa using c15)); clear c15
            (first | rw [c15b0] | (simp only [i64_w, i32_w]; rw [c15b0]) | skip)
            have H' := am_ H; clear H
            go_wp2
            go_meet
            case rel => exact ⟨_, _, (false), rfl, ⟨by first | exact c15b0.symm | rfl⟩, (by first | rfl | (simp; done) | (simp [*]; done)), H', ⟨by have := HJ2.out; first | omega | exact Nat.le_refl _⟩, ⟨bk_ BK107.out⟩, ⟨bk_ BK108.out⟩, ⟨be_ HB.out⟩⟩
        case rest =>
          clear HC14
          try clear c1
          try clear p1
          try clear q1
          try clear hx1
          try clear p2
          try clear c6
          try clear c6b0
          try clear c6b1
          try clear c7
          try clear c8
          try clear c11
          try clear p11
          try clear q11
          try clear hx11
          try clear c12
          try clear c15
          try clear c15b0
          try clear c15b1
          try clear c15b2
          try clear c16
          try clear c16b0
          try clear c17
          try clear c17b0
          try clear c18
          try clear hcz13_0
          try clear hcz13_1
          try clear hcz19_0
          try clear hcz19_1
          try clear hcz9_0
          try clear hcz9_1
          try clear hfz13_0
          try clear hfz13_1
          try clear hfz19_0
          try clear hfz19_1
          try clear hfz9_0
          try clear hfz9_1
          try clear hx110_0
          try clear hx110_1
          try clear hx110_2
          try clear hx110_3
          try clear p110
          try clear p2
          try clear q110
          obtain ⟨kq, x7, x19_13, rfl, hx7, rfl, HA, HJ13, BK107, BK108, HB⟩ := hcut; replace hx7 := hx7.out; subst hx7; cases kq with
          | zero => exact absurd HA.out (by simp [tree_Begin.j1])
          | succ kj13 =>
            have H := HA.out; clear HA; simp only [tree_Begin.j1] at H
            by_cases c20 : x19_13 = true
            · subst c20
              have H1 : (some (([] : List (S74)), 0, 0, 7)) = some (r1, r2, r3, r4) := by rw [if_pos rfl] at H; exact H
              clear H; have H := H1; clear H1; simp only [Option.some.injEq, Prod.mk.injEq] at H; obtain ⟨rfl, rfl, rfl, rfl⟩ := H; have hnb21 := NB108_107.out; have hnc21 := NB107_108.out; have hcz22_0 : wc.cell? ⟨gb108, 0, none⟩ = some (.slice none 0 0) := (blk_cell BK108.out 0).trans rfl; have hcz22_1 : wc.cell? ⟨gb108, 1, none⟩ = some (.int .i64 0) := (blk_cell BK108.out 1).trans rfl; have hfz22_0 := blk_frozen BK108.out 0; have hfz22_1 := blk_frozen BK108.out 1
              go_wp2
              refine bodyPost_ret (results_ctt rfl _ _ gb108 26 #[.slice none 0 0, .int .i64 0] (0, 0) _ rfl (by (with_reducible repeat (first | refine blk_drewN ?_ _ | refine blk_drew ?_ | refine blk_alloc ?_ _)); refine blk_put (cs := #[.slice none 0 0, .int .i64 0]) ?_ 1 _ rfl; (with_reducible repeat (first | refine blk_drewN ?_ _ | refine blk_drew ?_ | refine blk_alloc ?_ _)); refine blk_put (cs := #[.slice none 0 0, .int .i64 0]) ?_ 0 _ rfl; (with_reducible repeat (first | refine blk_drewN ?_ _ | refine blk_drew ?_ | refine blk_alloc ?_ _)); exact BK108.out) Try.underlying26 rfl (by kernel_rfl)) rfl ?_
              exact ⟨_, by first | rfl | (simp [errW_none, errW_some] <;> rfl) | (simp [*, errW_none, errW_some] <;> rfl), by first | exact Kd.R_nil _ _ _ _ _ | exact Kd.N_nil _ _ _ _ _ | exact Kd.V_nil _ _ _ _ _ | exact Kd.Q_nil _ _ _ _ _ | exact Kd.S_nil _ _ _ _ _, be_ HB.out⟩
            · replace c20 := Bool.eq_false_iff.mpr c20
              subst c20; have H1 : (if (l0_0.length : Int) ≥ 64 then (some (([] : List (S74)), 0, 0, 13)) else (if (a1 != (-1)) = true then ((tree_Deep.f l0_0 a0_1 a1).bind fun t111 => (if t111 ≥ 8 then (some (([] : List (S74)), 0, 0, 13)) else ((tree_Tree_tick.f l0_0 a0_1).bind fun bt112 => (if bt112.1.length < 4398046511104 then ((some (bt112.1 ++ [(⟨a1, 1, bt112.2, 0⟩ : S74)] : List (S74))).bind fun y116 => (some (y116, bt112.2, wrap64 ((y116.length : Int) - 1), 0))) else (none))))) else ((tree_Tree_tick.f l0_0 a0_1).bind fun bt119 => (if bt119.1.length < 4398046511104 then ((some (bt119.1 ++ [(⟨a1, 1, bt119.2, 0⟩ : S74)] : List (S74))).bind fun y123 => (some (y123, bt119.2, wrap64 ((y123.length : Int) - 1), 0))) else (none))))) = some (r1, r2, r3, r4) := by rw [if_neg (show ¬ (false = true) by decide)] at H; exact H
              clear H; have H := H1; clear H1
              by_cases c23 : (l0_0.length : Int) ≥ 64
              · rw [if_pos c23] at H
                have c23b0 : decide (64 ≤ (l0_0.length : Int)) = true := decide_eq_true c23; have c23b1 : decide (64 ≤ l0_0.length) = true := decide_eq_true (by omega); clear c23; simp only [Option.some.injEq, Prod.mk.injEq] at H; obtain ⟨rfl, rfl, rfl, rfl⟩ := H; have hnb24 := NB107_108.out; have hnc24 := NB108_107.out; have hcz25_0 : wc.cell? ⟨gb107, 0, none⟩ = some (.slice A0_0 l0_0.length c0_0) := (blk_cell BK107.out 0).trans rfl; have hcz25_1 : wc.cell? ⟨gb107, 1, none⟩ = some (.int .i64 a0_1) := (blk_cell BK107.out 1).trans rfl; have hfz25_0 := blk_frozen BK107.out 0; have hfz25_1 := blk_frozen BK107.out 1; have hcz26_0 : wc.cell? ⟨gb108, 0, none⟩ = some (.slice none 0 0) := (blk_cell BK108.out 0).trans rfl; have hcz26_1 : wc.cell? ⟨gb108, 1, none⟩ = some (.int .i64 0) := (blk_cell BK108.out 1).trans rfl; have hfz26_0 := blk_frozen BK108.out 0; have hfz26_1 := blk_frozen BK108.out 1
                go_wp2
                refine bodyPost_ret (results_ctt rfl _ _ gb108 26 #[.slice none 0 0, .int .i64 0] (0, 0) _ rfl (by (with_reducible repeat (first | refine blk_drewN ?_ _ | refine blk_drew ?_ | refine blk_alloc ?_ _)); refine blk_put (cs := #[.slice none 0 0, .int .i64 0]) ?_ 1 _ rfl; (with_reducible repeat (first | refine blk_drewN ?_ _ | refine blk_drew ?_ | refine blk_alloc ?_ _)); refine blk_put (cs := #[.slice none 0 0, .int .i64 0]) ?_ 0 _ rfl; (with_reducible repeat (first | refine blk_drewN ?_ _ | refine blk_drew ?_ | refine blk_alloc ?_ _)); exact BK108.out) Try.underlying26 rfl (by kernel_rfl)) rfl ?_
                exact ⟨_, by first | rfl | (simp [errW_none, errW_some] <;> rfl) | (simp [*, errW_none, errW_some] <;> rfl), by first | exact Kd.R_nil _ _ _ _ _ | exact Kd.N_nil _ _ _ _ _ | exact Kd.V_nil _ _ _ _ _ | exact Kd.Q_nil _ _ _ _ _ | exact Kd.S_nil _ _ _ _ _, be_ HB.out⟩
              · rw [if_neg c23] at H
                have c23b0 : decide (64 ≤ (l0_0.length : Int)) = false := decide_eq_false c23; have c23b1 : decide (64 ≤ l0_0.length) = false := decide_eq_false (by omega); clear c23
                by_cases c27 : (a1 != (-1)) = true
                · rw [if_pos c27] at H
                  have c27b0 : (a1 != (-1)) = true := c27; (try (have c27b1 : decide (a1 = (-1)) = false := by simpa using c27)); (try (have c27b2 : (a1 == (-1)) = false := by simpa using c27)); (try (have c27b3 : ¬ (a1 = (-1)) := by simpa using c27)); clear c27; replace H := Option.bind_eq_some_iff.mp H; obtain ⟨t111, A280, H⟩ := H; replace H : (if t111 ≥ 8 then (some (([] : List (S74)), 0, 0, 13)) else ((tree_Tree_tick.f l0_0 a0_1).bind fun bt112 => (if bt112.1.length < 4398046511104 then ((some (bt112.1 ++ [(⟨a1, 1, bt112.2, 0⟩ : S74)] : List (S74))).bind fun y116 => (some (y116, bt112.2, wrap64 ((y116.length : Int) - 1), 0))) else (none)))) = some (r1, r2, r3, r4) := H; have A28 := am_ A280; clear A280
                  by_cases c29 : t111 ≥ 8
                  · rw [if_pos c29] at H
                    have c29b0 : decide (8 ≤ t111) = true := decide_eq_true c29; clear c29; simp only [Option.some.injEq, Prod.mk.injEq] at H; obtain ⟨rfl, rfl, rfl, rfl⟩ := H; have hnb30 := NB107_108.out; have hnc30 := NB108_107.out; have hcz31_0 : wc.cell? ⟨gb107, 0, none⟩ = some (.slice A0_0 l0_0.length c0_0) := (blk_cell BK107.out 0).trans rfl; have hcz31_1 : wc.cell? ⟨gb107, 1, none⟩ = some (.int .i64 a0_1) := (blk_cell BK107.out 1).trans rfl; have hfz31_0 := blk_frozen BK107.out 0; have hfz31_1 := blk_frozen BK107.out 1
                    go_wp2_with (first | (go_at_call 29; (with_reducible refine (tree_Deep.calls _ _ l0_0 a0_1 a1 t111 _ ?side1 ?side2 A28.out).mono ?_); (case side1 => exact ks_ (Kd.C_below HR0_0.out HB.out)); (case side2 => exact HC0_0.out); rintro e w32 ⟨rfl, hb⟩; have n0_ := am_ (bb_ BK107.out hb); have n1_ := am_ (bb_ BK108.out hb); have n2_ := am_ (below_step (be_ HB.out) hb); clear BK107; clear BK108; clear HB; have BK107 := n0_; have BK108 := n1_; have HB := n2_; clear n0_ n1_ n2_; (try clear hb); (try clear hb2); (try clear hk); (try clear hi); have hcz33_0 : w32.cell? ⟨gb108, 0, none⟩ = some (.slice none 0 0) := (blk_cell BK108.out 0).trans rfl; have hcz33_1 : w32.cell? ⟨gb108, 1, none⟩ = some (.int .i64 0) := (blk_cell BK108.out 1).trans rfl; have hfz33_0 := blk_frozen BK108.out 0; have hfz33_1 := blk_frozen BK108.out 1))
                    refine bodyPost_ret (results_ctt rfl _ _ gb108 26 #[.slice none 0 0, .int .i64 0] (0, 0) _ rfl (by (with_reducible repeat (first | refine blk_drewN ?_ _ | refine blk_drew ?_ | refine blk_alloc ?_ _)); refine blk_put (cs := #[.slice none 0 0, .int .i64 0]) ?_ 1 _ rfl; (with_reducible repeat (first | refine blk_drewN ?_ _ | refine blk_drew ?_ | refine blk_alloc ?_ _)); refine blk_put (cs := #[.slice none 0 0, .int .i64 0]) ?_ 0 _ rfl; (with_reducible repeat (first | refine blk_drewN ?_ _ | refine blk_drew ?_ | refine blk_alloc ?_ _)); exact BK108.out) Try.underlying26 rfl (by kernel_rfl)) rfl ?_
                    exact ⟨_, by first | rfl | (simp [errW_none, errW_some] <;> rfl) | (simp [*, errW_none, errW_some] <;> rfl), by first | exact Kd.R_nil _ _ _ _ _ | exact Kd.N_nil _ _ _ _ _ | exact Kd.V_nil _ _ _ _ _ | exact Kd.Q_nil _ _ _ _ _ | exact Kd.S_nil _ _ _ _ _, be_ HB.out⟩
                  · rw [if_neg c29] at H
                    have c29b0 : decide (8 ≤ t111) = false := decide_eq_false c29; clear c29; replace H := Option.bind_eq_some_iff.mp H; obtain ⟨⟨t112, t115⟩, A340, H⟩ := H; replace H : (if t112.length < 4398046511104 then ((some (t112 ++ [(⟨a1, 1, t115, 0⟩ : S74)] : List (S74))).bind fun y116 => (some (y116, t115, wrap64 ((y116.length : Int) - 1), 0))) else (none)) = some (r1, r2, r3, r4) := H; have A34 := am_ A340; clear A340
                    by_cases c35 : t112.length < 4398046511104
                    · rw [if_pos c35] at H
                      have LMc35 := am_ c35; clear c35; obtain ⟨y116, hy116⟩ : ∃ y_ : List (S74), y_ = (t112 ++ [(⟨a1, 1, t115, 0⟩ : S74)]) := ⟨_, rfl⟩; replace H : (some (y116, t115, wrap64 ((y116.length : Int) - 1), 0)) = some (r1, r2, r3, r4) := by first | (rw [hy116]; with_reducible exact H) | (have H2_ := (Option.bind_some _ _).symm.trans H; rw [hy116]; with_reducible exact H2_) | (have H2_ := (Option.bind_some _ _).symm.trans H; with_reducible exact H2_) | with_reducible exact H | (rw [hy116]; exact H) | exact H
                      have Ny116 := am_ hy116; clear hy116; simp only [Option.some.injEq, Prod.mk.injEq] at H; obtain ⟨rfl, rfl, rfl, rfl⟩ := H; have hnb36 := NB107_108.out; have hnc36 := NB108_107.out; have hcz37_0 : wc.cell? ⟨gb107, 0, none⟩ = some (.slice A0_0 l0_0.length c0_0) := (blk_cell BK107.out 0).trans rfl; have hcz37_1 : wc.cell? ⟨gb107, 1, none⟩ = some (.int .i64 a0_1) := (blk_cell BK107.out 1).trans rfl; have hfz37_0 := blk_frozen BK107.out 0; have hfz37_1 := blk_frozen BK107.out 1
                      try go_wp2_with (first | (go_at_call 29; (with_reducible refine (tree_Deep.calls _ _ l0_0 a0_1 a1 t111 _ ?side1 ?side2 A28.out).mono ?_); (case side1 => exact ks_ (Kd.C_below HR0_0.out HB.out)); (case side2 => exact HC0_0.out); rintro e w38 ⟨rfl, hb⟩; have n0_ := am_ (bb_ BK107.out hb); have n1_ := am_ (bb_ BK108.out hb); have n2_ := am_ (below_step (be_ HB.out) hb); clear BK107; clear BK108; clear HB; have BK107 := n0_; have BK108 := n1_; have HB := n2_; clear n0_ n1_ n2_; (try clear hb); (try clear hb2); (try clear hk); (try clear hi); have hcz39_0 : w38.cell? ⟨gb107, 0, none⟩ = some (.slice A0_0 l0_0.length c0_0) := (blk_cell BK107.out 0).trans rfl; have hcz39_1 : w38.cell? ⟨gb107, 1, none⟩ = some (.int .i64 a0_1) := (blk_cell BK107.out 1).trans rfl; have hfz39_0 := blk_frozen BK107.out 0; have hfz39_1 := blk_frozen BK107.out 1) | ((with_reducible refine gate_callee (f := 30) rfl ?_); refine goesL_ (some 47) rfl rfl Try.func30 (by kernel_rfl) rfl #[.agg #[.slice A0_0 l0_0.length c0_0, .int .i64 a0_1]] rfl ma_ ?_; (with_reducible refine (tree_Tree_tick.calls _ _ l0_0 a0_1 t112 t115 _ ?side1 ?side2 A34.out).mono ?_); (case side1 => exact ks_ (Kd.C_below HR0_0.out HB.out)); (case side2 => exact HC0_0.out); rintro e w40 ⟨v113, rfl, ho0, hb⟩; refine ⟨_, rfl, ?_⟩; have n0_ := am_ (Kd.R_lower ho0 (below_size (be_ HB.out))); have n1_ := am_ (bb_ BK107.out hb); have n2_ := am_ (bb_ BK108.out hb); have n3_ := am_ (below_step (be_ HB.out) hb); clear BK107; clear BK108; clear HB; have HO114 := n0_; have BK107 := n1_; have BK108 := n2_; have HB := n3_; clear n0_ n1_ n2_ n3_; (try clear hb); (try clear hb2); (try clear hk); (try clear hi); (try clear ho0); obtain ⟨Ao41, co41, eo41⟩ := Kd.R_slice HO114.out; subst eo41; have hcz42_0 : w40.cell? ⟨gb107, 0, none⟩ = some (.slice A0_0 l0_0.length c0_0) := (blk_cell BK107.out 0).trans rfl; have hcz42_1 : w40.cell? ⟨gb107, 1, none⟩ = some (.int .i64 a0_1) := (blk_cell BK107.out 1).trans rfl; have hfz42_0 := blk_frozen BK107.out 0; have hfz42_1 := blk_frozen BK107.out 1) | ((with_reducible refine gate_builtin (b := .append) (xs := #[.tmp 49, .tmp 54]) rfl ?_); at_builtin; refine Kd.R_append k74 (w0 := w) w.heap.size rfl (.tmp 49) (.tmp 54) 24 74 (.agg #[(.int .i64 0), (.int .i64 0), (.int .i64 0), (.int .i64 0)]) 32 rfl Try.underlying24 info74 rfl (by decide) (by omega) (.slice Ao41 t112.length co41) t112 (⟨a1, 1, t115, 0⟩ : S74) [.int .i64 a1, .int .i64 1, .int .i64 t115, .int .i64 0] (fun _ => True) (fun _ => False) rfl (by first | (go_simp; done) | (go_simp; rfl)) ?aP (fun _ hk => hk.elim) ?aF ?aO ?aB ?aS ?aL ?_; (case aP => exact k74_mkM _ _ _ (⟨a1, 1, t115, 0⟩ : S74)); (case aB => exact (be_ HB.out)); (case aF => exact (fun _ _ => trivial)); (case aO => exact (by (with_reducible repeat (first | apply Kd.R_alloc | apply Kd.R_drewN | apply Kd.R_drew)); exact Kd.R_mono (Kd.R_far (p := ⟨gb107, 1, none⟩) (Kd.R_far (p := ⟨gb107, 0, none⟩) (Kd.R_types HO114.out BK107.out (by decide)) (fun _ hk => hk.2) (.slice Ao41 t112.length co41)) (fun _ hk => hk.2) (.int .i64 t115)) (fun _ hk => trivial))); (case aS => exact (below_size (be_ HB.out))); (case aL => have := LMc35.out; omega); intro v117 w43 ho hb hg hat; rw [← Ny116.out] at ho; have n0_ := am_ (blk_grown (g := gb107) (o := .cells #[.slice Ao41 t112.length co41, .int .i64 t115] 26 (0, 0)) (by (with_reducible repeat (first | refine blk_drewN ?_ _ | refine blk_drew ?_ | refine blk_alloc ?_ _)); refine blk_put (cs := #[.slice Ao41 t112.length co41, .int .i64 a0_1]) ?_ 1 _ rfl; (with_reducible repeat (first | refine blk_drewN ?_ _ | refine blk_drew ?_ | refine blk_alloc ?_ _)); refine blk_put (cs := #[.slice A0_0 l0_0.length c0_0, .int .i64 a0_1]) ?_ 0 _ rfl; (with_reducible repeat (first | refine blk_drewN ?_ _ | refine blk_drew ?_ | refine blk_alloc ?_ _)); exact BK107.out) hg (Kd.R_ne HO114.out BK107.out (by decide))); have n1_ := am_ (blk_grown (g := gb108) (o := .cells #[.slice none 0 0, .int .i64 0] 26 (0, 0)) (by (with_reducible repeat (first | refine blk_drewN ?_ _ | refine blk_drew ?_ | refine blk_alloc ?_ _)); refine blk_far ?_ NB108_107.out _; (with_reducible repeat (first | refine blk_drewN ?_ _ | refine blk_drew ?_ | refine blk_alloc ?_ _)); refine blk_far ?_ NB108_107.out _; (with_reducible repeat (first | refine blk_drewN ?_ _ | refine blk_drew ?_ | refine blk_alloc ?_ _)); exact BK108.out) hg (Kd.R_ne HO114.out BK108.out (by decide))); have n2_ := am_ (hb); have n3_ := am_ (ho); clear BK107; clear BK108; clear HB; clear HO114; have BK107 := n0_; have BK108 := n1_; have HB := n2_; have HO118 := n3_; clear n0_ n1_ n2_ n3_; clear ho hb hg hat; obtain ⟨Ao44, co44, eo44⟩ := Kd.R_slice HO118.out; subst eo44; have hcz45_0 : w43.cell? ⟨gb107, 0, none⟩ = some (.slice Ao41 t112.length co41) := (blk_cell BK107.out 0).trans rfl; have hcz45_1 : w43.cell? ⟨gb107, 1, none⟩ = some (.int .i64 t115) := (blk_cell BK107.out 1).trans rfl; have hfz45_0 := blk_frozen BK107.out 0; have hfz45_1 := blk_frozen BK107.out 1))
                      have n0_ : Aside0 (Kd.R k74 74 (w43.setCell ⟨gb107, 0, none⟩ (.slice Ao44 y116.length co44)) w.heap.size (fun _ => True) (.slice Ao44 y116.length co44) y116) := ⟨by (with_reducible repeat (first | apply Kd.R_alloc | apply Kd.R_drewN | apply Kd.R_drew)); exact Kd.R_mono (Kd.R_far (p := ⟨gb107, 0, none⟩) (Kd.R_types HO118.out BK107.out (by decide)) (fun _ hk => hk.2) (.slice Ao44 y116.length co44)) (fun _ hk => trivial)⟩; have n1_ : Aside0 ((w43.setCell ⟨gb107, 0, none⟩ (.slice Ao44 y116.length co44)).heap[gb107]? = some (.cells #[.slice Ao44 y116.length co44, .int .i64 t115] 26 (0, 0))) := ⟨by (with_reducible repeat (first | refine blk_drewN ?_ _ | refine blk_drew ?_ | refine blk_alloc ?_ _)); refine blk_put (cs := #[.slice Ao41 t112.length co41, .int .i64 t115]) ?_ 0 _ rfl; (with_reducible repeat (first | refine blk_drewN ?_ _ | refine blk_drew ?_ | refine blk_alloc ?_ _)); exact BK107.out⟩; have n2_ : Aside0 ((w43.setCell ⟨gb107, 0, none⟩ (.slice Ao44 y116.length co44)).heap[gb108]? = some (.cells #[.slice none 0 0, .int .i64 0] 26 (0, 0))) := ⟨by (with_reducible repeat (first | refine blk_drewN ?_ _ | refine blk_drew ?_ | refine blk_alloc ?_ _)); refine blk_far ?_ NB108_107.out _; (with_reducible repeat (first | refine blk_drewN ?_ _ | refine blk_drew ?_ | refine blk_alloc ?_ _)); exact BK108.out⟩; have n3_ : Aside0 (Below w.heap.size w (w43.setCell ⟨gb107, 0, none⟩ (.slice Ao44 y116.length co44))) := ⟨be_ HB.out⟩; (try clear HO118); (try clear BK107); (try clear BK108); (try clear HB); generalize (w43.setCell ⟨gb107, 0, none⟩ (.slice Ao44 y116.length co44)) = w46 at n0_ n1_ n2_ n3_ ⊢; have HO118 := n0_; have BK107 := n1_; have BK108 := n2_; have HB := n3_; clear n0_ n1_ n2_ n3_; have n0_ := am_ (Kd.R_drew HO118.out); have n1_ := am_ (blk_drew BK107.out); have n2_ := am_ (blk_drew BK108.out); have n3_ := am_ (below_drew1 HB.out); clear HO118; clear BK107; clear BK108; clear HB; have HO118 := n0_; have BK107 := n1_; have BK108 := n2_; have HB := n3_; clear n0_ n1_ n2_ n3_; refine start_ (n := 8) (S := fun w' => w'.cell? ⟨gb107, 0, none⟩ = some (.slice Ao44 y116.length co44) ∧ w'.cell? ⟨gb107, 1, none⟩ = some (.int .i64 t115)) (ds := []) #[false, false, false, false, false, false, false, false] (by kernel_rfl) rfl rfl ⟨(blk_cell BK107.out 0).trans rfl, (blk_cell BK107.out 1).trans rfl⟩ (fun hHeld => ?_); refine with_tabW tree_Begin.tab10 tree_Begin.bits10 (fun HT_ HW_ => ?_); generalize w46.drew = w47 at HO118 BK107 BK108 HB hHeld ⊢; refine pz_ 1 58 HT_ ?_; refine tz_ 0 57 HT_ HW_ hHeld ?_; refine tz_ 2 59 HT_ HW_ hHeld ?_; refine pz_ 3 60 HT_ ?_; refine pz_ 4 61 HT_ ?_; refine one_ (i := 5) (N := none) #[true, true, true, true, true, true, false, false] rfl rfl (one_of HT_.out (by kernel_rfl)) (by decide) (fun K hK => ?_); have hs48 : w47.cell? ⟨gb108, 0, none⟩ = some (.slice none 0 0) := (blk_cell BK108.out 0).trans rfl; have hfs48 := blk_frozen BK108.out 0; have hns48_0 := NB107_108.out; have hms48_0 := NB108_107.out; have hs49 : w47.cell? ⟨gb108, 1, none⟩ = some (.int .i64 0) := (blk_cell BK108.out 1).trans rfl; have hfs49 := blk_frozen BK108.out 1; have hns49_0 := NB107_108.out; have hms49_0 := NB108_107.out; refine skip_ (w1 := ?_) (by rfl) rfl ?_ ?_; rotate_left
                      · go_simp
                        rfl
                      refine hK.out _ _ ⟨((cell_far (p := ⟨gb108, _, none⟩) NB107_108.out _).trans (((cell_far (p := ⟨gb108, _, none⟩) NB107_108.out _).trans (hHeld.1)))), ((cell_far (p := ⟨gb108, _, none⟩) NB107_108.out _).trans (((cell_far (p := ⟨gb108, _, none⟩) NB107_108.out _).trans (hHeld.2))))⟩ (fun hHeld => ?_); clear hK K; refine pz_ 6 5 HT_ ?_; refine pz_ 7 6 HT_ ?_; refine done_ (done_of HT_.out (by kernel_rfl)) ?_
                      try go_wp2
                      refine bodyPost_ret (results_ctt rfl _ _ gb108 26 #[.slice Ao44 y116.length co44, .int .i64 t115] (0, 0) _ rfl (by (with_reducible repeat (first | refine blk_drewN ?_ _ | refine blk_drew ?_ | refine blk_alloc ?_ _)); refine blk_put (cs := #[.slice Ao44 y116.length co44, .int .i64 0]) ?_ 1 _ rfl; (with_reducible repeat (first | refine blk_drewN ?_ _ | refine blk_drew ?_ | refine blk_alloc ?_ _)); refine blk_put (cs := #[.slice none 0 0, .int .i64 0]) ?_ 0 _ rfl; (with_reducible repeat (first | refine blk_drewN ?_ _ | refine blk_drew ?_ | refine blk_alloc ?_ _)); exact BK108.out) Try.underlying26 rfl (by kernel_rfl)) rfl ?_
                      exact ⟨_, by first | rfl | (simp [errW_none, errW_some] <;> rfl) | (simp [*, errW_none, errW_some] <;> rfl), by (with_reducible repeat (first | apply Kd.R_alloc | apply Kd.R_drewN | apply Kd.R_drew)); exact Kd.R_mono (Kd.R_far (p := ⟨gb108, 1, none⟩) (Kd.R_far (p := ⟨gb108, 0, none⟩) (Kd.R_types HO118.out BK108.out (by decide)) (fun _ hk => hk.2) (.slice Ao44 y116.length co44)) (fun _ hk => hk.2) (.int .i64 t115)) (fun _ hk => trivial), be_ HB.out⟩
                    · rw [if_neg c35] at H
                      exact absurd H (by simp)
                · rw [if_neg c27] at H
                  have c27b0 : (a1 != (-1)) = false := by simpa using c27
                  (try (have c27b1 : decide (a1 = (-1)) = true := by simpa using c27)); (try (have c27b2 : (a1 == (-1)) = true := by simpa using c27)); clear c27; replace H := Option.bind_eq_some_iff.mp H; obtain ⟨⟨t119, t122⟩, A500, H⟩ := H; replace H : (if t119.length < 4398046511104 then ((some (t119 ++ [(⟨a1, 1, t122, 0⟩ : S74)] : List (S74))).bind fun y123 => (some (y123, t122, wrap64 ((y123.length : Int) - 1), 0))) else (none)) = some (r1, r2, r3, r4) := H; have A50 := am_ A500; clear A500
                  by_cases c51 : t119.length < 4398046511104
                  · rw [if_pos c51] at H
                    have LMc51 := am_ c51; clear c51; obtain ⟨y123, hy123⟩ : ∃ y_ : List (S74), y_ = (t119 ++ [(⟨a1, 1, t122, 0⟩ : S74)]) := ⟨_, rfl⟩; replace H : (some (y123, t122, wrap64 ((y123.length : Int) - 1), 0)) = some (r1, r2, r3, r4) := by first | (rw [hy123]; with_reducible exact H) | (have H2_ := (Option.bind_some _ _).symm.trans H; rw [hy123]; with_reducible exact H2_) | (have H2_ := (Option.bind_some _ _).symm.trans H; with_reducible exact H2_) | with_reducible exact H | (rw [hy123]; exact H) | exact H
                    have Ny123 := am_ hy123; clear hy123; simp only [Option.some.injEq, Prod.mk.injEq] at H; obtain ⟨rfl, rfl, rfl, rfl⟩ := H; have hnb52 := NB107_108.out; have hnc52 := NB108_107.out; have hcz53_0 : wc.cell? ⟨gb107, 0, none⟩ = some (.slice A0_0 l0_0.length c0_0) := (blk_cell BK107.out 0).trans rfl; have hcz53_1 : wc.cell? ⟨gb107, 1, none⟩ = some (.int .i64 a0_1) := (blk_cell BK107.out 1).trans rfl; have hfz53_0 := blk_frozen BK107.out 0; have hfz53_1 := blk_frozen BK107.out 1
                    try go_wp2_with (first | ((with_reducible refine gate_callee (f := 30) rfl ?_); refine goesL_ (some 47) rfl rfl Try.func30 (by kernel_rfl) rfl #[.agg #[.slice A0_0 l0_0.length c0_0, .int .i64 a0_1]] rfl ma_ ?_; (with_reducible refine (tree_Tree_tick.calls _ _ l0_0 a0_1 t119 t122 _ ?side1 ?side2 A50.out).mono ?_); (case side1 => exact ks_ (Kd.C_below HR0_0.out HB.out)); (case side2 => exact HC0_0.out); rintro e w54 ⟨v120, rfl, ho0, hb⟩; refine ⟨_, rfl, ?_⟩; have n0_ := am_ (Kd.R_lower ho0 (below_size (be_ HB.out))); have n1_ := am_ (bb_ BK107.out hb); have n2_ := am_ (bb_ BK108.out hb); have n3_ := am_ (below_step (be_ HB.out) hb); clear BK107; clear BK108; clear HB; have HO121 := n0_; have BK107 := n1_; have BK108 := n2_; have HB := n3_; clear n0_ n1_ n2_ n3_; (try clear hb); (try clear hb2); (try clear hk); (try clear hi); (try clear ho0); obtain ⟨Ao55, co55, eo55⟩ := Kd.R_slice HO121.out; subst eo55; have hcz56_0 : w54.cell? ⟨gb107, 0, none⟩ = some (.slice A0_0 l0_0.length c0_0) := (blk_cell BK107.out 0).trans rfl; have hcz56_1 : w54.cell? ⟨gb107, 1, none⟩ = some (.int .i64 a0_1) := (blk_cell BK107.out 1).trans rfl; have hfz56_0 := blk_frozen BK107.out 0; have hfz56_1 := blk_frozen BK107.out 1) | ((with_reducible refine gate_builtin (b := .append) (xs := #[.tmp 49, .tmp 54]) rfl ?_); at_builtin; refine Kd.R_append k74 (w0 := w) w.heap.size rfl (.tmp 49) (.tmp 54) 24 74 (.agg #[(.int .i64 0), (.int .i64 0), (.int .i64 0), (.int .i64 0)]) 32 rfl Try.underlying24 info74 rfl (by decide) (by omega) (.slice Ao55 t119.length co55) t119 (⟨a1, 1, t122, 0⟩ : S74) [.int .i64 a1, .int .i64 1, .int .i64 t122, .int .i64 0] (fun _ => True) (fun _ => False) rfl (by first | (go_simp; done) | (go_simp; rfl)) ?aP (fun _ hk => hk.elim) ?aF ?aO ?aB ?aS ?aL ?_; (case aP => exact k74_mkM _ _ _ (⟨a1, 1, t122, 0⟩ : S74)); (case aB => exact (be_ HB.out)); (case aF => exact (fun _ _ => trivial)); (case aO => exact (by (with_reducible repeat (first | apply Kd.R_alloc | apply Kd.R_drewN | apply Kd.R_drew)); exact Kd.R_mono (Kd.R_far (p := ⟨gb107, 1, none⟩) (Kd.R_far (p := ⟨gb107, 0, none⟩) (Kd.R_types HO121.out BK107.out (by decide)) (fun _ hk => hk.2) (.slice Ao55 t119.length co55)) (fun _ hk => hk.2) (.int .i64 t122)) (fun _ hk => trivial))); (case aS => exact (below_size (be_ HB.out))); (case aL => have := LMc51.out; omega); intro v124 w57 ho hb hg hat; rw [← Ny123.out] at ho; have n0_ := am_ (blk_grown (g := gb107) (o := .cells #[.slice Ao55 t119.length co55, .int .i64 t122] 26 (0, 0)) (by (with_reducible repeat (first | refine blk_drewN ?_ _ | refine blk_drew ?_ | refine blk_alloc ?_ _)); refine blk_put (cs := #[.slice Ao55 t119.length co55, .int .i64 a0_1]) ?_ 1 _ rfl; (with_reducible repeat (first | refine blk_drewN ?_ _ | refine blk_drew ?_ | refine blk_alloc ?_ _)); refine blk_put (cs := #[.slice A0_0 l0_0.length c0_0, .int .i64 a0_1]) ?_ 0 _ rfl; (with_reducible repeat (first | refine blk_drewN ?_ _ | refine blk_drew ?_ | refine blk_alloc ?_ _)); exact BK107.out) hg (Kd.R_ne HO121.out BK107.out (by decide))); have n1_ := am_ (blk_grown (g := gb108) (o := .cells #[.slice none 0 0, .int .i64 0] 26 (0, 0)) (by (with_reducible repeat (first | refine blk_drewN ?_ _ | refine blk_drew ?_ | refine blk_alloc ?_ _)); refine blk_far ?_ NB108_107.out _; (with_reducible repeat (first | refine blk_drewN ?_ _ | refine blk_drew ?_ | refine blk_alloc ?_ _)); refine blk_far ?_ NB108_107.out _; (with_reducible repeat (first | refine blk_drewN ?_ _ | refine blk_drew ?_ | refine blk_alloc ?_ _)); exact BK108.out) hg (Kd.R_ne HO121.out BK108.out (by decide))); have n2_ := am_ (hb); have n3_ := am_ (ho); clear BK107; clear BK108; clear HB; clear HO121; have BK107 := n0_; have BK108 := n1_; have HB := n2_; have HO125 := n3_; clear n0_ n1_ n2_ n3_; clear ho hb hg hat; obtain ⟨Ao58, co58, eo58⟩ := Kd.R_slice HO125.out; subst eo58; have hcz59_0 : w57.cell? ⟨gb107, 0, none⟩ = some (.slice Ao55 t119.length co55) := (blk_cell BK107.out 0).trans rfl; have hcz59_1 : w57.cell? ⟨gb107, 1, none⟩ = some (.int .i64 t122) := (blk_cell BK107.out 1).trans rfl; have hfz59_0 := blk_frozen BK107.out 0; have hfz59_1 := blk_frozen BK107.out 1))
                    have n0_ : Aside0 (Kd.R k74 74 (w57.setCell ⟨gb107, 0, none⟩ (.slice Ao58 y123.length co58)) w.heap.size (fun _ => True) (.slice Ao58 y123.length co58) y123) := ⟨by (with_reducible repeat (first | apply Kd.R_alloc | apply Kd.R_drewN | apply Kd.R_drew)); exact Kd.R_mono (Kd.R_far (p := ⟨gb107, 0, none⟩) (Kd.R_types HO125.out BK107.out (by decide)) (fun _ hk => hk.2) (.slice Ao58 y123.length co58)) (fun _ hk => trivial)⟩; have n1_ : Aside0 ((w57.setCell ⟨gb107, 0, none⟩ (.slice Ao58 y123.length co58)).heap[gb107]? = some (.cells #[.slice Ao58 y123.length co58, .int .i64 t122] 26 (0, 0))) := ⟨by (with_reducible repeat (first | refine blk_drewN ?_ _ | refine blk_drew ?_ | refine blk_alloc ?_ _)); refine blk_put (cs := #[.slice Ao55 t119.length co55, .int .i64 t122]) ?_ 0 _ rfl; (with_reducible repeat (first | refine blk_drewN ?_ _ | refine blk_drew ?_ | refine blk_alloc ?_ _)); exact BK107.out⟩; have n2_ : Aside0 ((w57.setCell ⟨gb107, 0, none⟩ (.slice Ao58 y123.length co58)).heap[gb108]? = some (.cells #[.slice none 0 0, .int .i64 0] 26 (0, 0))) := ⟨by (with_reducible repeat (first | refine blk_drewN ?_ _ | refine blk_drew ?_ | refine blk_alloc ?_ _)); refine blk_far ?_ NB108_107.out _; (with_reducible repeat (first | refine blk_drewN ?_ _ | refine blk_drew ?_ | refine blk_alloc ?_ _)); exact BK108.out⟩; have n3_ : Aside0 (Below w.heap.size w (w57.setCell ⟨gb107, 0, none⟩ (.slice Ao58 y123.length co58))) := ⟨be_ HB.out⟩; (try clear HO125); (try clear BK107); (try clear BK108); (try clear HB); generalize (w57.setCell ⟨gb107, 0, none⟩ (.slice Ao58 y123.length co58)) = w60 at n0_ n1_ n2_ n3_ ⊢; have HO125 := n0_; have BK107 := n1_; have BK108 := n2_; have HB := n3_; clear n0_ n1_ n2_ n3_; have n0_ := am_ (Kd.R_drew HO125.out); have n1_ := am_ (blk_drew BK107.out); have n2_ := am_ (blk_drew BK108.out); have n3_ := am_ (below_drew1 HB.out); clear HO125; clear BK107; clear BK108; clear HB; have HO125 := n0_; have BK107 := n1_; have BK108 := n2_; have HB := n3_; clear n0_ n1_ n2_ n3_; refine start_ (n := 8) (S := fun w' => w'.cell? ⟨gb107, 0, none⟩ = some (.slice Ao58 y123.length co58) ∧ w'.cell? ⟨gb107, 1, none⟩ = some (.int .i64 t122)) (ds := []) #[false, false, false, false, false, false, false, false] (by kernel_rfl) rfl rfl ⟨(blk_cell BK107.out 0).trans rfl, (blk_cell BK107.out 1).trans rfl⟩ (fun hHeld => ?_); refine with_tabW tree_Begin.tab10 tree_Begin.bits10 (fun HT_ HW_ => ?_); generalize w60.drew = w61 at HO125 BK107 BK108 HB hHeld ⊢; refine pz_ 1 58 HT_ ?_; refine tz_ 0 57 HT_ HW_ hHeld ?_; refine tz_ 2 59 HT_ HW_ hHeld ?_; refine pz_ 3 60 HT_ ?_; refine pz_ 4 61 HT_ ?_; refine one_ (i := 5) (N := none) #[true, true, true, true, true, true, false, false] rfl rfl (one_of HT_.out (by kernel_rfl)) (by decide) (fun K hK => ?_); have hs62 : w61.cell? ⟨gb108, 0, none⟩ = some (.slice none 0 0) := (blk_cell BK108.out 0).trans rfl; have hfs62 := blk_frozen BK108.out 0; have hns62_0 := NB107_108.out; have hms62_0 := NB108_107.out; have hs63 : w61.cell? ⟨gb108, 1, none⟩ = some (.int .i64 0) := (blk_cell BK108.out 1).trans rfl; have hfs63 := blk_frozen BK108.out 1; have hns63_0 := NB107_108.out; have hms63_0 := NB108_107.out; refine skip_ (w1 := ?_) (by rfl) rfl ?_ ?_; rotate_left
                    · go_simp
                      rfl
                    refine hK.out _ _ ⟨((cell_far (p := ⟨gb108, _, none⟩) NB107_108.out _).trans (((cell_far (p := ⟨gb108, _, none⟩) NB107_108.out _).trans (hHeld.1)))), ((cell_far (p := ⟨gb108, _, none⟩) NB107_108.out _).trans (((cell_far (p := ⟨gb108, _, none⟩) NB107_108.out _).trans (hHeld.2))))⟩ (fun hHeld => ?_); clear hK K; refine pz_ 6 5 HT_ ?_; refine pz_ 7 6 HT_ ?_; refine done_ (done_of HT_.out (by kernel_rfl)) ?_
                    try go_wp2
                    refine bodyPost_ret (results_ctt rfl _ _ gb108 26 #[.slice Ao58 y123.length co58, .int .i64 t122] (0, 0) _ rfl (by (with_reducible repeat (first | refine blk_drewN ?_ _ | refine blk_drew ?_ | refine blk_alloc ?_ _)); refine blk_put (cs := #[.slice Ao58 y123.length co58, .int .i64 0]) ?_ 1 _ rfl; (with_reducible repeat (first | refine blk_drewN ?_ _ | refine blk_drew ?_ | refine blk_alloc ?_ _)); refine blk_put (cs := #[.slice none 0 0, .int .i64 0]) ?_ 0 _ rfl; (with_reducible repeat (first | refine blk_drewN ?_ _ | refine blk_drew ?_ | refine blk_alloc ?_ _)); exact BK108.out) Try.underlying26 rfl (by kernel_rfl)) rfl ?_
                    exact ⟨_, by first | rfl | (simp [errW_none, errW_some] <;> rfl) | (simp [*, errW_none, errW_some] <;> rfl), by (with_reducible repeat (first | apply Kd.R_alloc | apply Kd.R_drewN | apply Kd.R_drew)); exact Kd.R_mono (Kd.R_far (p := ⟨gb108, 1, none⟩) (Kd.R_far (p := ⟨gb108, 0, none⟩) (Kd.R_types HO125.out BK108.out (by decide)) (fun _ hk => hk.2) (.slice Ao58 y123.length co58)) (fun _ hk => hk.2) (.int .i64 t122)) (fun _ hk => trivial), be_ HB.out⟩
                  · rw [if_neg c51] at H
                    exact absurd H (by simp)

end Go.Proofs.Ytdnkbmjlcdddcaa.Q
