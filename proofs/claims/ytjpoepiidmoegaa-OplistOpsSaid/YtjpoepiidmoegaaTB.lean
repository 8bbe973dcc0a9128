/- tree.Begin, out of the kit's print (hprint.py), mended (mendbegin.py). -/
import Derived.Test.YtjpoepiidmoegaaQ0
import Derived.Test.YtjpoepiidmoegaaTK
import Derived.Test.YtjpoepiidmoegaaTD
import Derived.Test.YtjpoepiidmoegaaQA
namespace Go.Proofs.Ytjpoepiidmoegaa.Q
open Go.RowKit Go.Proofs.YtjpoepiidmoegaaW.PrintWords Go.Proofs.YtjpoepiidmoegaaW.PrintLast Go.Proofs.YtjpoepiidmoegaaW.PrintMore
attribute [local go_sem] max2_int min2_int max_two min_two max_three min_three max_four min_four   -- for this text's walks alone
set_option linter.unusedVariables false
set_option linter.unusedSimpArgs false

/-! ### tree_Tree_is: function 44 -/
def tree_Tree_is.f (l0_0 : List (S95)) (a0_1 : Int) (a1 : Int) : Option (Bool) := if a1 ≥ 0 then (some (decide (a1 < (l0_0.length : Int)))) else (some false)
set_option maxHeartbeats 8000000 in
set_option maxRecDepth 100000 in
theorem tree_Tree_is.calls (A0_0 : Option Addr) (c0_0 : Nat) (l0_0 : List (S95)) (a0_1 : Int) (a1 : Int) (r : Bool) (w : World) (hr0_0 : Kd.C k95 w A0_0 l0_0.length l0_0) (hc0_0 : l0_0.length ≤ c0_0) (h : tree_Tree_is.f l0_0 a0_1 a1 = some r) :
    Calls Try.prog 44 #[.agg #[.slice A0_0 l0_0.length c0_0, .int .i64 a0_1], .int .i64 a1] w fun e w' => e = .returned (.bool r) ∧ Below w.heap.size w w' := by
  have hu48 := Try.underlying48
  have HR0_0 := am_ hr0_0
  have HC0_0 := am_ hc0_0
  clear hr0_0 hc0_0
  have HB := am_ (Below.refl w.heap.size w)
  have H : (if a1 ≥ 0 then (some (decide (a1 < (l0_0.length : Int)))) else (some false)) = some r := h
  clear h
  by_cases c3 : a1 ≥ 0
  · rw [if_pos c3] at H
    have c3b0 : decide (0 ≤ a1) = true := decide_eq_true c3
    clear c3
    obtain rfl := Option.some.inj H
    go_enter Try.func44, Try.ntmps44
    go_wp2_with (first | ((with_reducible refine gate_dst (N := 2) rfl ?_); (try (refine gate_guard (by rfl) ?_; dsimp only)); refine box_event ?hg (N := 2) ?hd (cs := #[.slice A0_0 l0_0.length c0_0, .int .i64 a0_1]) (t := 48) ?hr ?_; (case hd => rfl); (case hg => rfl); (case hr => first | (go_simp; done) | (go_simp; rfl)); intro gb136 hg w4 hbox hb; have n0_ := am_ (below_step (be_ HB.out) hb); have n1_ := am_ (hbox); have n2_ := am_ ((by rw [hg]; exact (below_size (be_ HB.out)) : w.heap.size ≤ gb136)); have n3_ := am_ ((by rw [hg]; exact (below_size (be_ HB.out)) : w.heap.size ≤ gb136)); clear HB; have HB := n0_; have BK136 := n1_; have GW136 := n2_; have GE136 := n3_; clear n0_ n1_ n2_ n3_; clear hb hbox hg; have hcz5_0 : w4.cell? ⟨gb136, 0, none⟩ = some (.slice A0_0 l0_0.length c0_0) := (blk_cell BK136.out 0).trans rfl; have hcz5_1 : w4.cell? ⟨gb136, 1, none⟩ = some (.int .i64 a0_1) := (blk_cell BK136.out 1).trans rfl; have hfz5_0 := blk_frozen BK136.out 0; have hfz5_1 := blk_frozen BK136.out 1))
    go_ret
    exact ⟨by first | rfl | (simp [errW_none, errW_some] <;> rfl) | (simp [*, errW_none, errW_some] <;> rfl), be_ HB.out⟩
  · rw [if_neg c3] at H
    have c3b0 : decide (0 ≤ a1) = false := decide_eq_false c3
    clear c3
    obtain rfl := Option.some.inj H
    go_enter Try.func44, Try.ntmps44
    go_wp2_with (first | ((with_reducible refine gate_dst (N := 2) rfl ?_); (try (refine gate_guard (by rfl) ?_; dsimp only)); refine box_event ?hg (N := 2) ?hd (cs := #[.slice A0_0 l0_0.length c0_0, .int .i64 a0_1]) (t := 48) ?hr ?_; (case hd => rfl); (case hg => rfl); (case hr => first | (go_simp; done) | (go_simp; rfl)); intro gb136 hg w6 hbox hb; have n0_ := am_ (below_step (be_ HB.out) hb); have n1_ := am_ (hbox); have n2_ := am_ ((by rw [hg]; exact (below_size (be_ HB.out)) : w.heap.size ≤ gb136)); have n3_ := am_ ((by rw [hg]; exact (below_size (be_ HB.out)) : w.heap.size ≤ gb136)); clear HB; have HB := n0_; have BK136 := n1_; have GW136 := n2_; have GE136 := n3_; clear n0_ n1_ n2_ n3_; clear hb hbox hg))
    go_ret
    exact ⟨by first | rfl | (simp [errW_none, errW_some] <;> rfl) | (simp [*, errW_none, errW_some] <;> rfl), be_ HB.out⟩

-- GIVEN: function 45 (tree_Deep)

-- GIVEN: function 59 (tree_Tx)

/-! ### tree_Tree_tick: function 46 -/
def tree_Tree_tick.f (l0_0 : List (S95)) (a0_1 : Int) : Option ((List (S95)) × Int) := (tree_Tx.f l0_0).bind fun t139 => (some (t139, wrap64 (a0_1 + 1)))
def tree_Tree_tick.T1 : Bool × List (List Nat × List Nat) := (true, [([], []), ([0], [0]), ([1], [1]), ([], []), ([3], [3]), ([4], [4]), ([2, 5], [2, 5]), ([6, 2, 0, 1, 2, 3, 4, 5, 6], [6])])
def tree_Tree_tick.B1 : List Nat := [0, 1, 3, 0, 8, 24, 63, 127]
theorem tree_Tree_tick.tab1 : rtab .any (opsOf Try.f46 1) = tree_Tree_tick.T1 := by kernel_rfl
theorem tree_Tree_tick.bits1 : waitsOk tree_Tree_tick.T1.2 tree_Tree_tick.B1 = true := by kernel_rfl
set_option maxHeartbeats 8000000 in
set_option maxRecDepth 100000 in
theorem tree_Tree_tick.calls (A0_0 : Option Addr) (c0_0 : Nat) (l0_0 : List (S95)) (a0_1 : Int) (r1 : List (S95)) (r2 : Int) (w : World) (hr0_0 : Kd.C k95 w A0_0 l0_0.length l0_0) (hc0_0 : l0_0.length ≤ c0_0) (h : tree_Tree_tick.f l0_0 a0_1 = some (r1, r2)) :
    Calls Try.prog 46 #[.agg #[.slice A0_0 l0_0.length c0_0, .int .i64 a0_1]] w fun e w' => ∃ v0_ : Value, e = .returned (.agg #[v0_, .int .i64 r2]) ∧ Kd.R k95 95 w' w.heap.size (fun _ => True) v0_ r1 ∧ Below w.heap.size w w' := by
  have hu48 := Try.underlying48
  have HR0_0 := am_ hr0_0
  have HC0_0 := am_ hc0_0
  clear hr0_0 hc0_0
  have HB := am_ (Below.refl w.heap.size w)
  have H : ((tree_Tx.f l0_0).bind fun t139 => (some (t139, wrap64 (a0_1 + 1)))) = some (r1, r2) := h
  clear h
  replace H := Option.bind_eq_some_iff.mp H
  obtain ⟨t139, A20, H⟩ := H
  replace H : (some (t139, wrap64 (a0_1 + 1))) = some (r1, r2) := H
  have A2 := am_ A20
  clear A20
  simp only [Option.some.injEq, Prod.mk.injEq] at H
  obtain ⟨rfl, rfl⟩ := H
  go_enter Try.func46, Try.ntmps46
  try go_wp2_with (first | ((with_reducible refine gate_dst (N := 1) rfl ?_); refine box_event ?hg (N := 1) ?hd (cs := #[.slice A0_0 l0_0.length c0_0, .int .i64 a0_1]) (t := 48) ?hr ?_; (case hd => rfl); (case hg => rfl); (case hr => first | (go_simp; done) | (go_simp; rfl)); intro gb137 hg w3 hbox hb; have n0_ := am_ (below_step (be_ HB.out) hb); have n1_ := am_ (hbox); have n2_ := am_ ((by rw [hg]; exact (below_size (be_ HB.out)) : w.heap.size ≤ gb137)); have n3_ := am_ ((by rw [hg]; exact (below_size (be_ HB.out)) : w.heap.size ≤ gb137)); clear HB; have HB := n0_; have BK137 := n1_; have GW137 := n2_; have GE137 := n3_; clear n0_ n1_ n2_ n3_; clear hb hbox hg) | ((with_reducible refine gate_dst (N := 2) rfl ?_); refine box_event ?hg (N := 2) ?hd (cs := #[.slice none 0 0, .int .i64 0]) (t := 48) ?hr ?_; (case hd => rfl); (case hg => rfl); (case hr => first | (go_simp; done) | (go_simp; rfl)); intro gb138 hg w4 hbox hb; have n0_ := am_ (bb_ BK137.out hb); have n1_ := am_ (below_step (be_ HB.out) hb); have n2_ := am_ (hbox); have n3_ := am_ ((by rw [hg]; exact (below_size (be_ HB.out)) : w.heap.size ≤ gb138)); have n4_ := am_ ((by rw [hg]; exact (below_size (be_ HB.out)) : w.heap.size ≤ gb138)); have n5_ := am_ ((by rw [hg]; exact Nat.ne_of_lt (bl_ BK137.out) : gb137 ≠ gb138)); have n6_ := am_ ((by rw [hg]; exact Nat.ne_of_gt (bl_ BK137.out) : gb138 ≠ gb137)); clear BK137; clear HB; have BK137 := n0_; have HB := n1_; have BK138 := n2_; have GW138 := n3_; have GE138 := n4_; have NB137_138 := n5_; have NB138_137 := n6_; clear n0_ n1_ n2_ n3_ n4_ n5_ n6_; clear hb hbox hg))
  have n0_ := am_ (blk_drew BK137.out)
  have n1_ := am_ (blk_drew BK138.out)
  have n2_ := am_ (below_drew1 HB.out)
  clear BK137
  clear BK138
  clear HB
  have BK137 := n0_
  have BK138 := n1_
  have HB := n2_
  clear n0_ n1_ n2_
  refine start_ (n := 8) (S := fun w' => w'.cell? ⟨gb137, 0, none⟩ = some (.slice A0_0 l0_0.length c0_0) ∧ w'.cell? ⟨gb137, 1, none⟩ = some (.int .i64 a0_1)) (ds := []) #[false, false, false, false, false, false, false, false] (by kernel_rfl) rfl rfl ⟨(blk_cell BK137.out 0).trans rfl, (blk_cell BK137.out 1).trans rfl⟩ (fun hHeld => ?_); refine with_tabW tree_Tree_tick.tab1 tree_Tree_tick.bits1 (fun HT_ HW_ => ?_)
  generalize w4.drew = w5 at BK137 BK138 HB hHeld ⊢
  refine pure_ (i := 0) (N := some 3) (v := ?_) (a' := ?_) #[true, false, false, false, false, false, false, false] rfl rfl (any_of HT_.out (by kernel_rfl)) (fun _ _ _ h => h) (Or.inl ⟨by rfl, ?_⟩) ?_ ?_
  rotate_left
  · intro w'
    go_simp
    with_reducible rfl
  rotate_left
  · simp only [Act.put, List.setIfInBounds_toArray, List.set_cons_zero, List.set_cons_succ, i64_w, i32_w]
    rfl
  refine pure_ (i := 3) (N := some 6) (v := ?_) (a' := ?_) #[true, false, false, true, false, false, false, false] rfl rfl (any_of HT_.out (by kernel_rfl)) (fun _ _ _ h => h) (Or.inl ⟨by rfl, ?_⟩) ?_ ?_
  rotate_left
  · intro w'
    go_simp
    with_reducible rfl
  rotate_left
  · simp only [Act.put, List.setIfInBounds_toArray, List.set_cons_zero, List.set_cons_succ, i64_w, i32_w]
    rfl
  refine take_ (i := 1) (N := some 4) (v := ?_) (a' := ?_) #[true, true, false, true, false, false, false, false] rfl rfl (take_ofW HT_.out HW_.out (by kernel_rfl)) (fun _ _ _ h => h) (Or.inl ⟨by rfl, ?_⟩) hHeld ?_ ?_
  rotate_left
  · rintro w' ⟨s0, s1⟩
    go_simp
    with_reducible rfl
  rotate_left
  · simp only [Act.put, List.setIfInBounds_toArray, List.set_cons_zero, List.set_cons_succ, i64_w, i32_w]
    rfl
  refine take_ (i := 4) (N := some 7) (v := ?_) (a' := ?_) #[true, true, false, true, true, false, false, false] rfl rfl (take_ofW HT_.out HW_.out (by kernel_rfl)) (fun _ _ _ h => h) (Or.inl ⟨by rfl, ?_⟩) hHeld ?_ ?_
  rotate_left
  · rintro w' ⟨s0, s1⟩
    go_simp
    with_reducible rfl
  rotate_left
  · simp only [Act.put, List.setIfInBounds_toArray, List.set_cons_zero, List.set_cons_succ, i64_w, i32_w]
    rfl
  refine pure_ (i := 5) (N := some 8) (v := ?_) (a' := ?_) #[true, true, false, true, true, true, false, false] rfl rfl (any_of HT_.out (by kernel_rfl)) (fun _ _ _ h => h) (Or.inl ⟨by rfl, ?_⟩) ?_ ?_
  rotate_left
  · intro w'
    go_simp
    with_reducible rfl
  rotate_left
  · simp only [Act.put, List.setIfInBounds_toArray, List.set_cons_zero, List.set_cons_succ, i64_w, i32_w]
    rfl
  refine one_ (i := 2) (N := some 5) #[true, true, true, true, true, true, false, false] rfl rfl (one_of HT_.out (by kernel_rfl)) (by decide) (fun K hK => ?_)
  refine goes_ Try.func59 (by kernel_rfl) rfl #[.slice A0_0 l0_0.length c0_0] (by rfl) rfl rfl ma_ ?_
  with_reducible refine (tree_Tx.calls _ _ l0_0 t139 _ ?side1 ?side2 A2.out).mono ?_
  (case side1 => repeat (first | exact (Kd.C_below HR0_0.out HB.out) | (with_reducible refine Kd.C_alloc ?_ _) | (with_reducible refine Kd.C_drewN ?_ _) | (with_reducible refine Kd.C_drew ?_)))
  (case side2 => exact HC0_0.out)
  rintro e w6 ⟨v140, rfl, ho0, hb⟩
  refine ⟨_, rfl, ?_⟩
  have n0_ := am_ (Kd.R_lower ho0 (below_size (be_ HB.out)))
  have n1_ := am_ (bb_ BK137.out hb)
  have n2_ := am_ (bb_ BK138.out hb)
  have n3_ := am_ (below_step (be_ HB.out) hb)
  clear BK137
  clear BK138
  clear HB
  have HO141 := n0_
  have BK137 := n1_
  have BK138 := n2_
  have HB := n3_
  clear n0_ n1_ n2_ n3_
  (try clear hb)
  (try clear hb2)
  (try clear hk)
  (try clear hi)
  (try clear ho0)
  obtain ⟨Ao7, co7, eo7⟩ := Kd.R_slice HO141.out
  (first | subst eo7 | (injection eo7 with f1_ f2_ f3_; have f4_ := f1_.symm; have f5_ := f3_.symm; clear f1_ f2_ f3_; subst f4_; subst f5_))
  refine hK.out _ _ ⟨(blk_cell BK137.out 0).trans rfl, (blk_cell BK137.out 1).trans rfl⟩ (fun hHeld => ?_)
  clear hK K
  refine norm_ (a' := ?_) ?_ ?_
  rotate_left
  · show Act.put _ (some 5) _ = _
    simp only [Act.put, List.setIfInBounds_toArray, List.set_cons_zero, List.set_cons_succ, i64_w, i32_w]
    rfl
  refine pure_ (i := 6) (N := some 9) (v := ?_) (a' := ?_) #[true, true, true, true, true, true, true, false] rfl rfl (any_of HT_.out (by kernel_rfl)) (fun _ _ _ h => h) (Or.inl ⟨by rfl, ?_⟩) ?_ ?_
  rotate_left
  · intro w'
    go_simp
    with_reducible rfl
  rotate_left
  · simp only [Act.put, List.setIfInBounds_toArray, List.set_cons_zero, List.set_cons_succ, i64_w, i32_w]
    rfl
  refine one_ (i := 7) (N := none) #[true, true, true, true, true, true, true, true] rfl rfl (one_of HT_.out (by kernel_rfl)) (by decide) (fun K hK => ?_)
  have hs8 : w6.cell? ⟨gb138, 0, none⟩ = some (.slice none 0 0) := (blk_cell BK138.out 0).trans rfl
  have hfs8 := blk_frozen BK138.out 0
  have hns8_0 := NB137_138.out
  have hms8_0 := NB138_137.out
  have hs9 : w6.cell? ⟨gb138, 1, none⟩ = some (.int .i64 0) := (blk_cell BK138.out 1).trans rfl
  have hfs9 := blk_frozen BK138.out 1
  have hns9_0 := NB137_138.out
  have hms9_0 := NB138_137.out
  refine skip_ (w1 := ?_) (by rfl) rfl ?_ ?_
  rotate_left
  · go_simp
    rfl
  refine hK.out _ _ ⟨((cell_far (p := ⟨gb138, _, none⟩) NB137_138.out _).trans (((cell_far (p := ⟨gb138, _, none⟩) NB137_138.out _).trans (hHeld.1)))), ((cell_far (p := ⟨gb138, _, none⟩) NB137_138.out _).trans (((cell_far (p := ⟨gb138, _, none⟩) NB137_138.out _).trans (hHeld.2))))⟩ (fun hHeld => ?_)
  clear hK K
  refine done_ (done_of HT_.out (by kernel_rfl)) ?_
  try go_wp2
  refine bodyPost_ret (results_cell_row rfl _ _ gb138 48 #[.slice Ao7 t139.length co7, .int .i64 (wrap64 (a0_1 + 1))] (0, 0) _ rfl (by (with_reducible repeat (first | refine blk_drewN ?_ _ | refine blk_drew ?_ | refine blk_alloc ?_ _)); refine blk_put (cs := #[.slice Ao7 t139.length co7, .int .i64 0]) ?_ 1 _ rfl; (with_reducible repeat (first | refine blk_drewN ?_ _ | refine blk_drew ?_ | refine blk_alloc ?_ _)); refine blk_put (cs := #[.slice none 0 0, .int .i64 0]) ?_ 0 _ rfl; (with_reducible repeat (first | refine blk_drewN ?_ _ | refine blk_drew ?_ | refine blk_alloc ?_ _)); exact BK138.out) Try.underlying48 rfl (by kernel_rfl)) rfl ?_
  exact ⟨_, by first | rfl | (simp [errW_none, errW_some] <;> rfl) | (simp [*, errW_none, errW_some] <;> rfl), by (with_reducible repeat (first | apply Kd.R_alloc | apply Kd.R_drewN | apply Kd.R_drew)); exact Kd.R_mono (Kd.R_far (p := ⟨gb138, 1, none⟩) (Kd.R_far (p := ⟨gb138, 0, none⟩) (Kd.R_types HO141.out BK138.out (by decide)) (fun _ hk => hk.2) (.slice Ao7 t139.length co7)) (fun _ hk => hk.2) (.int .i64 (wrap64 (a0_1 + 1)))) (fun _ hk => trivial), be_ HB.out⟩

/-! ### tree_Begin: function 18 -/
mutual
def tree_Begin.j0 : Nat → Int → Bool → Bool → List (S95) → Int → Option ((List (S95)) × Int × Int × Int)
  | 0, _, _, _, _, _ => none
  | k + 1, x1, x7, x10, x143000, x143001 => if x10 = true then (some (([] : List (S95)), 0, 0, 6)) else (if x7 = true then (if 0 ≤ x1 then (if x1 < (x143000.length : Int) then (tree_Begin.j1 k x1 x7 (((rd_T95 x143000 x1).f1) != 1) x143000 x143001) else (none)) else (none)) else (tree_Begin.j1 k x1 x7 false x143000 x143001))
def tree_Begin.j1 : Nat → Int → Bool → Bool → List (S95) → Int → Option ((List (S95)) × Int × Int × Int)
  | 0, _, _, _, _, _ => none
  | k + 1, x1, x7, x19, x143000, x143001 => if x19 = true then (some (([] : List (S95)), 0, 0, 7)) else (if (x143000.length : Int) ≥ 64 then (some (([] : List (S95)), 0, 0, 13)) else (if x7 = true then ((tree_Deep.f x143000 x143001 x1).bind fun t146 => (if t146 ≥ 8 then (some (([] : List (S95)), 0, 0, 13)) else ((tree_Tree_tick.f x143000 x143001).bind fun bt147 => (if bt147.1.length < 4398046511104 then ((some (bt147.1 ++ [(⟨x1, 1, bt147.2, 0⟩ : S95)] : List (S95))).bind fun y151 => (some (y151, bt147.2, wrap64 ((y151.length : Int) - 1), 0))) else (none))))) else ((tree_Tree_tick.f x143000 x143001).bind fun bt154 => (if bt154.1.length < 4398046511104 then ((some (bt154.1 ++ [(⟨x1, 1, bt154.2, 0⟩ : S95)] : List (S95))).bind fun y158 => (some (y158, bt154.2, wrap64 ((y158.length : Int) - 1), 0))) else (none)))))
end
def tree_Begin.f (k : Nat) (l0_0 : List (S95)) (a0_1 : Int) (a1 : Int) : Option ((List (S95)) × Int × Int × Int) := if a1 = (-1) then (tree_Begin.j0 k a1 (a1 != (-1)) false l0_0 a0_1) else ((tree_Tree_is.f l0_0 a0_1 a1).bind fun t144 => (tree_Begin.j0 k a1 (a1 != (-1)) (!t144) l0_0 a0_1))
theorem tree_Begin.mono_l : ∀ k, (∀ y0 y1 y2 y3 y4, LeO (tree_Begin.j0 k y0 y1 y2 y3 y4) (tree_Begin.j0 (k + 1) y0 y1 y2 y3 y4)) ∧ (∀ y0 y1 y2 y3 y4, LeO (tree_Begin.j1 k y0 y1 y2 y3 y4) (tree_Begin.j1 (k + 1) y0 y1 y2 y3 y4))
  | 0 => ⟨fun _ _ _ _ _ r h => by simp [tree_Begin.j0] at h, fun _ _ _ _ _ r h => by simp [tree_Begin.j1] at h⟩
  | k + 1 => by
    obtain ⟨ih0, ih1⟩ := tree_Begin.mono_l k
    refine ⟨?_, ?_⟩
    · intro y0 y1 y2 y3 y4
      unfold tree_Begin.j0
      repeat' first
      | (with_reducible exact ih0 _ _ _ _ _)
      | (with_reducible exact ih1 _ _ _ _ _)
      | (with_reducible exact LeO.refl _)
      | (with_reducible exact LeO.none _)
      | (with_reducible refine LeO.ite ?_ ?_)
      | (with_reducible refine LeO.bind ?_ (fun _ => ?_))
      | exact ih0 _ _ _ _ _
      | exact ih1 _ _ _ _ _
      | exact LeO.none _
      | refine LeO.ite ?_ ?_
      | refine LeO.bind ?_ (fun _ => ?_)
    · intro y0 y1 y2 y3 y4
      unfold tree_Begin.j1
      repeat' first
      | (with_reducible exact ih0 _ _ _ _ _)
      | (with_reducible exact ih1 _ _ _ _ _)
      | (with_reducible exact LeO.refl _)
      | (with_reducible exact LeO.none _)
      | (with_reducible refine LeO.ite ?_ ?_)
      | (with_reducible refine LeO.bind ?_ (fun _ => ?_))
      | exact ih0 _ _ _ _ _
      | exact ih1 _ _ _ _ _
      | exact LeO.none _
      | refine LeO.ite ?_ ?_
      | refine LeO.bind ?_ (fun _ => ?_)
theorem tree_Begin.mono : ∀ a0 a1 a2 k, LeO (tree_Begin.f k a0 a1 a2) (tree_Begin.f (k + 1) a0 a1 a2) := by
  intro a0 a1 a2 k
  obtain ⟨ih0, ih1⟩ := tree_Begin.mono_l k
  unfold tree_Begin.f
  repeat' first
      | (with_reducible exact ih0 _ _ _ _ _)
      | (with_reducible exact ih1 _ _ _ _ _)
      | (with_reducible exact LeO.refl _)
      | (with_reducible exact LeO.none _)
      | (with_reducible refine LeO.ite ?_ ?_)
      | (with_reducible refine LeO.bind ?_ (fun _ => ?_))
      | exact ih0 _ _ _ _ _
      | exact ih1 _ _ _ _ _
      | exact LeO.none _
      | refine LeO.ite ?_ ?_
      | refine LeO.bind ?_ (fun _ => ?_)
def tree_Begin.T10 : Bool × List (List Nat × List Nat) := (true, [([], []), ([], []), ([1], [1]), ([2], [2]), ([3], [3]), ([0, 0], [0]), ([4, 5, 0, 1, 2, 3, 4, 5], [4]), ([6, 0, 1, 2, 3, 4, 5, 6], [])])
def tree_Begin.B10 : List Nat := [0, 0, 2, 6, 14, 1, 63, 127]
theorem tree_Begin.tab10 : rtab .any (opsOf Try.f18 10) = tree_Begin.T10 := by kernel_rfl
theorem tree_Begin.bits10 : waitsOk tree_Begin.T10.2 tree_Begin.B10 = true := by kernel_rfl
set_option maxHeartbeats 8000000 in
set_option maxRecDepth 100000 in
theorem tree_Begin.calls (k : Nat) (A0_0 : Option Addr) (c0_0 : Nat) (l0_0 : List (S95)) (a0_1 : Int) (a1 : Int) (r1 : List (S95)) (r2 : Int) (r3 : Int) (r4 : Int) (w : World) (hr0_0 : Kd.C k95 w A0_0 l0_0.length l0_0) (hc0_0 : l0_0.length ≤ c0_0) (h : tree_Begin.f k l0_0 a0_1 a1 = some (r1, r2, r3, r4)) :
    Calls Try.prog 18 #[.agg #[.slice A0_0 l0_0.length c0_0, .int .i64 a0_1], .int .i64 a1] w fun e w' => ∃ v0_ : Value, e = .returned (.tuple #[.agg #[v0_, .int .i64 r2], .int .i64 r3, .int .i64 r4]) ∧ Kd.R k95 95 w' w.heap.size (fun _ => True) v0_ r1 ∧ Below w.heap.size w w' := by
  have hu48 := Try.underlying48
  have hu95 := Try.underlying95
  have HR0_0 := am_ hr0_0
  have HC0_0 := am_ hc0_0
  clear hr0_0 hc0_0
  have HB := am_ (Below.refl w.heap.size w)
  have H : (if a1 = (-1) then (tree_Begin.j0 k a1 (a1 != (-1)) false l0_0 a0_1) else ((tree_Tree_is.f l0_0 a0_1 a1).bind fun t144 => (tree_Begin.j0 k a1 (a1 != (-1)) (!t144) l0_0 a0_1))) = some (r1, r2, r3, r4) := h
  clear h
  have HC3 := am_ H
  clear H
  go_enter Try.func18, Try.ntmps18
  go_upto_region 2 with (first | ((with_reducible refine gate_dst (N := 2) rfl ?_); refine box_event ?hg (N := 2) ?hd (cs := #[.slice A0_0 l0_0.length c0_0, .int .i64 a0_1]) (t := 48) ?hr ?_; (case hd => rfl); (case hg => rfl); (case hr => first | (go_simp; done) | (go_simp; rfl)); intro gb142 hg w4 hbox hb; have n0_ := am_ (below_step (be_ HB.out) hb); have n1_ := am_ (hbox); have n2_ := am_ ((by rw [hg]; exact (below_size (be_ HB.out)) : w.heap.size ≤ gb142)); have n3_ := am_ ((by rw [hg]; exact (below_size (be_ HB.out)) : w.heap.size ≤ gb142)); clear HB; have HB := n0_; have BK142 := n1_; have GW142 := n2_; have GE142 := n3_; clear n0_ n1_ n2_ n3_; clear hb hbox hg) | ((with_reducible refine gate_dst (N := 4) rfl ?_); refine box_event ?hg (N := 4) ?hd (cs := #[.slice none 0 0, .int .i64 0]) (t := 48) ?hr ?_; (case hd => rfl); (case hg => rfl); (case hr => first | (go_simp; done) | (go_simp; rfl)); intro gb143 hg w5 hbox hb; have n0_ := am_ (bb_ BK142.out hb); have n1_ := am_ (below_step (be_ HB.out) hb); have n2_ := am_ (hbox); have n3_ := am_ ((by rw [hg]; exact (below_size (be_ HB.out)) : w.heap.size ≤ gb143)); have n4_ := am_ ((by rw [hg]; exact (below_size (be_ HB.out)) : w.heap.size ≤ gb143)); have n5_ := am_ ((by rw [hg]; exact Nat.ne_of_lt (bl_ BK142.out) : gb142 ≠ gb143)); have n6_ := am_ ((by rw [hg]; exact Nat.ne_of_gt (bl_ BK142.out) : gb143 ≠ gb142)); clear BK142; clear HB; have BK142 := n0_; have HB := n1_; have BK143 := n2_; have GW143 := n3_; have GE143 := n4_; have NB142_143 := n5_; have NB143_142 := n6_; clear n0_ n1_ n2_ n3_ n4_ n5_ n6_; clear hb hbox hg))
  (try simp only [Act.put, List.setIfInBounds_toArray, List.set_cons_zero, List.set_cons_succ])
  go_cut [7, 10] (fun v7 v10 wc => ∃ (kq : Nat) (x7 x10_2 : Bool), v7 = .bool x7 ∧ Aside0 (x7 = (a1 != (-1))) ∧ v10 = .bool x10_2 ∧ Aside0 (tree_Begin.j0 kq a1 (a1 != (-1)) x10_2 l0_0 a0_1 = some (r1, r2, r3, r4)) ∧ Aside0 (kq ≤ k) ∧ Aside0 (wc.heap[gb142]? = some (.cells #[(.slice A0_0 l0_0.length c0_0), .int .i64 a0_1] 48 (0, 0))) ∧ Aside0 (wc.heap[gb143]? = some (.cells #[(.slice none 0 0), .int .i64 0] 48 (0, 0))) ∧ Aside0 (Below w.heap.size w wc))
  case first =>
    have H := HC3.out
    clear HC3
    by_cases c6 : a1 = (-1)
    · rw [if_pos c6] at H
      have c6b0 : (a1 == (-1)) = true := beq_iff_eq.mpr c6
      have c6b1 : (a1 != (-1)) = false := bne_eq_false_iff_eq.mpr c6
      clear c6
      (first | rw [c6b0] | (simp only [i64_w, i32_w]; rw [c6b0]) | skip)
      have H' := am_ H
      clear H
      go_wp2
      go_meet
      case rel => exact ⟨_, _, (false), rfl, ⟨by first | exact c6b1.symm | rfl⟩, (by first | rfl | (simp; done) | (simp [*]; done)), H', ⟨by first | omega | exact Nat.le_refl _⟩, ⟨bk_ BK142.out⟩, ⟨bk_ BK143.out⟩, ⟨be_ HB.out⟩⟩
    · rw [if_neg c6] at H
      have c6b0 : (a1 == (-1)) = false := beq_eq_false_iff_ne.mpr c6
      have c6b1 : (a1 != (-1)) = true := bne_iff_ne.mpr c6
      (first | rw [c6b0] | (simp only [i64_w, i32_w]; rw [c6b0]) | skip)
      replace H := Option.bind_eq_some_iff.mp H
      obtain ⟨t144, A70, H⟩ := H
      replace H : (tree_Begin.j0 k a1 (a1 != (-1)) (!t144) l0_0 a0_1) = some (r1, r2, r3, r4) := H
      have A7 := am_ A70
      clear A70
      have H' := am_ H
      clear H
      have hnb8 := NB142_143.out
      have hnc8 := NB143_142.out
      have hcz9_0 : w5.cell? ⟨gb142, 0, none⟩ = some (.slice A0_0 l0_0.length c0_0) := (blk_cell BK142.out 0).trans rfl
      have hcz9_1 : w5.cell? ⟨gb142, 1, none⟩ = some (.int .i64 a0_1) := (blk_cell BK142.out 1).trans rfl
      have hfz9_0 := blk_frozen BK142.out 0
      have hfz9_1 := blk_frozen BK142.out 1
      go_wp2_with (first | (go_at_call 44; (with_reducible refine (tree_Tree_is.calls _ _ l0_0 a0_1 a1 t144 _ ?side1 ?side2 A7.out).mono ?_); (case side1 => repeat (first | exact (Kd.C_below HR0_0.out HB.out) | (with_reducible refine Kd.C_alloc ?_ _) | (with_reducible refine Kd.C_drewN ?_ _) | (with_reducible refine Kd.C_drew ?_))); (case side2 => exact HC0_0.out); rintro e w10 ⟨rfl, hb⟩; have n0_ := am_ (bb_ BK142.out hb); have n1_ := am_ (bb_ BK143.out hb); have n2_ := am_ (below_step (be_ HB.out) hb); clear BK142; clear BK143; clear HB; have BK142 := n0_; have BK143 := n1_; have HB := n2_; clear n0_ n1_ n2_; (try clear hb); (try clear hb2); (try clear hk); (try clear hi)))
      go_meet
      case rel => exact ⟨_, _, (!t144), rfl, ⟨by first | exact c6b1.symm | rfl⟩, (by first | rfl | (simp; done) | (simp [*]; done)), H', ⟨by first | omega | exact Nat.le_refl _⟩, ⟨bk_ BK142.out⟩, ⟨bk_ BK143.out⟩, ⟨be_ HB.out⟩⟩
  case rest =>
    clear HC3
    try clear c1
    try clear p2
    try clear c6
    try clear c6b0
    try clear c6b1
    try clear c8
    try clear hcz9_0
    try clear hcz9_1
    try clear hfz9_0
    try clear hfz9_1
    obtain ⟨kq, x7, x10_2, rfl, hx7, rfl, HA, HJ2, BK142, BK143, HB⟩ := hcut
    replace hx7 := hx7.out
    subst hx7
    cases kq with
    | zero => exact absurd HA.out (by simp [tree_Begin.j0])
    | succ kj2 =>
      have H := HA.out
      clear HA
      simp only [tree_Begin.j0] at H
      by_cases c11 : x10_2 = true
      · subst c11
        have H1 : (some (([] : List (S95)), 0, 0, 6)) = some (r1, r2, r3, r4) := by rw [if_pos rfl] at H; exact H
        clear H
        have H := H1
        clear H1
        simp only [Option.some.injEq, Prod.mk.injEq] at H
        obtain ⟨rfl, rfl, rfl, rfl⟩ := H
        have hnb12 := NB143_142.out
        have hnc12 := NB142_143.out
        have hcz13_0 : wc.cell? ⟨gb143, 0, none⟩ = some (.slice none 0 0) := (blk_cell BK143.out 0).trans rfl
        have hcz13_1 : wc.cell? ⟨gb143, 1, none⟩ = some (.int .i64 0) := (blk_cell BK143.out 1).trans rfl
        have hfz13_0 := blk_frozen BK143.out 0
        have hfz13_1 := blk_frozen BK143.out 1
        go_wp2
        refine bodyPost_ret (results_ctt rfl _ _ gb143 48 #[.slice none 0 0, .int .i64 0] (0, 0) _ rfl (by (with_reducible repeat (first | refine blk_drewN ?_ _ | refine blk_drew ?_ | refine blk_alloc ?_ _)); refine blk_put (cs := #[.slice none 0 0, .int .i64 0]) ?_ 1 _ rfl; (with_reducible repeat (first | refine blk_drewN ?_ _ | refine blk_drew ?_ | refine blk_alloc ?_ _)); refine blk_put (cs := #[.slice none 0 0, .int .i64 0]) ?_ 0 _ rfl; (with_reducible repeat (first | refine blk_drewN ?_ _ | refine blk_drew ?_ | refine blk_alloc ?_ _)); exact BK143.out) Try.underlying48 rfl (by kernel_rfl)) rfl ?_
        exact ⟨_, by first | rfl | (simp [errW_none, errW_some] <;> rfl) | (simp [*, errW_none, errW_some] <;> rfl), by first | exact Kd.R_nil _ _ _ _ _ | exact Kd.N_nil _ _ _ _ _ | exact Kd.V_nil _ _ _ _ _ | exact Kd.Q_nil _ _ _ _ _ | exact Kd.S_nil _ _ _ _ _, be_ HB.out⟩
      · replace c11 := Bool.eq_false_iff.mpr c11
        subst c11
        have H1 : (if (a1 != (-1)) = true then (if 0 ≤ a1 then (if a1 < (l0_0.length : Int) then (tree_Begin.j1 kj2 a1 (a1 != (-1)) (((rd_T95 l0_0 a1).f1) != 1) l0_0 a0_1) else (none)) else (none)) else (tree_Begin.j1 kj2 a1 (a1 != (-1)) false l0_0 a0_1)) = some (r1, r2, r3, r4) := by rw [if_neg (show ¬ (false = true) by decide)] at H; exact H
        clear H
        have H := H1
        clear H1
        have HC14 := am_ H
        clear H
        go_upto_region 4 with (fail)
        go_cut [7, 19] (fun v7 v19 wc => ∃ (kq : Nat) (x7 x19_13 : Bool), v7 = .bool x7 ∧ Aside0 (x7 = (a1 != (-1))) ∧ v19 = .bool x19_13 ∧ Aside0 (tree_Begin.j1 kq a1 (a1 != (-1)) x19_13 l0_0 a0_1 = some (r1, r2, r3, r4)) ∧ Aside0 (kq ≤ kj2) ∧ Aside0 (wc.heap[gb142]? = some (.cells #[(.slice A0_0 l0_0.length c0_0), .int .i64 a0_1] 48 (0, 0))) ∧ Aside0 (wc.heap[gb143]? = some (.cells #[(.slice none 0 0), .int .i64 0] 48 (0, 0))) ∧ Aside0 (Below w.heap.size w wc))
        case first =>
          have H := HC14.out
          clear HC14
          by_cases c15 : (a1 != (-1)) = true
          · rw [if_pos c15] at H
            have c15b0 : (a1 != (-1)) = true := c15
            (try (have c15b1 : decide (a1 = (-1)) = false := by simpa using c15))
            (try (have c15b2 : (a1 == (-1)) = false := by simpa using c15))
            (try (have c15b3 : ¬ (a1 = (-1)) := by simpa using c15))
            clear c15
            (first | rw [c15b0] | (simp only [i64_w, i32_w]; rw [c15b0]) | skip)
            by_cases c16 : 0 ≤ a1
            · rw [if_pos c16] at H
              have c16b0 : decide (0 ≤ a1) = true := decide_eq_true c16
              clear c16
              by_cases c17 : a1 < (l0_0.length : Int)
              · rw [if_pos c17] at H
                have c17b0 : decide (a1 < (l0_0.length : Int)) = true := decide_eq_true c17
                clear c17
                have H' := am_ H
                clear H
                have hnb18 := NB142_143.out
                have hnc18 := NB143_142.out
                have hcz19_0 : wc.cell? ⟨gb142, 0, none⟩ = some (.slice A0_0 l0_0.length c0_0) := (blk_cell BK142.out 0).trans rfl
                have hcz19_1 : wc.cell? ⟨gb142, 1, none⟩ = some (.int .i64 a0_1) := (blk_cell BK142.out 1).trans rfl
                have hfz19_0 := blk_frozen BK142.out 0
                have hfz19_1 := blk_frozen BK142.out 1
                have p145 : 0 ≤ (a1 : Int) := of_decide_eq_true (by first | (with_reducible assumption) | assumption)
                have q145 : a1 < (l0_0.length : Int) := of_decide_eq_true (by first | (with_reducible assumption) | assumption)
                obtain ⟨ad145, e145, hx145_0, hx145_1, hx145_2, hx145_3⟩ := at_T95 HR0_0.out a1 p145 q145
                cases e145
                replace hx145_0 := (HB.out.cell (World.block_lt_of_cell? w _ hx145_0)).trans hx145_0
                replace hx145_1 := (HB.out.cell (World.block_lt_of_cell? w _ hx145_1)).trans hx145_1
                replace hx145_2 := (HB.out.cell (World.block_lt_of_cell? w _ hx145_2)).trans hx145_2
                replace hx145_3 := (HB.out.cell (World.block_lt_of_cell? w _ hx145_3)).trans hx145_3
                replace p145 := eq_true p145
                replace q145 := eq_true q145
                go_wp2
                go_meet
                case rel => exact ⟨_, _, ((((rd_T95 l0_0 a1).f1) != 1)), rfl, ⟨by first | exact c15b0.symm | rfl⟩, (by first | rfl | (simp; done) | (simp [*]; done)), H', ⟨by have := HJ2.out; first | omega | exact Nat.le_refl _⟩, ⟨bk_ BK142.out⟩, ⟨bk_ BK143.out⟩, ⟨be_ HB.out⟩⟩
              · rw [if_neg c17] at H
                exact absurd H (by simp)
            · rw [if_neg c16] at H
              exact absurd H (by simp)
          · rw [if_neg c15] at H
            have c15b0 : (a1 != (-1)) = false := by simpa using c15
            (try (have c15b1 : decide (a1 = (-1)) = true := by simpa using c15))
            (try (have c15b2 : (a1 == (-1)) = true := by simpa using c15))
            clear c15
            (first | rw [c15b0] | (simp only [i64_w, i32_w]; rw [c15b0]) | skip)
            have H' := am_ H
            clear H
            go_wp2
            go_meet
            case rel => exact ⟨_, _, (false), rfl, ⟨by first | exact c15b0.symm | rfl⟩, (by first | rfl | (simp; done) | (simp [*]; done)), H', ⟨by have := HJ2.out; first | omega | exact Nat.le_refl _⟩, ⟨bk_ BK142.out⟩, ⟨bk_ BK143.out⟩, ⟨be_ HB.out⟩⟩
        case rest =>
          clear HC14
          try clear c1
          try clear p1
          try clear q1
          try clear hx1
          try clear p2
          try clear c6
          try clear c6b0
          try clear c6b1
          try clear c8
          try clear c11
          try clear c12
          try clear p14
          try clear q14
          try clear hx14
          try clear c15
          try clear c15b0
          try clear c15b1
          try clear c15b2
          try clear c16
          try clear c16b0
          try clear c17
          try clear c17b0
          try clear c18
          try clear hcz13_0
          try clear hcz13_1
          try clear hcz19_0
          try clear hcz19_1
          try clear hcz9_0
          try clear hcz9_1
          try clear hfz13_0
          try clear hfz13_1
          try clear hfz19_0
          try clear hfz19_1
          try clear hfz9_0
          try clear hfz9_1
          try clear hx145_0
          try clear hx145_1
          try clear hx145_2
          try clear hx145_3
          try clear p145
          try clear p2
          try clear q145
          obtain ⟨kq, x7, x19_13, rfl, hx7, rfl, HA, HJ13, BK142, BK143, HB⟩ := hcut
          replace hx7 := hx7.out
          subst hx7
          cases kq with
          | zero => exact absurd HA.out (by simp [tree_Begin.j1])
          | succ kj13 =>
            have H := HA.out
            clear HA
            simp only [tree_Begin.j1] at H
            by_cases c20 : x19_13 = true
            · subst c20
              have H1 : (some (([] : List (S95)), 0, 0, 7)) = some (r1, r2, r3, r4) := by rw [if_pos rfl] at H; exact H
              clear H
              have H := H1
              clear H1
              simp only [Option.some.injEq, Prod.mk.injEq] at H
              obtain ⟨rfl, rfl, rfl, rfl⟩ := H
              have hnb21 := NB143_142.out
              have hnc21 := NB142_143.out
              have hcz22_0 : wc.cell? ⟨gb143, 0, none⟩ = some (.slice none 0 0) := (blk_cell BK143.out 0).trans rfl
              have hcz22_1 : wc.cell? ⟨gb143, 1, none⟩ = some (.int .i64 0) := (blk_cell BK143.out 1).trans rfl
              have hfz22_0 := blk_frozen BK143.out 0
              have hfz22_1 := blk_frozen BK143.out 1
              go_wp2
              refine bodyPost_ret (results_ctt rfl _ _ gb143 48 #[.slice none 0 0, .int .i64 0] (0, 0) _ rfl (by (with_reducible repeat (first | refine blk_drewN ?_ _ | refine blk_drew ?_ | refine blk_alloc ?_ _)); refine blk_put (cs := #[.slice none 0 0, .int .i64 0]) ?_ 1 _ rfl; (with_reducible repeat (first | refine blk_drewN ?_ _ | refine blk_drew ?_ | refine blk_alloc ?_ _)); refine blk_put (cs := #[.slice none 0 0, .int .i64 0]) ?_ 0 _ rfl; (with_reducible repeat (first | refine blk_drewN ?_ _ | refine blk_drew ?_ | refine blk_alloc ?_ _)); exact BK143.out) Try.underlying48 rfl (by kernel_rfl)) rfl ?_
              exact ⟨_, by first | rfl | (simp [errW_none, errW_some] <;> rfl) | (simp [*, errW_none, errW_some] <;> rfl), by first | exact Kd.R_nil _ _ _ _ _ | exact Kd.N_nil _ _ _ _ _ | exact Kd.V_nil _ _ _ _ _ | exact Kd.Q_nil _ _ _ _ _ | exact Kd.S_nil _ _ _ _ _, be_ HB.out⟩
            · replace c20 := Bool.eq_false_iff.mpr c20
              subst c20
              have H1 : (if (l0_0.length : Int) ≥ 64 then (some (([] : List (S95)), 0, 0, 13)) else (if (a1 != (-1)) = true then ((tree_Deep.f l0_0 a0_1 a1).bind fun t146 => (if t146 ≥ 8 then (some (([] : List (S95)), 0, 0, 13)) else ((tree_Tree_tick.f l0_0 a0_1).bind fun bt147 => (if bt147.1.length < 4398046511104 then ((some (bt147.1 ++ [(⟨a1, 1, bt147.2, 0⟩ : S95)] : List (S95))).bind fun y151 => (some (y151, bt147.2, wrap64 ((y151.length : Int) - 1), 0))) else (none))))) else ((tree_Tree_tick.f l0_0 a0_1).bind fun bt154 => (if bt154.1.length < 4398046511104 then ((some (bt154.1 ++ [(⟨a1, 1, bt154.2, 0⟩ : S95)] : List (S95))).bind fun y158 => (some (y158, bt154.2, wrap64 ((y158.length : Int) - 1), 0))) else (none))))) = some (r1, r2, r3, r4) := by rw [if_neg (show ¬ (false = true) by decide)] at H; exact H
              clear H
              have H := H1
              clear H1
              by_cases c23 : (l0_0.length : Int) ≥ 64
              · rw [if_pos c23] at H
                have c23b0 : decide (64 ≤ (l0_0.length : Int)) = true := decide_eq_true c23
                have c23b1 : decide (64 ≤ l0_0.length) = true := decide_eq_true (by omega)
                clear c23
                simp only [Option.some.injEq, Prod.mk.injEq] at H
                obtain ⟨rfl, rfl, rfl, rfl⟩ := H
                have hnb24 := NB142_143.out
                have hnc24 := NB143_142.out
                have hcz25_0 : wc.cell? ⟨gb142, 0, none⟩ = some (.slice A0_0 l0_0.length c0_0) := (blk_cell BK142.out 0).trans rfl
                have hcz25_1 : wc.cell? ⟨gb142, 1, none⟩ = some (.int .i64 a0_1) := (blk_cell BK142.out 1).trans rfl
                have hfz25_0 := blk_frozen BK142.out 0
                have hfz25_1 := blk_frozen BK142.out 1
                have hcz26_0 : wc.cell? ⟨gb143, 0, none⟩ = some (.slice none 0 0) := (blk_cell BK143.out 0).trans rfl
                have hcz26_1 : wc.cell? ⟨gb143, 1, none⟩ = some (.int .i64 0) := (blk_cell BK143.out 1).trans rfl
                have hfz26_0 := blk_frozen BK143.out 0
                have hfz26_1 := blk_frozen BK143.out 1
                go_wp2
                refine bodyPost_ret (results_ctt rfl _ _ gb143 48 #[.slice none 0 0, .int .i64 0] (0, 0) _ rfl (by (with_reducible repeat (first | refine blk_drewN ?_ _ | refine blk_drew ?_ | refine blk_alloc ?_ _)); refine blk_put (cs := #[.slice none 0 0, .int .i64 0]) ?_ 1 _ rfl; (with_reducible repeat (first | refine blk_drewN ?_ _ | refine blk_drew ?_ | refine blk_alloc ?_ _)); refine blk_put (cs := #[.slice none 0 0, .int .i64 0]) ?_ 0 _ rfl; (with_reducible repeat (first | refine blk_drewN ?_ _ | refine blk_drew ?_ | refine blk_alloc ?_ _)); exact BK143.out) Try.underlying48 rfl (by kernel_rfl)) rfl ?_
                exact ⟨_, by first | rfl | (simp [errW_none, errW_some] <;> rfl) | (simp [*, errW_none, errW_some] <;> rfl), by first | exact Kd.R_nil _ _ _ _ _ | exact Kd.N_nil _ _ _ _ _ | exact Kd.V_nil _ _ _ _ _ | exact Kd.Q_nil _ _ _ _ _ | exact Kd.S_nil _ _ _ _ _, be_ HB.out⟩
              · rw [if_neg c23] at H
                have c23b0 : decide (64 ≤ (l0_0.length : Int)) = false := decide_eq_false c23
                have c23b1 : decide (64 ≤ l0_0.length) = false := decide_eq_false (by omega)
                clear c23
                by_cases c27 : (a1 != (-1)) = true
                · rw [if_pos c27] at H
                  have c27b0 : (a1 != (-1)) = true := c27
                  (try (have c27b1 : decide (a1 = (-1)) = false := by simpa using c27))
                  (try (have c27b2 : (a1 == (-1)) = false := by simpa using c27))
                  (try (have c27b3 : ¬ (a1 = (-1)) := by simpa using c27))
                  clear c27
                  replace H := Option.bind_eq_some_iff.mp H
                  obtain ⟨t146, A280, H⟩ := H
                  replace H : (if t146 ≥ 8 then (some (([] : List (S95)), 0, 0, 13)) else ((tree_Tree_tick.f l0_0 a0_1).bind fun bt147 => (if bt147.1.length < 4398046511104 then ((some (bt147.1 ++ [(⟨a1, 1, bt147.2, 0⟩ : S95)] : List (S95))).bind fun y151 => (some (y151, bt147.2, wrap64 ((y151.length : Int) - 1), 0))) else (none)))) = some (r1, r2, r3, r4) := H
                  have A28 := am_ A280
                  clear A280
                  by_cases c29 : t146 ≥ 8
                  · rw [if_pos c29] at H
                    have c29b0 : decide (8 ≤ t146) = true := decide_eq_true c29
                    clear c29
                    simp only [Option.some.injEq, Prod.mk.injEq] at H
                    obtain ⟨rfl, rfl, rfl, rfl⟩ := H
                    have hnb30 := NB142_143.out
                    have hnc30 := NB143_142.out
                    have hcz31_0 : wc.cell? ⟨gb142, 0, none⟩ = some (.slice A0_0 l0_0.length c0_0) := (blk_cell BK142.out 0).trans rfl
                    have hcz31_1 : wc.cell? ⟨gb142, 1, none⟩ = some (.int .i64 a0_1) := (blk_cell BK142.out 1).trans rfl
                    have hfz31_0 := blk_frozen BK142.out 0
                    have hfz31_1 := blk_frozen BK142.out 1
                    go_wp2_with (first | (go_at_call 45; (with_reducible refine (tree_Deep.calls _ _ l0_0 a0_1 a1 t146 _ ?side1 ?side2 A28.out).mono ?_); (case side1 => repeat (first | exact (Kd.C_below HR0_0.out HB.out) | (with_reducible refine Kd.C_alloc ?_ _) | (with_reducible refine Kd.C_drewN ?_ _) | (with_reducible refine Kd.C_drew ?_))); (case side2 => exact HC0_0.out); rintro e w32 ⟨rfl, hb⟩; have n0_ := am_ (bb_ BK142.out hb); have n1_ := am_ (bb_ BK143.out hb); have n2_ := am_ (below_step (be_ HB.out) hb); clear BK142; clear BK143; clear HB; have BK142 := n0_; have BK143 := n1_; have HB := n2_; clear n0_ n1_ n2_; (try clear hb); (try clear hb2); (try clear hk); (try clear hi); have hcz33_0 : w32.cell? ⟨gb143, 0, none⟩ = some (.slice none 0 0) := (blk_cell BK143.out 0).trans rfl; have hcz33_1 : w32.cell? ⟨gb143, 1, none⟩ = some (.int .i64 0) := (blk_cell BK143.out 1).trans rfl; have hfz33_0 := blk_frozen BK143.out 0; have hfz33_1 := blk_frozen BK143.out 1))
                    refine bodyPost_ret (results_ctt rfl _ _ gb143 48 #[.slice none 0 0, .int .i64 0] (0, 0) _ rfl (by (with_reducible repeat (first | refine blk_drewN ?_ _ | refine blk_drew ?_ | refine blk_alloc ?_ _)); refine blk_put (cs := #[.slice none 0 0, .int .i64 0]) ?_ 1 _ rfl; (with_reducible repeat (first | refine blk_drewN ?_ _ | refine blk_drew ?_ | refine blk_alloc ?_ _)); refine blk_put (cs := #[.slice none 0 0, .int .i64 0]) ?_ 0 _ rfl; (with_reducible repeat (first | refine blk_drewN ?_ _ | refine blk_drew ?_ | refine blk_alloc ?_ _)); exact BK143.out) Try.underlying48 rfl (by kernel_rfl)) rfl ?_
                    exact ⟨_, by first | rfl | (simp [errW_none, errW_some] <;> rfl) | (simp [*, errW_none, errW_some] <;> rfl), by first | exact Kd.R_nil _ _ _ _ _ | exact Kd.N_nil _ _ _ _ _ | exact Kd.V_nil _ _ _ _ _ | exact Kd.Q_nil _ _ _ _ _ | exact Kd.S_nil _ _ _ _ _, be_ HB.out⟩
                  · rw [if_neg c29] at H
                    have c29b0 : decide (8 ≤ t146) = false := decide_eq_false c29
                    clear c29
                    replace H := Option.bind_eq_some_iff.mp H
                    obtain ⟨⟨t147, t150⟩, A340, H⟩ := H
                    replace H : (if t147.length < 4398046511104 then ((some (t147 ++ [(⟨a1, 1, t150, 0⟩ : S95)] : List (S95))).bind fun y151 => (some (y151, t150, wrap64 ((y151.length : Int) - 1), 0))) else (none)) = some (r1, r2, r3, r4) := H
                    have A34 := am_ A340
                    clear A340
                    by_cases c35 : t147.length < 4398046511104
                    · rw [if_pos c35] at H
                      have LMc35 := am_ c35
                      clear c35
                      obtain ⟨y151, hy151⟩ : ∃ y_ : List (S95), y_ = (t147 ++ [(⟨a1, 1, t150, 0⟩ : S95)]) := ⟨_, rfl⟩
                      replace H : (some (y151, t150, wrap64 ((y151.length : Int) - 1), 0)) = some (r1, r2, r3, r4) := by first | (rw [hy151]; with_reducible exact H) | (have H2_ := (Option.bind_some _ _).symm.trans H; rw [hy151]; with_reducible exact H2_) | (have H2_ := (Option.bind_some _ _).symm.trans H; with_reducible exact H2_) | with_reducible exact H | (rw [hy151]; exact H) | exact H
                      have Ny151 := am_ hy151
                      clear hy151
                      simp only [Option.some.injEq, Prod.mk.injEq] at H
                      obtain ⟨rfl, rfl, rfl, rfl⟩ := H
                      have hnb36 := NB142_143.out
                      have hnc36 := NB143_142.out
                      have hcz37_0 : wc.cell? ⟨gb142, 0, none⟩ = some (.slice A0_0 l0_0.length c0_0) := (blk_cell BK142.out 0).trans rfl
                      have hcz37_1 : wc.cell? ⟨gb142, 1, none⟩ = some (.int .i64 a0_1) := (blk_cell BK142.out 1).trans rfl
                      have hfz37_0 := blk_frozen BK142.out 0
                      have hfz37_1 := blk_frozen BK142.out 1
                      try go_wp2_with (first | (go_at_call 45; (with_reducible refine (tree_Deep.calls _ _ l0_0 a0_1 a1 t146 _ ?side1 ?side2 A28.out).mono ?_); (case side1 => repeat (first | exact (Kd.C_below HR0_0.out HB.out) | (with_reducible refine Kd.C_alloc ?_ _) | (with_reducible refine Kd.C_drewN ?_ _) | (with_reducible refine Kd.C_drew ?_))); (case side2 => exact HC0_0.out); rintro e w38 ⟨rfl, hb⟩; have n0_ := am_ (bb_ BK142.out hb); have n1_ := am_ (bb_ BK143.out hb); have n2_ := am_ (below_step (be_ HB.out) hb); clear BK142; clear BK143; clear HB; have BK142 := n0_; have BK143 := n1_; have HB := n2_; clear n0_ n1_ n2_; (try clear hb); (try clear hb2); (try clear hk); (try clear hi); have hcz39_0 : w38.cell? ⟨gb142, 0, none⟩ = some (.slice A0_0 l0_0.length c0_0) := (blk_cell BK142.out 0).trans rfl; have hcz39_1 : w38.cell? ⟨gb142, 1, none⟩ = some (.int .i64 a0_1) := (blk_cell BK142.out 1).trans rfl; have hfz39_0 := blk_frozen BK142.out 0; have hfz39_1 := blk_frozen BK142.out 1) | ((with_reducible refine gate_callee (f := 46) rfl ?_); refine goesL_ (some 47) rfl rfl Try.func46 (by kernel_rfl) rfl #[.agg #[.slice A0_0 l0_0.length c0_0, .int .i64 a0_1]] rfl ma_ ?_; (with_reducible refine (tree_Tree_tick.calls _ _ l0_0 a0_1 t147 t150 _ ?side1 ?side2 A34.out).mono ?_); (case side1 => repeat (first | exact (Kd.C_below HR0_0.out HB.out) | (with_reducible refine Kd.C_alloc ?_ _) | (with_reducible refine Kd.C_drewN ?_ _) | (with_reducible refine Kd.C_drew ?_))); (case side2 => exact HC0_0.out); rintro e w40 ⟨v148, rfl, ho0, hb⟩; refine ⟨_, rfl, ?_⟩; have n0_ := am_ (Kd.R_lower ho0 (below_size (be_ HB.out))); have n1_ := am_ (bb_ BK142.out hb); have n2_ := am_ (bb_ BK143.out hb); have n3_ := am_ (below_step (be_ HB.out) hb); clear BK142; clear BK143; clear HB; have HO149 := n0_; have BK142 := n1_; have BK143 := n2_; have HB := n3_; clear n0_ n1_ n2_ n3_; (try clear hb); (try clear hb2); (try clear hk); (try clear hi); (try clear ho0); obtain ⟨Ao41, co41, eo41⟩ := Kd.R_slice HO149.out; subst eo41; have hcz42_0 : w40.cell? ⟨gb142, 0, none⟩ = some (.slice A0_0 l0_0.length c0_0) := (blk_cell BK142.out 0).trans rfl; have hcz42_1 : w40.cell? ⟨gb142, 1, none⟩ = some (.int .i64 a0_1) := (blk_cell BK142.out 1).trans rfl; have hfz42_0 := blk_frozen BK142.out 0; have hfz42_1 := blk_frozen BK142.out 1) | ((with_reducible refine gate_builtin (b := .append) (xs := #[.tmp 49, .tmp 54]) rfl ?_); at_builtin; refine Kd.R_append k95 (w0 := w) w.heap.size rfl (.tmp 49) (.tmp 54) 46 95 (.agg #[(.int .i64 0), (.int .i64 0), (.int .i64 0), (.int .i64 0)]) 32 rfl Try.underlying46 info95 rfl (by decide) (by omega) (.slice Ao41 t147.length co41) t147 (⟨a1, 1, t150, 0⟩ : S95) [.int .i64 a1, .int .i64 1, .int .i64 t150, .int .i64 0] (fun _ => True) (fun _ => False) rfl (by first | (go_simp; done) | (go_simp; rfl)) ?aP (fun _ hk => hk.elim) ?aF ?aO ?aB ?aS ?aL ?_; (case aP => exact k95_mkM _ _ _ (⟨a1, 1, t150, 0⟩ : S95)); (case aB => exact (be_ HB.out)); (case aF => exact (fun _ _ => trivial)); (case aO => exact (by (with_reducible repeat (first | apply Kd.R_alloc | apply Kd.R_drewN | apply Kd.R_drew)); exact Kd.R_mono (Kd.R_far (p := ⟨gb142, 1, none⟩) (Kd.R_far (p := ⟨gb142, 0, none⟩) (Kd.R_types HO149.out BK142.out (by decide)) (fun _ hk => hk.2) (.slice Ao41 t147.length co41)) (fun _ hk => hk.2) (.int .i64 t150)) (fun _ hk => trivial))); (case aS => exact (below_size (be_ HB.out))); (case aL => have := LMc35.out; omega); intro v152 w43 ho hb hg hat; rw [← Ny151.out] at ho; have n0_ := am_ (blk_grown (g := gb142) (o := .cells #[.slice Ao41 t147.length co41, .int .i64 t150] 48 (0, 0)) (by (with_reducible repeat (first | refine blk_drewN ?_ _ | refine blk_drew ?_ | refine blk_alloc ?_ _)); refine blk_put (cs := #[.slice Ao41 t147.length co41, .int .i64 a0_1]) ?_ 1 _ rfl; (with_reducible repeat (first | refine blk_drewN ?_ _ | refine blk_drew ?_ | refine blk_alloc ?_ _)); refine blk_put (cs := #[.slice A0_0 l0_0.length c0_0, .int .i64 a0_1]) ?_ 0 _ rfl; (with_reducible repeat (first | refine blk_drewN ?_ _ | refine blk_drew ?_ | refine blk_alloc ?_ _)); exact BK142.out) hg (Kd.R_ne HO149.out BK142.out (by decide))); have n1_ := am_ (blk_grown (g := gb143) (o := .cells #[.slice none 0 0, .int .i64 0] 48 (0, 0)) (by (with_reducible repeat (first | refine blk_drewN ?_ _ | refine blk_drew ?_ | refine blk_alloc ?_ _)); refine blk_far ?_ NB143_142.out _; (with_reducible repeat (first | refine blk_drewN ?_ _ | refine blk_drew ?_ | refine blk_alloc ?_ _)); refine blk_far ?_ NB143_142.out _; (with_reducible repeat (first | refine blk_drewN ?_ _ | refine blk_drew ?_ | refine blk_alloc ?_ _)); exact BK143.out) hg (Kd.R_ne HO149.out BK143.out (by decide))); have n2_ := am_ (hb); have n3_ := am_ (ho); clear BK142; clear BK143; clear HB; clear HO149; have BK142 := n0_; have BK143 := n1_; have HB := n2_; have HO153 := n3_; clear n0_ n1_ n2_ n3_; clear ho hb hg hat; obtain ⟨Ao44, co44, eo44⟩ := Kd.R_slice HO153.out; subst eo44; have hcz45_0 : w43.cell? ⟨gb142, 0, none⟩ = some (.slice Ao41 t147.length co41) := (blk_cell BK142.out 0).trans rfl; have hcz45_1 : w43.cell? ⟨gb142, 1, none⟩ = some (.int .i64 t150) := (blk_cell BK142.out 1).trans rfl; have hfz45_0 := blk_frozen BK142.out 0; have hfz45_1 := blk_frozen BK142.out 1))
                      have n0_ : Aside0 (Kd.R k95 95 (w43.setCell ⟨gb142, 0, none⟩ (.slice Ao44 y151.length co44)) w.heap.size (fun _ => True) (.slice Ao44 y151.length co44) y151) := ⟨by (with_reducible repeat (first | apply Kd.R_alloc | apply Kd.R_drewN | apply Kd.R_drew)); exact Kd.R_mono (Kd.R_far (p := ⟨gb142, 0, none⟩) (Kd.R_types HO153.out BK142.out (by decide)) (fun _ hk => hk.2) (.slice Ao44 y151.length co44)) (fun _ hk => trivial)⟩
                      have n1_ : Aside0 ((w43.setCell ⟨gb142, 0, none⟩ (.slice Ao44 y151.length co44)).heap[gb142]? = some (.cells #[.slice Ao44 y151.length co44, .int .i64 t150] 48 (0, 0))) := ⟨by (with_reducible repeat (first | refine blk_drewN ?_ _ | refine blk_drew ?_ | refine blk_alloc ?_ _)); refine blk_put (cs := #[.slice Ao41 t147.length co41, .int .i64 t150]) ?_ 0 _ rfl; (with_reducible repeat (first | refine blk_drewN ?_ _ | refine blk_drew ?_ | refine blk_alloc ?_ _)); exact BK142.out⟩
                      have n2_ : Aside0 ((w43.setCell ⟨gb142, 0, none⟩ (.slice Ao44 y151.length co44)).heap[gb143]? = some (.cells #[.slice none 0 0, .int .i64 0] 48 (0, 0))) := ⟨by (with_reducible repeat (first | refine blk_drewN ?_ _ | refine blk_drew ?_ | refine blk_alloc ?_ _)); refine blk_far ?_ NB143_142.out _; (with_reducible repeat (first | refine blk_drewN ?_ _ | refine blk_drew ?_ | refine blk_alloc ?_ _)); exact BK143.out⟩
                      have n3_ : Aside0 (Below w.heap.size w (w43.setCell ⟨gb142, 0, none⟩ (.slice Ao44 y151.length co44))) := ⟨be_ HB.out⟩
                      (try clear HO153)
                      (try clear BK142)
                      (try clear BK143)
                      (try clear HB)
                      generalize (w43.setCell ⟨gb142, 0, none⟩ (.slice Ao44 y151.length co44)) = w46 at n0_ n1_ n2_ n3_ ⊢
                      have HO153 := n0_
                      have BK142 := n1_
                      have BK143 := n2_
                      have HB := n3_
                      clear n0_ n1_ n2_ n3_
                      have n0_ := am_ (Kd.R_drew HO153.out)
                      have n1_ := am_ (blk_drew BK142.out)
                      have n2_ := am_ (blk_drew BK143.out)
                      have n3_ := am_ (below_drew1 HB.out)
                      clear HO153
                      clear BK142
                      clear BK143
                      clear HB
                      have HO153 := n0_
                      have BK142 := n1_
                      have BK143 := n2_
                      have HB := n3_
                      clear n0_ n1_ n2_ n3_
                      refine start_ (n := 8) (S := fun w' => w'.cell? ⟨gb142, 0, none⟩ = some (.slice Ao44 y151.length co44) ∧ w'.cell? ⟨gb142, 1, none⟩ = some (.int .i64 t150)) (ds := []) #[false, false, false, false, false, false, false, false] (by kernel_rfl) rfl rfl ⟨(blk_cell BK142.out 0).trans rfl, (blk_cell BK142.out 1).trans rfl⟩ (fun hHeld => ?_); refine with_tabW tree_Begin.tab10 tree_Begin.bits10 (fun HT_ HW_ => ?_)
                      generalize w46.drew = w47 at HO153 BK142 BK143 HB hHeld ⊢
                      refine pure_ (i := 1) (N := some 58) (v := ?_) (a' := ?_) #[false, true, false, false, false, false, false, false] rfl rfl (any_of HT_.out (by kernel_rfl)) (fun _ _ _ h => h) (Or.inl ⟨by rfl, ?_⟩) ?_ ?_
                      rotate_left
                      · intro w'
                        go_simp
                        with_reducible rfl
                      rotate_left
                      · simp only [Act.put, List.setIfInBounds_toArray, List.set_cons_zero, List.set_cons_succ, i64_w, i32_w]
                        rfl
                      refine take_ (i := 0) (N := some 57) (v := ?_) (a' := ?_) #[true, true, false, false, false, false, false, false] rfl rfl (take_ofW HT_.out HW_.out (by kernel_rfl)) (fun _ _ _ h => h) (Or.inl ⟨by rfl, ?_⟩) hHeld ?_ ?_
                      rotate_left
                      · rintro w' ⟨s0, s1⟩
                        go_simp
                        with_reducible rfl
                      rotate_left
                      · simp only [Act.put, List.setIfInBounds_toArray, List.set_cons_zero, List.set_cons_succ, i64_w, i32_w]
                        rfl
                      refine take_ (i := 2) (N := some 59) (v := ?_) (a' := ?_) #[true, true, true, false, false, false, false, false] rfl rfl (take_ofW HT_.out HW_.out (by kernel_rfl)) (fun _ _ _ h => h) (Or.inl ⟨by rfl, ?_⟩) hHeld ?_ ?_
                      rotate_left
                      · rintro w' ⟨s0, s1⟩
                        go_simp
                        with_reducible rfl
                      rotate_left
                      · simp only [Act.put, List.setIfInBounds_toArray, List.set_cons_zero, List.set_cons_succ, i64_w, i32_w]
                        rfl
                      refine pure_ (i := 3) (N := some 60) (v := ?_) (a' := ?_) #[true, true, true, true, false, false, false, false] rfl rfl (any_of HT_.out (by kernel_rfl)) (fun _ _ _ h => h) (Or.inl ⟨by rfl, ?_⟩) ?_ ?_
                      rotate_left
                      · intro w'
                        go_simp
                        with_reducible rfl
                      rotate_left
                      · simp only [Act.put, List.setIfInBounds_toArray, List.set_cons_zero, List.set_cons_succ, i64_w, i32_w]
                        rfl
                      refine pure_ (i := 4) (N := some 61) (v := ?_) (a' := ?_) #[true, true, true, true, true, false, false, false] rfl rfl (any_of HT_.out (by kernel_rfl)) (fun _ _ _ h => h) (Or.inl ⟨by rfl, ?_⟩) ?_ ?_
                      rotate_left
                      · intro w'
                        go_simp
                        with_reducible rfl
                      rotate_left
                      · simp only [Act.put, List.setIfInBounds_toArray, List.set_cons_zero, List.set_cons_succ, i64_w, i32_w]
                        rfl
                      refine one_ (i := 5) (N := none) #[true, true, true, true, true, true, false, false] rfl rfl (one_of HT_.out (by kernel_rfl)) (by decide) (fun K hK => ?_)
                      have hs48 : w47.cell? ⟨gb143, 0, none⟩ = some (.slice none 0 0) := (blk_cell BK143.out 0).trans rfl
                      have hfs48 := blk_frozen BK143.out 0
                      have hns48_0 := NB142_143.out
                      have hms48_0 := NB143_142.out
                      have hs49 : w47.cell? ⟨gb143, 1, none⟩ = some (.int .i64 0) := (blk_cell BK143.out 1).trans rfl
                      have hfs49 := blk_frozen BK143.out 1
                      have hns49_0 := NB142_143.out
                      have hms49_0 := NB143_142.out
                      refine skip_ (w1 := ?_) (by rfl) rfl ?_ ?_
                      rotate_left
                      · go_simp
                        rfl
                      refine hK.out _ _ ⟨((cell_far (p := ⟨gb143, _, none⟩) NB142_143.out _).trans (((cell_far (p := ⟨gb143, _, none⟩) NB142_143.out _).trans (hHeld.1)))), ((cell_far (p := ⟨gb143, _, none⟩) NB142_143.out _).trans (((cell_far (p := ⟨gb143, _, none⟩) NB142_143.out _).trans (hHeld.2))))⟩ (fun hHeld => ?_)
                      clear hK K
                      refine pure_ (i := 6) (N := some 5) (v := ?_) (a' := ?_) #[true, true, true, true, true, true, true, false] rfl rfl (any_of HT_.out (by kernel_rfl)) (fun _ _ _ h => h) (Or.inl ⟨by rfl, ?_⟩) ?_ ?_
                      rotate_left
                      · intro w'
                        go_simp
                        with_reducible rfl
                      rotate_left
                      · simp only [Act.put, List.setIfInBounds_toArray, List.set_cons_zero, List.set_cons_succ, i64_w, i32_w]
                        rfl
                      refine pure_ (i := 7) (N := some 6) (v := ?_) (a' := ?_) #[true, true, true, true, true, true, true, true] rfl rfl (any_of HT_.out (by kernel_rfl)) (fun _ _ _ h => h) (Or.inl ⟨by rfl, ?_⟩) ?_ ?_
                      rotate_left
                      · intro w'
                        go_simp
                        with_reducible rfl
                      rotate_left
                      · simp only [Act.put, List.setIfInBounds_toArray, List.set_cons_zero, List.set_cons_succ, i64_w, i32_w]
                        rfl
                      refine done_ (done_of HT_.out (by kernel_rfl)) ?_
                      try go_wp2
                      refine bodyPost_ret (results_ctt rfl _ _ gb143 48 #[.slice Ao44 y151.length co44, .int .i64 t150] (0, 0) _ rfl (by (with_reducible repeat (first | refine blk_drewN ?_ _ | refine blk_drew ?_ | refine blk_alloc ?_ _)); refine blk_put (cs := #[.slice Ao44 y151.length co44, .int .i64 0]) ?_ 1 _ rfl; (with_reducible repeat (first | refine blk_drewN ?_ _ | refine blk_drew ?_ | refine blk_alloc ?_ _)); refine blk_put (cs := #[.slice none 0 0, .int .i64 0]) ?_ 0 _ rfl; (with_reducible repeat (first | refine blk_drewN ?_ _ | refine blk_drew ?_ | refine blk_alloc ?_ _)); exact BK143.out) Try.underlying48 rfl (by kernel_rfl)) rfl ?_
                      exact ⟨_, by first | rfl | (simp [errW_none, errW_some] <;> rfl) | (simp [*, errW_none, errW_some] <;> rfl), by (with_reducible repeat (first | apply Kd.R_alloc | apply Kd.R_drewN | apply Kd.R_drew)); exact Kd.R_mono (Kd.R_far (p := ⟨gb143, 1, none⟩) (Kd.R_far (p := ⟨gb143, 0, none⟩) (Kd.R_types HO153.out BK143.out (by decide)) (fun _ hk => hk.2) (.slice Ao44 y151.length co44)) (fun _ hk => hk.2) (.int .i64 t150)) (fun _ hk => trivial), be_ HB.out⟩
                    · rw [if_neg c35] at H
                      exact absurd H (by simp)
                · rw [if_neg c27] at H
                  have c27b0 : (a1 != (-1)) = false := by simpa using c27
                  (try (have c27b1 : decide (a1 = (-1)) = true := by simpa using c27))
                  (try (have c27b2 : (a1 == (-1)) = true := by simpa using c27))
                  clear c27
                  replace H := Option.bind_eq_some_iff.mp H
                  obtain ⟨⟨t154, t157⟩, A500, H⟩ := H
                  replace H : (if t154.length < 4398046511104 then ((some (t154 ++ [(⟨a1, 1, t157, 0⟩ : S95)] : List (S95))).bind fun y158 => (some (y158, t157, wrap64 ((y158.length : Int) - 1), 0))) else (none)) = some (r1, r2, r3, r4) := H
                  have A50 := am_ A500
                  clear A500
                  by_cases c51 : t154.length < 4398046511104
                  · rw [if_pos c51] at H
                    have LMc51 := am_ c51
                    clear c51
                    obtain ⟨y158, hy158⟩ : ∃ y_ : List (S95), y_ = (t154 ++ [(⟨a1, 1, t157, 0⟩ : S95)]) := ⟨_, rfl⟩
                    replace H : (some (y158, t157, wrap64 ((y158.length : Int) - 1), 0)) = some (r1, r2, r3, r4) := by first | (rw [hy158]; with_reducible exact H) | (have H2_ := (Option.bind_some _ _).symm.trans H; rw [hy158]; with_reducible exact H2_) | (have H2_ := (Option.bind_some _ _).symm.trans H; with_reducible exact H2_) | with_reducible exact H | (rw [hy158]; exact H) | exact H
                    have Ny158 := am_ hy158
                    clear hy158
                    simp only [Option.some.injEq, Prod.mk.injEq] at H
                    obtain ⟨rfl, rfl, rfl, rfl⟩ := H
                    have hnb52 := NB142_143.out
                    have hnc52 := NB143_142.out
                    have hcz53_0 : wc.cell? ⟨gb142, 0, none⟩ = some (.slice A0_0 l0_0.length c0_0) := (blk_cell BK142.out 0).trans rfl
                    have hcz53_1 : wc.cell? ⟨gb142, 1, none⟩ = some (.int .i64 a0_1) := (blk_cell BK142.out 1).trans rfl
                    have hfz53_0 := blk_frozen BK142.out 0
                    have hfz53_1 := blk_frozen BK142.out 1
                    try go_wp2_with (first | ((with_reducible refine gate_callee (f := 46) rfl ?_); refine goesL_ (some 47) rfl rfl Try.func46 (by kernel_rfl) rfl #[.agg #[.slice A0_0 l0_0.length c0_0, .int .i64 a0_1]] rfl ma_ ?_; (with_reducible refine (tree_Tree_tick.calls _ _ l0_0 a0_1 t154 t157 _ ?side1 ?side2 A50.out).mono ?_); (case side1 => repeat (first | exact (Kd.C_below HR0_0.out HB.out) | (with_reducible refine Kd.C_alloc ?_ _) | (with_reducible refine Kd.C_drewN ?_ _) | (with_reducible refine Kd.C_drew ?_))); (case side2 => exact HC0_0.out); rintro e w54 ⟨v155, rfl, ho0, hb⟩; refine ⟨_, rfl, ?_⟩; have n0_ := am_ (Kd.R_lower ho0 (below_size (be_ HB.out))); have n1_ := am_ (bb_ BK142.out hb); have n2_ := am_ (bb_ BK143.out hb); have n3_ := am_ (below_step (be_ HB.out) hb); clear BK142; clear BK143; clear HB; have HO156 := n0_; have BK142 := n1_; have BK143 := n2_; have HB := n3_; clear n0_ n1_ n2_ n3_; (try clear hb); (try clear hb2); (try clear hk); (try clear hi); (try clear ho0); obtain ⟨Ao55, co55, eo55⟩ := Kd.R_slice HO156.out; subst eo55; have hcz56_0 : w54.cell? ⟨gb142, 0, none⟩ = some (.slice A0_0 l0_0.length c0_0) := (blk_cell BK142.out 0).trans rfl; have hcz56_1 : w54.cell? ⟨gb142, 1, none⟩ = some (.int .i64 a0_1) := (blk_cell BK142.out 1).trans rfl; have hfz56_0 := blk_frozen BK142.out 0; have hfz56_1 := blk_frozen BK142.out 1) | ((with_reducible refine gate_builtin (b := .append) (xs := #[.tmp 49, .tmp 54]) rfl ?_); at_builtin; refine Kd.R_append k95 (w0 := w) w.heap.size rfl (.tmp 49) (.tmp 54) 46 95 (.agg #[(.int .i64 0), (.int .i64 0), (.int .i64 0), (.int .i64 0)]) 32 rfl Try.underlying46 info95 rfl (by decide) (by omega) (.slice Ao55 t154.length co55) t154 (⟨a1, 1, t157, 0⟩ : S95) [.int .i64 a1, .int .i64 1, .int .i64 t157, .int .i64 0] (fun _ => True) (fun _ => False) rfl (by first | (go_simp; done) | (go_simp; rfl)) ?aP (fun _ hk => hk.elim) ?aF ?aO ?aB ?aS ?aL ?_; (case aP => exact k95_mkM _ _ _ (⟨a1, 1, t157, 0⟩ : S95)); (case aB => exact (be_ HB.out)); (case aF => exact (fun _ _ => trivial)); (case aO => exact (by (with_reducible repeat (first | apply Kd.R_alloc | apply Kd.R_drewN | apply Kd.R_drew)); exact Kd.R_mono (Kd.R_far (p := ⟨gb142, 1, none⟩) (Kd.R_far (p := ⟨gb142, 0, none⟩) (Kd.R_types HO156.out BK142.out (by decide)) (fun _ hk => hk.2) (.slice Ao55 t154.length co55)) (fun _ hk => hk.2) (.int .i64 t157)) (fun _ hk => trivial))); (case aS => exact (below_size (be_ HB.out))); (case aL => have := LMc51.out; omega); intro v159 w57 ho hb hg hat; rw [← Ny158.out] at ho; have n0_ := am_ (blk_grown (g := gb142) (o := .cells #[.slice Ao55 t154.length co55, .int .i64 t157] 48 (0, 0)) (by (with_reducible repeat (first | refine blk_drewN ?_ _ | refine blk_drew ?_ | refine blk_alloc ?_ _)); refine blk_put (cs := #[.slice Ao55 t154.length co55, .int .i64 a0_1]) ?_ 1 _ rfl; (with_reducible repeat (first | refine blk_drewN ?_ _ | refine blk_drew ?_ | refine blk_alloc ?_ _)); refine blk_put (cs := #[.slice A0_0 l0_0.length c0_0, .int .i64 a0_1]) ?_ 0 _ rfl; (with_reducible repeat (first | refine blk_drewN ?_ _ | refine blk_drew ?_ | refine blk_alloc ?_ _)); exact BK142.out) hg (Kd.R_ne HO156.out BK142.out (by decide))); have n1_ := am_ (blk_grown (g := gb143) (o := .cells #[.slice none 0 0, .int .i64 0] 48 (0, 0)) (by (with_reducible repeat (first | refine blk_drewN ?_ _ | refine blk_drew ?_ | refine blk_alloc ?_ _)); refine blk_far ?_ NB143_142.out _; (with_reducible repeat (first | refine blk_drewN ?_ _ | refine blk_drew ?_ | refine blk_alloc ?_ _)); refine blk_far ?_ NB143_142.out _; (with_reducible repeat (first | refine blk_drewN ?_ _ | refine blk_drew ?_ | refine blk_alloc ?_ _)); exact BK143.out) hg (Kd.R_ne HO156.out BK143.out (by decide))); have n2_ := am_ (hb); have n3_ := am_ (ho); clear BK142; clear BK143; clear HB; clear HO156; have BK142 := n0_; have BK143 := n1_; have HB := n2_; have HO160 := n3_; clear n0_ n1_ n2_ n3_; clear ho hb hg hat; obtain ⟨Ao58, co58, eo58⟩ := Kd.R_slice HO160.out; subst eo58; have hcz59_0 : w57.cell? ⟨gb142, 0, none⟩ = some (.slice Ao55 t154.length co55) := (blk_cell BK142.out 0).trans rfl; have hcz59_1 : w57.cell? ⟨gb142, 1, none⟩ = some (.int .i64 t157) := (blk_cell BK142.out 1).trans rfl; have hfz59_0 := blk_frozen BK142.out 0; have hfz59_1 := blk_frozen BK142.out 1))
                    have n0_ : Aside0 (Kd.R k95 95 (w57.setCell ⟨gb142, 0, none⟩ (.slice Ao58 y158.length co58)) w.heap.size (fun _ => True) (.slice Ao58 y158.length co58) y158) := ⟨by (with_reducible repeat (first | apply Kd.R_alloc | apply Kd.R_drewN | apply Kd.R_drew)); exact Kd.R_mono (Kd.R_far (p := ⟨gb142, 0, none⟩) (Kd.R_types HO160.out BK142.out (by decide)) (fun _ hk => hk.2) (.slice Ao58 y158.length co58)) (fun _ hk => trivial)⟩
                    have n1_ : Aside0 ((w57.setCell ⟨gb142, 0, none⟩ (.slice Ao58 y158.length co58)).heap[gb142]? = some (.cells #[.slice Ao58 y158.length co58, .int .i64 t157] 48 (0, 0))) := ⟨by (with_reducible repeat (first | refine blk_drewN ?_ _ | refine blk_drew ?_ | refine blk_alloc ?_ _)); refine blk_put (cs := #[.slice Ao55 t154.length co55, .int .i64 t157]) ?_ 0 _ rfl; (with_reducible repeat (first | refine blk_drewN ?_ _ | refine blk_drew ?_ | refine blk_alloc ?_ _)); exact BK142.out⟩
                    have n2_ : Aside0 ((w57.setCell ⟨gb142, 0, none⟩ (.slice Ao58 y158.length co58)).heap[gb143]? = some (.cells #[.slice none 0 0, .int .i64 0] 48 (0, 0))) := ⟨by (with_reducible repeat (first | refine blk_drewN ?_ _ | refine blk_drew ?_ | refine blk_alloc ?_ _)); refine blk_far ?_ NB143_142.out _; (with_reducible repeat (first | refine blk_drewN ?_ _ | refine blk_drew ?_ | refine blk_alloc ?_ _)); exact BK143.out⟩
                    have n3_ : Aside0 (Below w.heap.size w (w57.setCell ⟨gb142, 0, none⟩ (.slice Ao58 y158.length co58))) := ⟨be_ HB.out⟩
                    (try clear HO160)
                    (try clear BK142)
                    (try clear BK143)
                    (try clear HB)
                    generalize (w57.setCell ⟨gb142, 0, none⟩ (.slice Ao58 y158.length co58)) = w60 at n0_ n1_ n2_ n3_ ⊢
                    have HO160 := n0_
                    have BK142 := n1_
                    have BK143 := n2_
                    have HB := n3_
                    clear n0_ n1_ n2_ n3_
                    have n0_ := am_ (Kd.R_drew HO160.out)
                    have n1_ := am_ (blk_drew BK142.out)
                    have n2_ := am_ (blk_drew BK143.out)
                    have n3_ := am_ (below_drew1 HB.out)
                    clear HO160
                    clear BK142
                    clear BK143
                    clear HB
                    have HO160 := n0_
                    have BK142 := n1_
                    have BK143 := n2_
                    have HB := n3_
                    clear n0_ n1_ n2_ n3_
                    refine start_ (n := 8) (S := fun w' => w'.cell? ⟨gb142, 0, none⟩ = some (.slice Ao58 y158.length co58) ∧ w'.cell? ⟨gb142, 1, none⟩ = some (.int .i64 t157)) (ds := []) #[false, false, false, false, false, false, false, false] (by kernel_rfl) rfl rfl ⟨(blk_cell BK142.out 0).trans rfl, (blk_cell BK142.out 1).trans rfl⟩ (fun hHeld => ?_); refine with_tabW tree_Begin.tab10 tree_Begin.bits10 (fun HT_ HW_ => ?_)
                    generalize w60.drew = w61 at HO160 BK142 BK143 HB hHeld ⊢
                    refine pure_ (i := 1) (N := some 58) (v := ?_) (a' := ?_) #[false, true, false, false, false, false, false, false] rfl rfl (any_of HT_.out (by kernel_rfl)) (fun _ _ _ h => h) (Or.inl ⟨by rfl, ?_⟩) ?_ ?_
                    rotate_left
                    · intro w'
                      go_simp
                      with_reducible rfl
                    rotate_left
                    · simp only [Act.put, List.setIfInBounds_toArray, List.set_cons_zero, List.set_cons_succ, i64_w, i32_w]
                      rfl
                    refine take_ (i := 0) (N := some 57) (v := ?_) (a' := ?_) #[true, true, false, false, false, false, false, false] rfl rfl (take_ofW HT_.out HW_.out (by kernel_rfl)) (fun _ _ _ h => h) (Or.inl ⟨by rfl, ?_⟩) hHeld ?_ ?_
                    rotate_left
                    · rintro w' ⟨s0, s1⟩
                      go_simp
                      with_reducible rfl
                    rotate_left
                    · simp only [Act.put, List.setIfInBounds_toArray, List.set_cons_zero, List.set_cons_succ, i64_w, i32_w]
                      rfl
                    refine take_ (i := 2) (N := some 59) (v := ?_) (a' := ?_) #[true, true, true, false, false, false, false, false] rfl rfl (take_ofW HT_.out HW_.out (by kernel_rfl)) (fun _ _ _ h => h) (Or.inl ⟨by rfl, ?_⟩) hHeld ?_ ?_
                    rotate_left
                    · rintro w' ⟨s0, s1⟩
                      go_simp
                      with_reducible rfl
                    rotate_left
                    · simp only [Act.put, List.setIfInBounds_toArray, List.set_cons_zero, List.set_cons_succ, i64_w, i32_w]
                      rfl
                    refine pure_ (i := 3) (N := some 60) (v := ?_) (a' := ?_) #[true, true, true, true, false, false, false, false] rfl rfl (any_of HT_.out (by kernel_rfl)) (fun _ _ _ h => h) (Or.inl ⟨by rfl, ?_⟩) ?_ ?_
                    rotate_left
                    · intro w'
                      go_simp
                      with_reducible rfl
                    rotate_left
                    · simp only [Act.put, List.setIfInBounds_toArray, List.set_cons_zero, List.set_cons_succ, i64_w, i32_w]
                      rfl
                    refine pure_ (i := 4) (N := some 61) (v := ?_) (a' := ?_) #[true, true, true, true, true, false, false, false] rfl rfl (any_of HT_.out (by kernel_rfl)) (fun _ _ _ h => h) (Or.inl ⟨by rfl, ?_⟩) ?_ ?_
                    rotate_left
                    · intro w'
                      go_simp
                      with_reducible rfl
                    rotate_left
                    · simp only [Act.put, List.setIfInBounds_toArray, List.set_cons_zero, List.set_cons_succ, i64_w, i32_w]
                      rfl
                    refine one_ (i := 5) (N := none) #[true, true, true, true, true, true, false, false] rfl rfl (one_of HT_.out (by kernel_rfl)) (by decide) (fun K hK => ?_)
                    have hs62 : w61.cell? ⟨gb143, 0, none⟩ = some (.slice none 0 0) := (blk_cell BK143.out 0).trans rfl
                    have hfs62 := blk_frozen BK143.out 0
                    have hns62_0 := NB142_143.out
                    have hms62_0 := NB143_142.out
                    have hs63 : w61.cell? ⟨gb143, 1, none⟩ = some (.int .i64 0) := (blk_cell BK143.out 1).trans rfl
                    have hfs63 := blk_frozen BK143.out 1
                    have hns63_0 := NB142_143.out
                    have hms63_0 := NB143_142.out
                    refine skip_ (w1 := ?_) (by rfl) rfl ?_ ?_
                    rotate_left
                    · go_simp
                      rfl
                    refine hK.out _ _ ⟨((cell_far (p := ⟨gb143, _, none⟩) NB142_143.out _).trans (((cell_far (p := ⟨gb143, _, none⟩) NB142_143.out _).trans (hHeld.1)))), ((cell_far (p := ⟨gb143, _, none⟩) NB142_143.out _).trans (((cell_far (p := ⟨gb143, _, none⟩) NB142_143.out _).trans (hHeld.2))))⟩ (fun hHeld => ?_)
                    clear hK K
                    refine pure_ (i := 6) (N := some 5) (v := ?_) (a' := ?_) #[true, true, true, true, true, true, true, false] rfl rfl (any_of HT_.out (by kernel_rfl)) (fun _ _ _ h => h) (Or.inl ⟨by rfl, ?_⟩) ?_ ?_
                    rotate_left
                    · intro w'
                      go_simp
                      with_reducible rfl
                    rotate_left
                    · simp only [Act.put, List.setIfInBounds_toArray, List.set_cons_zero, List.set_cons_succ, i64_w, i32_w]
                      rfl
                    refine pure_ (i := 7) (N := some 6) (v := ?_) (a' := ?_) #[true, true, true, true, true, true, true, true] rfl rfl (any_of HT_.out (by kernel_rfl)) (fun _ _ _ h => h) (Or.inl ⟨by rfl, ?_⟩) ?_ ?_
                    rotate_left
                    · intro w'
                      go_simp
                      with_reducible rfl
                    rotate_left
                    · simp only [Act.put, List.setIfInBounds_toArray, List.set_cons_zero, List.set_cons_succ, i64_w, i32_w]
                      rfl
                    refine done_ (done_of HT_.out (by kernel_rfl)) ?_
                    try go_wp2
                    refine bodyPost_ret (results_ctt rfl _ _ gb143 48 #[.slice Ao58 y158.length co58, .int .i64 t157] (0, 0) _ rfl (by (with_reducible repeat (first | refine blk_drewN ?_ _ | refine blk_drew ?_ | refine blk_alloc ?_ _)); refine blk_put (cs := #[.slice Ao58 y158.length co58, .int .i64 0]) ?_ 1 _ rfl; (with_reducible repeat (first | refine blk_drewN ?_ _ | refine blk_drew ?_ | refine blk_alloc ?_ _)); refine blk_put (cs := #[.slice none 0 0, .int .i64 0]) ?_ 0 _ rfl; (with_reducible repeat (first | refine blk_drewN ?_ _ | refine blk_drew ?_ | refine blk_alloc ?_ _)); exact BK143.out) Try.underlying48 rfl (by kernel_rfl)) rfl ?_
                    exact ⟨_, by first | rfl | (simp [errW_none, errW_some] <;> rfl) | (simp [*, errW_none, errW_some] <;> rfl), by (with_reducible repeat (first | apply Kd.R_alloc | apply Kd.R_drewN | apply Kd.R_drew)); exact Kd.R_mono (Kd.R_far (p := ⟨gb143, 1, none⟩) (Kd.R_far (p := ⟨gb143, 0, none⟩) (Kd.R_types HO160.out BK143.out (by decide)) (fun _ hk => hk.2) (.slice Ao58 y158.length co58)) (fun _ hk => hk.2) (.int .i64 t157)) (fun _ hk => trivial), be_ HB.out⟩
                  · rw [if_neg c51] at H
                    exact absurd H (by simp)

end Go.Proofs.Ytjpoepiidmoegaa.Q
