-- Cut to what one claim reaches, out of what the kit's print laid for this seat (wip/tools/trim.py).
import Derived.Test.YtjpoepiidmoegaaQ0
import Derived.Test.YtjpoepiidmoegaaQ4
import Derived.Test.YtjpoepiidmoegaaQ5
import Derived.Test.YtjpoepiidmoegaaQ6
import Derived.Test.YtjpoepiidmoegaaQ7
import Derived.Test.YtjpoepiidmoegaaOE
import Derived.Test.YtjpoepiidmoegaaOU
namespace Go.Proofs.Ytjpoepiidmoegaa.Q
open Go.RowKit Go.Proofs.YtjpoepiidmoegaaW.PrintWords Go.Proofs.YtjpoepiidmoegaaW.PrintLast Go.Proofs.YtjpoepiidmoegaaW.PrintMore
attribute [local go_sem] max2_int min2_int max_two min_two max_three min_three max_four min_four   -- for this text's walks alone
set_option linter.unusedVariables false
set_option linter.unusedSimpArgs false

mutual
def heronrylaw15_OplistOpens.j0 : Nat → Bool → Int → Bool → List (S33) → List (S33) → Option (Bool)
 | 0, _, _, _, _, _ => none
 | k + 1, x9, x11, x84, x173000, x178000 => if x84 = true then (none) else ((oplist_Undo.f x178000 (([x11] : List Int))).bind fun t189 => (heronrylaw15_OplistOpens.l0 k x9 x11 0 x173000 x178000 t189))
def heronrylaw15_OplistOpens.l0 : Nat → Bool → Int → Int → List (S33) → List (S33) → List (S33) → Option (Bool)
 | 0, _, _, _, _, _, _ => none
 | k + 1, x9, x11, x16, x173000, x178000, x193000 => if x16 < 8 then ((oplist_Open.f x173000 x16).bind fun t204 => ((oplist_Open.f x193000 x16).bind fun t207 => (if x16 = x11 then (if (t207.length : Int) = 0 then (heronrylaw15_OplistOpens.l0 k x9 x11 (wrap64 (x16 + 1)) x173000 x178000 x193000) else (none)) else ((heronrylaw15_theirs.f k t204).bind fun t210 => ((heronrylaw15_theirs.f k t207).bind fun t213 => ((heronryref15_Same.f k t210 t213).bind fun t216 => (if t216 = true then (heronrylaw15_OplistOpens.l0 k x9 x11 (wrap64 (x16 + 1)) x173000 x178000 x193000) else (none)))))))) else (if x9 = true then (if 0 ≤ (x178000.length : Int) then (if (x178000.length : Int) ≤ (x193000.length : Int) then ((heronrylaw15_theirs.f k (x193000.take ((x178000.length : Int) : Int).toNat)).bind fun t197 => ((heronrylaw15_theirs.f k x178000).bind fun t200 => ((heronryref15_Same.f k t197 t200).bind fun t203 => (some t203)))) else (none)) else (none)) else (none))
end
def heronrylaw15_OplistOpens.f (k : Nat) (l0 : List (S74)) (a1 : Int) (a2 : Int) (a3 : Int) : Option (Bool) := (heronrylaw15_awake.f k).bind fun t168 => (if (l0.length : Int) > 200 then (some t168) else ((heronrylaw15_grown.f k l0).bind fun t169 => ((oplist_Do.f k t169 (Go.bits .and .i64 a1 7) (Go.bits .and .i64 a2 3) a3).bind fun bt173 => (if bt173.2 = 0 then ((oplist_Open.f bt173.1 (Go.bits .and .i64 a1 7)).bind fun t178 => ((oplist_Open.f t169 (Go.bits .and .i64 a1 7)).bind fun t181 => (if (t178.length : Int) = (wrap64 ((t181.length : Int) + 1)) then (if 0 ≤ (wrap64 ((t178.length : Int) - 1)) then (if (wrap64 ((t178.length : Int) - 1)) < (t178.length : Int) then (if ((rd_T33 t178 (wrap64 ((t178.length : Int) - 1))).f2) = a3 then (heronrylaw15_OplistOpens.j0 k t168 (Go.bits .and .i64 a1 7) ((rd_T33 t178 (wrap64 ((t178.length : Int) - 1))).f3) t169 bt173.1) else (none)) else (none)) else (none)) else (none)))) else (if t168 = true then (if (bt173.1.length : Int) = 0 then (if bt173.2 = 13 then (some true) else (some (a3 == (-9223372036854775808)))) else (none)) else (none))))))
def heronrylaw15_OplistOpens.T20 : Bool × List (List Nat × List Nat) := (true, [([], []), ([0], [0]), ([1], [1]), ([2, 1], [1, 2]), ([1], [1]), ([4, 1], [1, 4]), ([5, 1], [1, 5]), ([3, 6, 1], [1, 3, 6]), ([7, 1, 1], [1, 7]), ([1], [1]), ([9, 1], [1, 9]), ([10, 8, 1], [1, 10]), ([8, 11, 11, 1], [1, 8, 11]), ([1, 12], [1, 12]), ([13, 12, 0, 1, 2, 3, 4, 5, 6, 7, 8, 9, 10, 11, 12, 13], [13])])
def heronrylaw15_OplistOpens.B20 : List Nat := [0, 1, 3, 7, 3, 19, 51, 127, 255, 3, 515, 2047, 4095, 8191, 16383]
theorem heronrylaw15_OplistOpens.tab20 : rtab .any (opsOf Try.f3 20) = heronrylaw15_OplistOpens.T20 := by kernel_rfl
theorem heronrylaw15_OplistOpens.bits20 : waitsOk heronrylaw15_OplistOpens.T20.2 heronrylaw15_OplistOpens.B20 = true := by kernel_rfl
set_option maxHeartbeats 8000000 in
set_option maxRecDepth 100000 in
theorem heronrylaw15_OplistOpens.calls (k : Nat) (A0 : Option Addr) (c0 : Nat) (l0 : List (S74)) (a1 : Int) (a2 : Int) (a3 : Int) (r : Bool) (w : World) (hT_ : Aside0 (r = true)) (hr0 : Kd.C k74 w A0 l0.length l0) (hc0 : l0.length ≤ c0) (h : heronrylaw15_OplistOpens.f k l0 a1 a2 a3 = some r) :
  Calls Try.prog 3 #[.slice A0 l0.length c0, .int .i64 a1, .int .i64 a2, .int .i64 a3] w fun e w' => e = .returned (.bool r) ∧ Below w.heap.size w w' := by
 have hu26 := Try.underlying26
 have HR0 := Aside0.mk hr0
 have HC0 := Aside0.mk hc0
 clear hr0 hc0
 have HB := Aside0.mk (Below.refl w.heap.size w)
 have H : ((heronrylaw15_awake.f k).bind fun t168 => (if (l0.length : Int) > 200 then (some t168) else ((heronrylaw15_grown.f k l0).bind fun t169 => ((oplist_Do.f k t169 (Go.bits .and .i64 a1 7) (Go.bits .and .i64 a2 3) a3).bind fun bt173 => (if bt173.2 = 0 then ((oplist_Open.f bt173.1 (Go.bits .and .i64 a1 7)).bind fun t178 => ((oplist_Open.f t169 (Go.bits .and .i64 a1 7)).bind fun t181 => (if (t178.length : Int) = (wrap64 ((t181.length : Int) + 1)) then (if 0 ≤ (wrap64 ((t178.length : Int) - 1)) then (if (wrap64 ((t178.length : Int) - 1)) < (t178.length : Int) then (if ((rd_T33 t178 (wrap64 ((t178.length : Int) - 1))).f2) = a3 then (heronrylaw15_OplistOpens.j0 k t168 (Go.bits .and .i64 a1 7) ((rd_T33 t178 (wrap64 ((t178.length : Int) - 1))).f3) t169 bt173.1) else (none)) else (none)) else (none)) else (none)))) else (if t168 = true then (if (bt173.1.length : Int) = 0 then (if bt173.2 = 13 then (some true) else (some (a3 == (-9223372036854775808)))) else (none)) else (none))))))) = some r := h
 clear h
 replace H := Option.bind_eq_some_iff.mp H
 obtain ⟨t168, A50, H⟩ := H
 replace H : (if (l0.length : Int) > 200 then (some t168) else ((heronrylaw15_grown.f k l0).bind fun t169 => ((oplist_Do.f k t169 (Go.bits .and .i64 a1 7) (Go.bits .and .i64 a2 3) a3).bind fun bt173 => (if bt173.2 = 0 then ((oplist_Open.f bt173.1 (Go.bits .and .i64 a1 7)).bind fun t178 => ((oplist_Open.f t169 (Go.bits .and .i64 a1 7)).bind fun t181 => (if (t178.length : Int) = (wrap64 ((t181.length : Int) + 1)) then (if 0 ≤ (wrap64 ((t178.length : Int) - 1)) then (if (wrap64 ((t178.length : Int) - 1)) < (t178.length : Int) then (if ((rd_T33 t178 (wrap64 ((t178.length : Int) - 1))).f2) = a3 then (heronrylaw15_OplistOpens.j0 k t168 (Go.bits .and .i64 a1 7) ((rd_T33 t178 (wrap64 ((t178.length : Int) - 1))).f3) t169 bt173.1) else (none)) else (none)) else (none)) else (none)))) else (if t168 = true then (if (bt173.1.length : Int) = 0 then (if bt173.2 = 13 then (some true) else (some (a3 == (-9223372036854775808)))) else (none)) else (none)))))) = some r := H
 have A5 := Aside0.mk A50
 clear A50
 by_cases c6 : (l0.length : Int) > 200
 ·rw [if_pos c6] at H
  have c6b0 : decide (200 < (l0.length : Int)) = true := decide_eq_true c6
  have c6b1 : decide (200 < l0.length) = true := decide_eq_true (by omega)
  clear c6
  obtain rfl := Option.some.inj H
  go_enter Try.func3, Try.ntmps3
  go_wp2_with (first | ((with_reducible refine gate_callee (f := 8) rfl ?_); refine goesL_ (some 19) rfl rfl Try.func8 (by kernel_rfl) rfl #[] rfl (by (try simp only [List.map_toArray, List.map_cons, List.map_nil]); first | done | rfl | (simp only [List.length_drop, List.length_take]; rfl)) ?_; (with_reducible refine (heronrylaw15_awake.calls k  t168 _ A5.out).mono ?_); rintro e w7 ⟨rfl, hb⟩; refine ⟨_, rfl, ?_⟩; have n0_ := Aside0.mk (below_step (by repeat (first | (with_reducible first | exact HB.out | apply below_alloc | apply pw_below_drewN | apply below_drew1) | exact HB.out)) hb); clear HB; have HB := n0_; clear n0_; (try clear hb); (try clear hb2); (try clear hk); (try clear hi)))
  go_ret
  exact ⟨by first | rfl | (simp [errW_none, errW_some] <;> rfl) | (simp [*, errW_none, errW_some] <;> rfl), by repeat (first | (with_reducible first | exact HB.out | apply below_alloc | apply pw_below_drewN | apply below_drew1) | exact HB.out)⟩
 ·rw [if_neg c6] at H
  have c6b0 : decide (200 < (l0.length : Int)) = false := decide_eq_false c6
  have c6b1 : decide (200 < l0.length) = false := decide_eq_false (by omega)
  clear c6
  replace H := Option.bind_eq_some_iff.mp H
  obtain ⟨t169, A80, H⟩ := H
  replace H : ((oplist_Do.f k t169 (Go.bits .and .i64 a1 7) (Go.bits .and .i64 a2 3) a3).bind fun bt173 => (if bt173.2 = 0 then ((oplist_Open.f bt173.1 (Go.bits .and .i64 a1 7)).bind fun t178 => ((oplist_Open.f t169 (Go.bits .and .i64 a1 7)).bind fun t181 => (if (t178.length : Int) = (wrap64 ((t181.length : Int) + 1)) then (if 0 ≤ (wrap64 ((t178.length : Int) - 1)) then (if (wrap64 ((t178.length : Int) - 1)) < (t178.length : Int) then (if ((rd_T33 t178 (wrap64 ((t178.length : Int) - 1))).f2) = a3 then (heronrylaw15_OplistOpens.j0 k t168 (Go.bits .and .i64 a1 7) ((rd_T33 t178 (wrap64 ((t178.length : Int) - 1))).f3) t169 bt173.1) else (none)) else (none)) else (none)) else (none)))) else (if t168 = true then (if (bt173.1.length : Int) = 0 then (if bt173.2 = 13 then (some true) else (some (a3 == (-9223372036854775808)))) else (none)) else (none)))) = some r := H
  have A8 := Aside0.mk A80
  clear A80
  replace H := Option.bind_eq_some_iff.mp H
  obtain ⟨⟨t173, t176⟩, A90, H⟩ := H
  replace H : (if t176 = 0 then ((oplist_Open.f t173 (Go.bits .and .i64 a1 7)).bind fun t178 => ((oplist_Open.f t169 (Go.bits .and .i64 a1 7)).bind fun t181 => (if (t178.length : Int) = (wrap64 ((t181.length : Int) + 1)) then (if 0 ≤ (wrap64 ((t178.length : Int) - 1)) then (if (wrap64 ((t178.length : Int) - 1)) < (t178.length : Int) then (if ((rd_T33 t178 (wrap64 ((t178.length : Int) - 1))).f2) = a3 then (heronrylaw15_OplistOpens.j0 k t168 (Go.bits .and .i64 a1 7) ((rd_T33 t178 (wrap64 ((t178.length : Int) - 1))).f3) t169 t173) else (none)) else (none)) else (none)) else (none)))) else (if t168 = true then (if (t173.length : Int) = 0 then (if t176 = 13 then (some true) else (some (a3 == (-9223372036854775808)))) else (none)) else (none))) = some r := H
  have A9 := Aside0.mk A90
  clear A90
  by_cases c10 : t176 = 0
  ·rw [if_pos c10] at H
   have c10b0 : (t176 == 0) = true := beq_iff_eq.mpr c10
   have c10b1 : (t176 != 0) = false := bne_eq_false_iff_eq.mpr c10
   clear c10
   replace H := Option.bind_eq_some_iff.mp H
   obtain ⟨t178, A110, H⟩ := H
   replace H : ((oplist_Open.f t169 (Go.bits .and .i64 a1 7)).bind fun t181 => (if (t178.length : Int) = (wrap64 ((t181.length : Int) + 1)) then (if 0 ≤ (wrap64 ((t178.length : Int) - 1)) then (if (wrap64 ((t178.length : Int) - 1)) < (t178.length : Int) then (if ((rd_T33 t178 (wrap64 ((t178.length : Int) - 1))).f2) = a3 then (heronrylaw15_OplistOpens.j0 k t168 (Go.bits .and .i64 a1 7) ((rd_T33 t178 (wrap64 ((t178.length : Int) - 1))).f3) t169 t173) else (none)) else (none)) else (none)) else (none))) = some r := H
   have A11 := Aside0.mk A110
   clear A110
   have HC12 := Aside0.mk H
   clear H
   go_enter Try.func3, Try.ntmps3
   go_upto_region 10 with (first | ((with_reducible refine gate_callee (f := 8) rfl ?_); refine goesL_ (some 19) rfl rfl Try.func8 (by kernel_rfl) rfl #[] rfl (by (try simp only [List.map_toArray, List.map_cons, List.map_nil]); first | done | rfl | (simp only [List.length_drop, List.length_take]; rfl)) ?_; (with_reducible refine (heronrylaw15_awake.calls k  t168 _ A5.out).mono ?_); rintro e w13 ⟨rfl, hb⟩; refine ⟨_, rfl, ?_⟩; have n0_ := Aside0.mk (below_step (by repeat (first | (with_reducible first | exact HB.out | apply below_alloc | apply pw_below_drewN | apply below_drew1) | exact HB.out)) hb); clear HB; have HB := n0_; clear n0_; (try clear hb); (try clear hb2); (try clear hk); (try clear hi)) | ((with_reducible refine gate_callee (f := 9) rfl ?_); refine goesL_ (some 25) rfl rfl Try.func9 (by kernel_rfl) rfl #[.slice A0 l0.length c0] rfl (by (try simp only [List.map_toArray, List.map_cons, List.map_nil]); first | done | rfl | (simp only [List.length_drop, List.length_take]; rfl)) ?_; (with_reducible refine (heronrylaw15_grown.calls k _ _ l0 t169 _ ?side1 ?side2 A8.out).mono ?_); (case side1 => repeat (first | exact (Kd.C_below HR0.out HB.out) | (with_reducible refine Kd.C_alloc ?_ _) | (with_reducible refine Kd.C_drewN ?_ _) | (with_reducible refine Kd.C_drew ?_))); (case side2 => exact HC0.out); rintro e w14 ⟨v170, rfl, ho0, hb⟩; refine ⟨_, rfl, ?_⟩; have n0_ := Aside0.mk (Kd.R_lower ho0 (below_size (by repeat (first | (with_reducible first | exact HB.out | apply below_alloc | apply pw_below_drewN | apply below_drew1) | exact HB.out)))); have n1_ := Aside0.mk (below_step (by repeat (first | (with_reducible first | exact HB.out | apply below_alloc | apply pw_below_drewN | apply below_drew1) | exact HB.out)) hb); clear HB; have HO171 := n0_; have HB := n1_; clear n0_ n1_; (try clear hb); (try clear hb2); (try clear hk); (try clear hi); (try clear ho0)) | ((with_reducible refine gate_dst (N := 10) rfl ?_); (try (refine gate_guard (by rfl) ?_; dsimp only)); refine box_event ?hg (N := 10) ?hd (cs := #[.slice none 0 0]) (t := 26) ?hr ?_; (case hd => rfl); (case hg => rfl); (case hr => first | (go_simp; done) | (go_simp; rfl)); intro gb172 hg w15 hbox hb; have n0_ := Aside0.mk (Kd.R_below (by (with_reducible repeat (first | apply Kd.R_alloc | apply Kd.R_drewN | apply Kd.R_drew)); exact HO171.out) hb); have n1_ := Aside0.mk (below_step (by repeat (first | (with_reducible first | exact HB.out | apply below_alloc | apply pw_below_drewN | apply below_drew1) | exact HB.out)) hb); have n2_ := Aside0.mk (hbox); have n3_ := Aside0.mk ((by rw [hg]; exact (below_size (by repeat (first | (with_reducible first | exact HB.out | apply below_alloc | apply pw_below_drewN | apply below_drew1) | exact HB.out))) : w.heap.size ≤ gb172)); have n4_ := Aside0.mk ((by rw [hg]; exact (below_size (by repeat (first | (with_reducible first | exact HB.out | apply below_alloc | apply pw_below_drewN | apply below_drew1) | exact HB.out))) : w.heap.size ≤ gb172)); clear HO171; clear HB; have HO171 := n0_; have HB := n1_; have BK172 := n2_; have GW172 := n3_; have GE172 := n4_; clear n0_ n1_ n2_ n3_ n4_; clear hb hbox hg; obtain ⟨Ao16, co16, eo16⟩ := Kd.R_slice HO171.out; subst eo16; have hcz17_0 : w15.cell? ⟨gb172, 0, none⟩ = some (.slice none 0 0) := (blk_cell BK172.out 0).trans rfl; have hfz17_0 := blk_frozen BK172.out 0) | ((with_reducible refine gate_callee (f := 10) rfl ?_); refine goesL_ (some 34) rfl rfl Try.func10 (by kernel_rfl) rfl #[.agg #[.slice Ao16 t169.length co16], .int .i64 (Go.bits .and .i64 a1 7), .int .i64 (Go.bits .and .i64 a2 3), .int .i64 a3] rfl (by (try simp only [List.map_toArray, List.map_cons, List.map_nil]); first | done | rfl | (simp only [List.length_drop, List.length_take]; rfl)) ?_; (with_reducible refine (oplist_Do.calls k _ _ t169 (Go.bits .and .i64 a1 7) (Go.bits .and .i64 a2 3) a3 t173 t176 _ ?side1 ?side2 A9.out).mono ?_); (case side1 => refine (Kd.R_reads' (e := 33) (base := w.heap.size) (ok := fun k_ => True) (n := t169.length) (c := co16) ?_).2.2; exact (by (with_reducible repeat (first | apply Kd.R_alloc | apply Kd.R_drewN | apply Kd.R_drew)); exact (Kd.R_mono (Kd.R_far (p := ⟨gb172, 0, none⟩) (Kd.R_types HO171.out BK172.out (by decide)) (fun _ hk => hk.2) (.slice Ao16 t169.length co16)) (fun _ h_ => h_.1)))); (case side2 => exact (Kd.R_reads' HO171.out).2.1); rintro e w18 ⟨v174, rfl, ho0, hb⟩; refine ⟨_, rfl, ?_⟩; have n0_ := Aside0.mk (Kd.R_elder' (by (with_reducible repeat (first | apply Kd.R_alloc | apply Kd.R_drewN | apply Kd.R_drew)); exact (Kd.R_mono (Kd.R_far (p := ⟨gb172, 0, none⟩) (Kd.R_types HO171.out BK172.out (by decide)) (fun _ hk => hk.2) (.slice Ao16 t169.length co16)) (fun _ h_ => h_.1))) (Kd.R_base ho0) hb); have n1_ := Aside0.mk (Kd.R_lower (Kd.R_new' ho0 (Kd.R_lt (by (with_reducible repeat (first | apply Kd.R_alloc | apply Kd.R_drewN | apply Kd.R_drew)); exact (Kd.R_mono (Kd.R_far (p := ⟨gb172, 0, none⟩) (Kd.R_types HO171.out BK172.out (by decide)) (fun _ hk => hk.2) (.slice Ao16 t169.length co16)) (fun _ h_ => h_.1))))) (below_size (by repeat (first | (with_reducible first | exact HB.out | apply below_alloc | apply pw_below_drewN | apply below_drew1 | refine below_set ?_ GE172.out) | exact HB.out)))); have n2_ := Aside0.mk (blk_below (g := gb172) (o := .cells #[.slice Ao16 t169.length co16] 26 (0, 0)) (by (with_reducible repeat (first | refine blk_drewN ?_ _ | refine blk_drew ?_ | refine blk_alloc ?_ _)); refine blk_put (cs := #[.slice none 0 0]) ?_ 0 _ rfl; (with_reducible repeat (first | refine blk_drewN ?_ _ | refine blk_drew ?_ | refine blk_alloc ?_ _)); exact BK172.out) hb); have n3_ := Aside0.mk (below_step (by repeat (first | (with_reducible first | exact HB.out | apply below_alloc | apply pw_below_drewN | apply below_drew1 | refine below_set ?_ GE172.out) | exact HB.out)) hb); clear HO171; clear BK172; clear HB; have HO171 := n0_; have HO175 := n1_; have BK172 := n2_; have HB := n3_; clear n0_ n1_ n2_ n3_; (try clear hb); (try clear hb2); (try clear hk); (try clear hi); (try clear ho0)) | ((with_reducible refine gate_dst (N := 12) rfl ?_); (try (refine gate_guard (by rfl) ?_; dsimp only)); refine box_event ?hg (N := 12) ?hd (cs := #[.slice none 0 0]) (t := 26) ?hr ?_; (case hd => rfl); (case hg => rfl); (case hr => first | (go_simp; done) | (go_simp; rfl)); intro gb177 hg w19 hbox hb; have n0_ := Aside0.mk (Kd.R_below (by (with_reducible repeat (first | apply Kd.R_alloc | apply Kd.R_drewN | apply Kd.R_drew)); exact HO171.out) hb); have n1_ := Aside0.mk (Kd.R_below (by (with_reducible repeat (first | apply Kd.R_alloc | apply Kd.R_drewN | apply Kd.R_drew)); exact HO175.out) hb); have n2_ := Aside0.mk (blk_below (g := gb172) (o := .cells #[.slice Ao16 t169.length co16] 26 (0, 0)) (by (with_reducible repeat (first | refine blk_drewN ?_ _ | refine blk_drew ?_ | refine blk_alloc ?_ _)); exact BK172.out) hb); have n3_ := Aside0.mk (below_step (by repeat (first | (with_reducible first | exact HB.out | apply below_alloc | apply pw_below_drewN | apply below_drew1 | refine below_set ?_ GE172.out) | exact HB.out)) hb); have n4_ := Aside0.mk (hbox); have n5_ := Aside0.mk ((by rw [hg]; exact (below_size (by repeat (first | (with_reducible first | exact HB.out | apply below_alloc | apply pw_below_drewN | apply below_drew1 | refine below_set ?_ GE172.out) | exact HB.out))) : w.heap.size ≤ gb177)); have n6_ := Aside0.mk ((by rw [hg]; exact (below_size (by repeat (first | (with_reducible first | exact HB.out | apply below_alloc | apply pw_below_drewN | apply below_drew1 | refine below_set ?_ GE172.out) | exact HB.out))) : w.heap.size ≤ gb177)); have n7_ := Aside0.mk ((by rw [hg]; exact Nat.ne_of_lt (blk_lt (g := gb172) (o := .cells #[.slice Ao16 t169.length co16] 26 (0, 0)) (by (with_reducible repeat (first | refine blk_drewN ?_ _ | refine blk_drew ?_ | refine blk_alloc ?_ _)); exact BK172.out)) : gb172 ≠ gb177)); have n8_ := Aside0.mk ((by rw [hg]; exact Nat.ne_of_gt (blk_lt (g := gb172) (o := .cells #[.slice Ao16 t169.length co16] 26 (0, 0)) (by (with_reducible repeat (first | refine blk_drewN ?_ _ | refine blk_drew ?_ | refine blk_alloc ?_ _)); exact BK172.out)) : gb177 ≠ gb172)); clear HO171; clear HO175; clear BK172; clear HB; have HO171 := n0_; have HO175 := n1_; have BK172 := n2_; have HB := n3_; have BK177 := n4_; have GW177 := n5_; have GE177 := n6_; have NB172_177 := n7_; have NB177_172 := n8_; clear n0_ n1_ n2_ n3_ n4_ n5_ n6_ n7_ n8_; clear hb hbox hg; obtain ⟨Ao20, co20, eo20⟩ := Kd.R_slice HO175.out; subst eo20; have hnb21 := NB177_172.out; have hnc21 := NB172_177.out; have hcz22_0 : w19.cell? ⟨gb177, 0, none⟩ = some (.slice none 0 0) := (blk_cell BK177.out 0).trans rfl; have hfz22_0 := blk_frozen BK177.out 0) | ((with_reducible refine gate_callee (f := 11) rfl ?_); refine goesL_ (some 56) rfl rfl Try.func11 (by kernel_rfl) rfl #[.agg #[.slice Ao20 t173.length co20], .int .i64 (Go.bits .and .i64 a1 7)] rfl (by (try simp only [List.map_toArray, List.map_cons, List.map_nil]); first | done | rfl | (simp only [List.length_drop, List.length_take]; rfl)) ?_; (with_reducible refine (oplist_Open.calls _ _ t173 (Go.bits .and .i64 a1 7) t178 _ ?side1 ?side2 A11.out).mono ?_); (case side1 => refine (Kd.R_reads' (e := 33) (base := w.heap.size) (ok := fun k_ => (True ∧ some k_ ≠ (.slice Ao16 t169.length co16 : Value).ownBlock)) (n := t173.length) (c := co20) ?_).2.2; exact (by (with_reducible repeat (first | apply Kd.R_alloc | apply Kd.R_drewN | apply Kd.R_drew)); exact (Kd.R_mono (Kd.R_far (p := ⟨gb177, 0, none⟩) (Kd.R_types HO175.out BK177.out (by decide)) (fun _ hk => hk.2) (.slice Ao20 t173.length co20)) (fun _ h_ => h_.1)))); (case side2 => exact (Kd.R_reads' HO175.out).2.1); rintro e w23 ⟨v179, rfl, ho0, hb⟩; refine ⟨_, rfl, ?_⟩; have n0_ := Aside0.mk (Kd.R_elder' (by (with_reducible repeat (first | apply Kd.R_alloc | apply Kd.R_drewN | apply Kd.R_drew)); exact (Kd.R_mono (Kd.R_far (p := ⟨gb177, 0, none⟩) (Kd.R_types HO171.out BK177.out (by decide)) (fun _ hk => hk.2) (.slice Ao20 t173.length co20)) (fun _ h_ => h_.1))) (Kd.R_base ho0) hb); have n1_ := Aside0.mk (Kd.R_elder' (by (with_reducible repeat (first | apply Kd.R_alloc | apply Kd.R_drewN | apply Kd.R_drew)); exact (Kd.R_mono (Kd.R_far (p := ⟨gb177, 0, none⟩) (Kd.R_types HO175.out BK177.out (by decide)) (fun _ hk => hk.2) (.slice Ao20 t173.length co20)) (fun _ h_ => h_.1))) (Kd.R_base ho0) hb); have n2_ := Aside0.mk (Kd.R_lower (Kd.R_new' (Kd.R_new' ho0 (Kd.R_lt (by (with_reducible repeat (first | apply Kd.R_alloc | apply Kd.R_drewN | apply Kd.R_drew)); exact (Kd.R_mono (Kd.R_far (p := ⟨gb177, 0, none⟩) (Kd.R_types HO171.out BK177.out (by decide)) (fun _ hk => hk.2) (.slice Ao20 t173.length co20)) (fun _ h_ => h_.1))))) (Kd.R_lt (by (with_reducible repeat (first | apply Kd.R_alloc | apply Kd.R_drewN | apply Kd.R_drew)); exact (Kd.R_mono (Kd.R_far (p := ⟨gb177, 0, none⟩) (Kd.R_types HO175.out BK177.out (by decide)) (fun _ hk => hk.2) (.slice Ao20 t173.length co20)) (fun _ h_ => h_.1))))) (below_size (by repeat (first | (with_reducible first | exact HB.out | apply below_alloc | apply pw_below_drewN | apply below_drew1 | refine below_set ?_ GE172.out | refine below_set ?_ GE177.out) | exact HB.out)))); have n3_ := Aside0.mk (blk_below (g := gb172) (o := .cells #[.slice Ao16 t169.length co16] 26 (0, 0)) (by (with_reducible repeat (first | refine blk_drewN ?_ _ | refine blk_drew ?_ | refine blk_alloc ?_ _)); refine blk_far ?_ NB172_177.out _; (with_reducible repeat (first | refine blk_drewN ?_ _ | refine blk_drew ?_ | refine blk_alloc ?_ _)); exact BK172.out) hb); have n4_ := Aside0.mk (blk_below (g := gb177) (o := .cells #[.slice Ao20 t173.length co20] 26 (0, 0)) (by (with_reducible repeat (first | refine blk_drewN ?_ _ | refine blk_drew ?_ | refine blk_alloc ?_ _)); refine blk_put (cs := #[.slice none 0 0]) ?_ 0 _ rfl; (with_reducible repeat (first | refine blk_drewN ?_ _ | refine blk_drew ?_ | refine blk_alloc ?_ _)); exact BK177.out) hb); have n5_ := Aside0.mk (below_step (by repeat (first | (with_reducible first | exact HB.out | apply below_alloc | apply pw_below_drewN | apply below_drew1 | refine below_set ?_ GE172.out | refine below_set ?_ GE177.out) | exact HB.out)) hb); clear HO171; clear HO175; clear BK172; clear BK177; clear HB; have HO171 := n0_; have HO175 := n1_; have HO180 := n2_; have BK172 := n3_; have BK177 := n4_; have HB := n5_; clear n0_ n1_ n2_ n3_ n4_ n5_; (try clear hb); (try clear hb2); (try clear hk); (try clear hi); (try clear ho0)))
   (try simp only [Act.put, List.setIfInBounds_toArray, List.set_cons_zero, List.set_cons_succ])
   go_cut [84] (fun v84 wc => ∃ (kq : Nat) (x84_11 : Bool), v84 = .bool x84_11 ∧ Aside0 (heronrylaw15_OplistOpens.j0 kq t168 (Go.bits .and .i64 a1 7) x84_11 t169 t173 = some r) ∧ Aside0 (kq ≤ k) ∧ Aside0 (Kd.R k33 33 wc w.heap.size (fun k_ => some k_ ≠ ((.slice Ao20 t173.length co20) : Value).ownBlock) (.slice Ao16 t169.length co16) t169) ∧ Aside0 (Kd.R k33 33 wc w.heap.size (fun k_ => some k_ ≠ ((.slice Ao16 t169.length co16) : Value).ownBlock) (.slice Ao20 t173.length co20) t173) ∧ Aside0 (wc.heap[gb172]? = some (.cells #[(.slice Ao16 t169.length co16)] 26 (0, 0))) ∧ Aside0 (wc.heap[gb177]? = some (.cells #[(.slice Ao20 t173.length co20)] 26 (0, 0))) ∧ Aside0 (Below w.heap.size w wc))
   case first =>
    have H := HC12.out
    clear HC12
    replace H := Option.bind_eq_some_iff.mp H
    obtain ⟨t181, A240, H⟩ := H
    replace H : (if (t178.length : Int) = (wrap64 ((t181.length : Int) + 1)) then (if 0 ≤ (wrap64 ((t178.length : Int) - 1)) then (if (wrap64 ((t178.length : Int) - 1)) < (t178.length : Int) then (if ((rd_T33 t178 (wrap64 ((t178.length : Int) - 1))).f2) = a3 then (heronrylaw15_OplistOpens.j0 k t168 (Go.bits .and .i64 a1 7) ((rd_T33 t178 (wrap64 ((t178.length : Int) - 1))).f3) t169 t173) else (none)) else (none)) else (none)) else (none)) = some r := H
    have A24 := Aside0.mk A240
    clear A240
    by_cases c25 : (t178.length : Int) = (wrap64 ((t181.length : Int) + 1))
    ·rw [if_pos c25] at H
     have c25b0 : ((t178.length : Int) == (wrap64 ((t181.length : Int) + 1))) = true := beq_iff_eq.mpr c25
     have c25b1 : ((t178.length : Int) != (wrap64 ((t181.length : Int) + 1))) = false := bne_eq_false_iff_eq.mpr c25
     clear c25
     (first | rw [c25b0] | (simp only [i64_w, i32_w]; rw [c25b0]) | skip)
     obtain ⟨ji26, hji26⟩ : ∃ j_ : Int, (wrap64 ((t178.length : Int) - 1)) = j_ := ⟨_, rfl⟩
     replace H : (if 0 ≤ (ji26) then (if (ji26) < (t178.length : Int) then (if ((rd_T33 t178 (ji26)).f2) = a3 then (heronrylaw15_OplistOpens.j0 k t168 (Go.bits .and .i64 a1 7) ((rd_T33 t178 (ji26)).f3) t169 t173) else (none)) else (none)) else (none)) = some r := by first | (rw [hji26] at H; exact H) | (simp only [hji26] at H ⊢; exact H)
     (try rw [hji26] at A24)
     have hji26w : (IntKind.i64.wrap ((t178.length : Int) - 1)) = ji26 := (i64_w _).trans hji26
     by_cases c27 : 0 ≤ (ji26)
     ·rw [if_pos c27] at H
      have c27b0 : decide (0 ≤ (ji26)) = true := decide_eq_true c27
      clear c27
      by_cases c28 : (ji26) < (t178.length : Int)
      ·rw [if_pos c28] at H
       have c28b0 : decide ((ji26) < (t178.length : Int)) = true := decide_eq_true c28
       clear c28
       by_cases c29 : ((rd_T33 t178 (ji26)).f2) = a3
       ·rw [if_pos c29] at H
        have c29b0 : (((rd_T33 t178 (ji26)).f2) == a3) = true := beq_iff_eq.mpr c29
        have c29b1 : (((rd_T33 t178 (ji26)).f2) != a3) = false := bne_eq_false_iff_eq.mpr c29
        clear c29
        have H' := Aside0.mk H
        clear H
        obtain ⟨Ao30, co30, eo30⟩ := Kd.R_slice HO180.out
        subst eo30
        have hnb31 := NB172_177.out
        have hnc31 := NB177_172.out
        have hcz32_0 : w23.cell? ⟨gb172, 0, none⟩ = some (.slice Ao16 t169.length co16) := (blk_cell BK172.out 0).trans rfl
        have hfz32_0 := blk_frozen BK172.out 0
        go_wp2_with (first | ((with_reducible refine gate_callee (f := 11) rfl ?_); refine goesL_ (some 61) rfl rfl Try.func11 (by kernel_rfl) rfl #[.agg #[.slice Ao16 t169.length co16], .int .i64 (Go.bits .and .i64 a1 7)] rfl (by (try simp only [List.map_toArray, List.map_cons, List.map_nil]); first | done | rfl | (simp only [List.length_drop, List.length_take]; rfl)) ?_; (with_reducible refine (oplist_Open.calls _ _ t169 (Go.bits .and .i64 a1 7) t181 _ ?side1 ?side2 A24.out).mono ?_); (case side1 => repeat (first | exact (Kd.R_reads' HO171.out).2.2 | (with_reducible refine Kd.C_alloc ?_ _) | (with_reducible refine Kd.C_drewN ?_ _) | (with_reducible refine Kd.C_drew ?_))); (case side2 => exact (Kd.R_reads' HO171.out).2.1); rintro e w33 ⟨v182, rfl, ho0, hb⟩; refine ⟨_, rfl, ?_⟩; have n0_ := Aside0.mk (Kd.R_elder' (by (with_reducible repeat (first | apply Kd.R_alloc | apply Kd.R_drewN | apply Kd.R_drew)); exact HO171.out) (Kd.R_base ho0) hb); have n1_ := Aside0.mk (Kd.R_elder' (by (with_reducible repeat (first | apply Kd.R_alloc | apply Kd.R_drewN | apply Kd.R_drew)); exact HO175.out) (Kd.R_base ho0) hb); have n2_ := Aside0.mk (Kd.R_elder' (by (with_reducible repeat (first | apply Kd.R_alloc | apply Kd.R_drewN | apply Kd.R_drew)); exact HO180.out) (Kd.R_base ho0) hb); have n3_ := Aside0.mk (Kd.R_lower (Kd.R_new' (Kd.R_new' (Kd.R_new' ho0 (Kd.R_lt (by (with_reducible repeat (first | apply Kd.R_alloc | apply Kd.R_drewN | apply Kd.R_drew)); exact HO171.out))) (Kd.R_lt (by (with_reducible repeat (first | apply Kd.R_alloc | apply Kd.R_drewN | apply Kd.R_drew)); exact HO175.out))) (Kd.R_lt (by (with_reducible repeat (first | apply Kd.R_alloc | apply Kd.R_drewN | apply Kd.R_drew)); exact HO180.out))) (below_size (by repeat (first | (with_reducible first | exact HB.out | apply below_alloc | apply pw_below_drewN | apply below_drew1 | refine below_set ?_ GE172.out | refine below_set ?_ GE177.out) | exact HB.out)))); have n4_ := Aside0.mk (blk_below (g := gb172) (o := .cells #[.slice Ao16 t169.length co16] 26 (0, 0)) (by (with_reducible repeat (first | refine blk_drewN ?_ _ | refine blk_drew ?_ | refine blk_alloc ?_ _)); exact BK172.out) hb); have n5_ := Aside0.mk (blk_below (g := gb177) (o := .cells #[.slice Ao20 t173.length co20] 26 (0, 0)) (by (with_reducible repeat (first | refine blk_drewN ?_ _ | refine blk_drew ?_ | refine blk_alloc ?_ _)); exact BK177.out) hb); have n6_ := Aside0.mk (below_step (by repeat (first | (with_reducible first | exact HB.out | apply below_alloc | apply pw_below_drewN | apply below_drew1 | refine below_set ?_ GE172.out | refine below_set ?_ GE177.out) | exact HB.out)) hb); clear HO171; clear HO175; clear HO180; clear BK172; clear BK177; clear HB; have HO171 := n0_; have HO175 := n1_; have HO180 := n2_; have HO183 := n3_; have BK172 := n4_; have BK177 := n5_; have HB := n6_; clear n0_ n1_ n2_ n3_ n4_ n5_ n6_; (try clear hb); (try clear hb2); (try clear hk); (try clear hi); (try clear ho0); obtain ⟨Ao34, co34, eo34⟩ := Kd.R_slice HO183.out; subst eo34; have p184 : 0 ≤ ((ji26) : Int) := of_decide_eq_true (by first | (with_reducible assumption) | assumption); have q184 : (ji26) < (t178.length : Int) := of_decide_eq_true (by first | (with_reducible assumption) | assumption); obtain ⟨ad184, e184, hx184_0, hx184_1, hx184_2, hx184_3⟩ := at_T33 (Kd.R_reads' HO180.out).2.2 (ji26) p184 q184; cases e184; replace p184 := eq_true p184; replace q184 := eq_true q184; have p185 : 0 ≤ ((ji26) : Int) := of_decide_eq_true (by first | (with_reducible assumption) | assumption); have q185 : (ji26) < (t178.length : Int) := of_decide_eq_true (by first | (with_reducible assumption) | assumption); obtain ⟨ad185, e185, hx185_0, hx185_1, hx185_2, hx185_3⟩ := at_T33 (Kd.R_reads' HO180.out).2.2 (ji26) p185 q185; obtain rfl : ad184 = ad185 := (by injection e185); replace p185 := eq_true p185; replace q185 := eq_true q185))
        go_meet
        case rel => exact ⟨_, ((rd_T33 t178 (ji26)).f3), (by first | rfl | (simp; done) | (simp only [← hji26] <;> (first | rfl | simp)) | (simp [*]; done)), (by first | exact H' | (rw [hji26]; exact H') | (simp only [hji26]; exact H')), ⟨by first | omega | exact Nat.le_refl _⟩, ⟨by (with_reducible repeat (first | apply Kd.R_alloc | apply Kd.R_drewN | apply Kd.R_drew)); exact Kd.R_mono HO171.out (fun _ hk => hk.1.1.2)⟩, ⟨by (with_reducible repeat (first | apply Kd.R_alloc | apply Kd.R_drewN | apply Kd.R_drew)); exact Kd.R_mono HO175.out (fun _ hk => hk.1.1.2)⟩, ⟨by (with_reducible repeat (first | refine blk_drewN ?_ _ | refine blk_drew ?_ | refine blk_alloc ?_ _)); exact BK172.out⟩, ⟨by (with_reducible repeat (first | refine blk_drewN ?_ _ | refine blk_drew ?_ | refine blk_alloc ?_ _)); exact BK177.out⟩, ⟨by repeat (first | (with_reducible first | exact HB.out | apply below_alloc | apply pw_below_drewN | apply below_drew1 | refine below_set ?_ GE172.out | refine below_set ?_ GE177.out) | exact HB.out)⟩⟩
       ·rw [if_neg c29] at H
        exact absurd H (by simp)
      ·rw [if_neg c28] at H
       exact absurd H (by simp)
     ·rw [if_neg c27] at H
      exact absurd H (by simp)
    ·rw [if_neg c25] at H
     exact absurd H (by simp)
   case rest =>
    clear HC12
    try clear c1
    try clear p1
    try clear q1
    try clear hx1
    try clear c2
    try clear p2
    try clear c3
    try clear c6
    try clear c6b0
    try clear c6b1
    try clear p6
    try clear c8
    try clear c9
    try clear c10
    try clear c10b0
    try clear c10b1
    try clear c11
    try clear p18
    try clear q18
    try clear hx18
    try clear c21
    try clear c25
    try clear c25b0
    try clear c25b1
    try clear c27
    try clear c27b0
    try clear c28
    try clear c28b0
    try clear c29
    try clear c29b0
    try clear c29b1
    try clear c31
    try clear hcz17_0
    try clear hcz22_0
    try clear hcz32_0
    try clear hfz17_0
    try clear hfz22_0
    try clear hfz32_0
    try clear hx184_0
    try clear hx184_1
    try clear hx184_2
    try clear hx184_3
    try clear hx185_0
    try clear hx185_1
    try clear hx185_2
    try clear hx185_3
    try clear p184
    try clear p185
    try clear q184
    try clear q185
    obtain ⟨kq, x84_11, rfl, HA, HJ11, HO_173000, HO_178000, BK172, BK177, HB⟩ := hcut
    cases kq with
    | zero => exact absurd HA.out (by simp [heronrylaw15_OplistOpens.j0])
    | succ kj11 =>
     have H := HA.out
     clear HA
     simp only [heronrylaw15_OplistOpens.j0] at H
     by_cases c35 : x84_11 = true
     ·subst c35
      have H1 : (none) = some r := by rw [if_pos rfl] at H; exact H
      clear H
      have H := H1
      clear H1
      exact absurd H (by simp)
     ·replace c35 := Bool.eq_false_iff.mpr c35
      subst c35
      have H1 : ((oplist_Undo.f t173 (([(Go.bits .and .i64 a1 7)] : List Int))).bind fun t189 => (heronrylaw15_OplistOpens.l0 kj11 t168 (Go.bits .and .i64 a1 7) 0 t169 t173 t189)) = some r := by rw [if_neg (show ¬ (false = true) by decide)] at H; exact H
      clear H
      have H := H1
      clear H1
      obtain ⟨y186, hy186⟩ : ∃ y_ : List Int, y_ = (([(Go.bits .and .i64 a1 7)] : List Int)) := ⟨_, rfl⟩
      replace H : ((oplist_Undo.f t173 y186).bind fun t189 => (heronrylaw15_OplistOpens.l0 kj11 t168 (Go.bits .and .i64 a1 7) 0 t169 t173 t189)) = some r := by first | (rw [hy186]; with_reducible exact H) | (have H2_ := (Option.bind_some _ _).symm.trans H; rw [hy186]; with_reducible exact H2_) | (have H2_ := (Option.bind_some _ _).symm.trans H; with_reducible exact H2_) | with_reducible exact H | (rw [hy186]; exact H) | exact H
      have Ny186 := Aside0.mk hy186
      clear hy186
      replace H := Option.bind_eq_some_iff.mp H
      obtain ⟨t189, A360, H⟩ := H
      replace H : (heronrylaw15_OplistOpens.l0 kj11 t168 (Go.bits .and .i64 a1 7) 0 t169 t173 t189) = some r := H
      have A36 := Aside0.mk A360
      clear A360
      have H' := Aside0.mk H
      clear H
      have hnb37 := NB177_172.out
      have hnc37 := NB172_177.out
      have hcz38_0 : wc.cell? ⟨gb177, 0, none⟩ = some (.slice Ao20 t173.length co20) := (blk_cell BK177.out 0).trans rfl
      have hfz38_0 := blk_frozen BK177.out 0
      go_wp2_with (first | ((with_reducible refine gate_dst (N := 87) rfl ?_); (try (refine gate_guard (by rfl) ?_; dsimp only)); refine Kd.R_lit (Kd.int .i64) _ 3 ?hg (N := 87) ?hd (xs := ([(Go.bits .and .i64 a1 7)] : List Int)) (inner := [.int .i64 (Go.bits .and .i64 a1 7)]) (ok := fun _ => True) (okp := fun _ => True) ?hr ?hp (fun _ hk => hk) trivial (Below.refl _ _) (Nat.le_refl _) (by simp) ?_; (case hd => rfl); (case hg => rfl); (case hr => first | (go_simp; done) | (go_simp; rfl)); (case hp => exact (Reps.one (show Kd.M (Kd.int .i64) _ _ _ (Go.bits .and .i64 a1 7) [.int .i64 (Go.bits .and .i64 a1 7)] from rfl) (Reps.none _ _))); intro v187 w39 ho40 hb hg_ hnew_; clear hg_ hnew_; (first | rw [← Ny186.out] at ho40 | (simp only [Int.reduceToNat] at ho40; rw [← Ny186.out] at ho40)); have n0_ := Aside0.mk (Kd.R_below (by (with_reducible repeat (first | apply Kd.R_alloc | apply Kd.R_drewN | apply Kd.R_drew)); exact HO_173000.out) hb); have n1_ := Aside0.mk (Kd.R_below (by (with_reducible repeat (first | apply Kd.R_alloc | apply Kd.R_drewN | apply Kd.R_drew)); exact HO_178000.out) hb); have n2_ := Aside0.mk (Kd.R_lower ho40 (below_size (by repeat (first | (with_reducible first | exact HB.out | apply below_alloc | apply pw_below_drewN | apply below_drew1 | refine below_set ?_ GE172.out | refine below_set ?_ GE177.out) | exact HB.out)))); have n3_ := Aside0.mk (blk_below (g := gb172) (o := .cells #[.slice Ao16 t169.length co16] 26 (0, 0)) (by (with_reducible repeat (first | refine blk_drewN ?_ _ | refine blk_drew ?_ | refine blk_alloc ?_ _)); exact BK172.out) hb); have n4_ := Aside0.mk (blk_below (g := gb177) (o := .cells #[.slice Ao20 t173.length co20] 26 (0, 0)) (by (with_reducible repeat (first | refine blk_drewN ?_ _ | refine blk_drew ?_ | refine blk_alloc ?_ _)); exact BK177.out) hb); have n5_ := Aside0.mk (below_step (by repeat (first | (with_reducible first | exact HB.out | apply below_alloc | apply pw_below_drewN | apply below_drew1 | refine below_set ?_ GE172.out | refine below_set ?_ GE177.out) | exact HB.out)) hb); clear HO_173000; clear HO_178000; clear BK172; clear BK177; clear HB; have HO_173000 := n0_; have HO_178000 := n1_; have HO188 := n2_; have BK172 := n3_; have BK177 := n4_; have HB := n5_; clear n0_ n1_ n2_ n3_ n4_ n5_; clear hb ho40; obtain ⟨Ao41, co41, eo41⟩ := Kd.R_slice HO188.out; subst eo41) | ((with_reducible refine gate_callee (f := 12) rfl ?_); refine goesL_ (some 88) rfl rfl Try.func12 (by kernel_rfl) rfl #[.agg #[.slice Ao20 t173.length co20], .slice Ao41 y186.length co41] rfl (by (try simp only [List.map_toArray, List.map_cons, List.map_nil]); first | done | rfl | (simp only [List.length_drop, List.length_take]; rfl)) ?_; (with_reducible refine (oplist_Undo.calls _ _ t173 _ _ y186 t189 _ ?side1 ?side2 ?side3 ?side4 A36.out).mono ?_); (case side1 => repeat (first | exact (Kd.R_reads' HO_178000.out).2.2 | (with_reducible refine Kd.C_alloc ?_ _) | (with_reducible refine Kd.C_drewN ?_ _) | (with_reducible refine Kd.C_drew ?_))); (case side2 => exact (Kd.R_reads' HO_178000.out).2.1); (case side3 => repeat (first | exact (Kd.R_reads' HO188.out).2.2 | (with_reducible refine Kd.C_alloc ?_ _) | (with_reducible refine Kd.C_drewN ?_ _) | (with_reducible refine Kd.C_drew ?_))); (case side4 => exact (Kd.R_reads' HO188.out).2.1); rintro e w42 ⟨v190, rfl, ho0, hb⟩; refine ⟨_, rfl, ?_⟩; have n0_ := Aside0.mk (Kd.R_elder' (by (with_reducible repeat (first | apply Kd.R_alloc | apply Kd.R_drewN | apply Kd.R_drew)); exact HO_173000.out) (Kd.R_base ho0) hb); have n1_ := Aside0.mk (Kd.R_elder' (by (with_reducible repeat (first | apply Kd.R_alloc | apply Kd.R_drewN | apply Kd.R_drew)); exact HO_178000.out) (Kd.R_base ho0) hb); have n2_ := Aside0.mk (Kd.R_below (by (with_reducible repeat (first | apply Kd.R_alloc | apply Kd.R_drewN | apply Kd.R_drew)); exact HO188.out) hb); have n3_ := Aside0.mk (Kd.R_lower (Kd.R_new' (Kd.R_new' ho0 (Kd.R_lt (by (with_reducible repeat (first | apply Kd.R_alloc | apply Kd.R_drewN | apply Kd.R_drew)); exact HO_173000.out))) (Kd.R_lt (by (with_reducible repeat (first | apply Kd.R_alloc | apply Kd.R_drewN | apply Kd.R_drew)); exact HO_178000.out))) (below_size (by repeat (first | (with_reducible first | exact HB.out | apply below_alloc | apply pw_below_drewN | apply below_drew1 | refine below_set ?_ GE172.out | refine below_set ?_ GE177.out) | exact HB.out)))); have n4_ := Aside0.mk (blk_below (g := gb172) (o := .cells #[.slice Ao16 t169.length co16] 26 (0, 0)) (by (with_reducible repeat (first | refine blk_drewN ?_ _ | refine blk_drew ?_ | refine blk_alloc ?_ _)); exact BK172.out) hb); have n5_ := Aside0.mk (blk_below (g := gb177) (o := .cells #[.slice Ao20 t173.length co20] 26 (0, 0)) (by (with_reducible repeat (first | refine blk_drewN ?_ _ | refine blk_drew ?_ | refine blk_alloc ?_ _)); exact BK177.out) hb); have n6_ := Aside0.mk (below_step (by repeat (first | (with_reducible first | exact HB.out | apply below_alloc | apply pw_below_drewN | apply below_drew1 | refine below_set ?_ GE172.out | refine below_set ?_ GE177.out) | exact HB.out)) hb); clear HO_173000; clear HO_178000; clear HO188; clear BK172; clear BK177; clear HB; have HO_173000 := n0_; have HO_178000 := n1_; have HO188 := n2_; have HO191 := n3_; have BK172 := n4_; have BK177 := n5_; have HB := n6_; clear n0_ n1_ n2_ n3_ n4_ n5_ n6_; (try clear hb); (try clear hb2); (try clear hk); (try clear hi); (try clear ho0)) | ((with_reducible refine gate_dst (N := 15) rfl ?_); (try (refine gate_guard (by rfl) ?_; dsimp only)); refine box_event ?hg (N := 15) ?hd (cs := #[.slice none 0 0]) (t := 26) ?hr ?_; (case hd => rfl); (case hg => rfl); (case hr => first | (go_simp; done) | (go_simp; rfl)); intro gb192 hg w43 hbox hb; have n0_ := Aside0.mk (Kd.R_below (by (with_reducible repeat (first | apply Kd.R_alloc | apply Kd.R_drewN | apply Kd.R_drew)); exact HO_173000.out) hb); have n1_ := Aside0.mk (Kd.R_below (by (with_reducible repeat (first | apply Kd.R_alloc | apply Kd.R_drewN | apply Kd.R_drew)); exact HO_178000.out) hb); have n2_ := Aside0.mk (Kd.R_below (by (with_reducible repeat (first | apply Kd.R_alloc | apply Kd.R_drewN | apply Kd.R_drew)); exact HO188.out) hb); have n3_ := Aside0.mk (Kd.R_below (by (with_reducible repeat (first | apply Kd.R_alloc | apply Kd.R_drewN | apply Kd.R_drew)); exact HO191.out) hb); have n4_ := Aside0.mk (blk_below (g := gb172) (o := .cells #[.slice Ao16 t169.length co16] 26 (0, 0)) (by (with_reducible repeat (first | refine blk_drewN ?_ _ | refine blk_drew ?_ | refine blk_alloc ?_ _)); exact BK172.out) hb); have n5_ := Aside0.mk (blk_below (g := gb177) (o := .cells #[.slice Ao20 t173.length co20] 26 (0, 0)) (by (with_reducible repeat (first | refine blk_drewN ?_ _ | refine blk_drew ?_ | refine blk_alloc ?_ _)); exact BK177.out) hb); have n6_ := Aside0.mk (below_step (by repeat (first | (with_reducible first | exact HB.out | apply below_alloc | apply pw_below_drewN | apply below_drew1 | refine below_set ?_ GE172.out | refine below_set ?_ GE177.out) | exact HB.out)) hb); have n7_ := Aside0.mk (hbox); have n8_ := Aside0.mk ((by rw [hg]; exact (below_size (by repeat (first | (with_reducible first | exact HB.out | apply below_alloc | apply pw_below_drewN | apply below_drew1 | refine below_set ?_ GE172.out | refine below_set ?_ GE177.out) | exact HB.out))) : w.heap.size ≤ gb192)); have n9_ := Aside0.mk ((by rw [hg]; exact (below_size (by repeat (first | (with_reducible first | exact HB.out | apply below_alloc | apply pw_below_drewN | apply below_drew1 | refine below_set ?_ GE172.out | refine below_set ?_ GE177.out) | exact HB.out))) : w.heap.size ≤ gb192)); have n10_ := Aside0.mk ((by rw [hg]; exact Nat.ne_of_lt (blk_lt (g := gb172) (o := .cells #[.slice Ao16 t169.length co16] 26 (0, 0)) (by (with_reducible repeat (first | refine blk_drewN ?_ _ | refine blk_drew ?_ | refine blk_alloc ?_ _)); exact BK172.out)) : gb172 ≠ gb192)); have n11_ := Aside0.mk ((by rw [hg]; exact Nat.ne_of_gt (blk_lt (g := gb172) (o := .cells #[.slice Ao16 t169.length co16] 26 (0, 0)) (by (with_reducible repeat (first | refine blk_drewN ?_ _ | refine blk_drew ?_ | refine blk_alloc ?_ _)); exact BK172.out)) : gb192 ≠ gb172)); have n12_ := Aside0.mk ((by rw [hg]; exact Nat.ne_of_lt (blk_lt (g := gb177) (o := .cells #[.slice Ao20 t173.length co20] 26 (0, 0)) (by (with_reducible repeat (first | refine blk_drewN ?_ _ | refine blk_drew ?_ | refine blk_alloc ?_ _)); exact BK177.out)) : gb177 ≠ gb192)); have n13_ := Aside0.mk ((by rw [hg]; exact Nat.ne_of_gt (blk_lt (g := gb177) (o := .cells #[.slice Ao20 t173.length co20] 26 (0, 0)) (by (with_reducible repeat (first | refine blk_drewN ?_ _ | refine blk_drew ?_ | refine blk_alloc ?_ _)); exact BK177.out)) : gb192 ≠ gb177)); clear HO_173000; clear HO_178000; clear HO188; clear HO191; clear BK172; clear BK177; clear HB; have HO_173000 := n0_; have HO_178000 := n1_; have HO188 := n2_; have HO191 := n3_; have BK172 := n4_; have BK177 := n5_; have HB := n6_; have BK192 := n7_; have GW192 := n8_; have GE192 := n9_; have NB172_192 := n10_; have NB192_172 := n11_; have NB177_192 := n12_; have NB192_177 := n13_; clear n0_ n1_ n2_ n3_ n4_ n5_ n6_ n7_ n8_ n9_ n10_ n11_ n12_ n13_; clear hb hbox hg; obtain ⟨Ao44, co44, eo44⟩ := Kd.R_slice HO191.out; subst eo44; have hnb45 := NB192_172.out; have hnc45 := NB172_192.out; have hnb46 := NB192_177.out; have hnc46 := NB177_192.out; have hcz47_0 : w43.cell? ⟨gb192, 0, none⟩ = some (.slice none 0 0) := (blk_cell BK192.out 0).trans rfl; have hfz47_0 := blk_frozen BK192.out 0))
      go_loopg [16] kj11 (fun kq v16 w' => ∃ (x16_2 : Int), v16 = .int .i64 x16_2 ∧ Aside0 (heronrylaw15_OplistOpens.l0 kq t168 (Go.bits .and .i64 a1 7) x16_2 t169 t173 t189 = some r) ∧ Aside0 (kq ≤ kj11) ∧ Aside0 (Kd.R k33 33 w' w.heap.size (fun k_ => some k_ ≠ ((.slice Ao20 t173.length co20) : Value).ownBlock ∧ some k_ ≠ ((.slice Ao44 t189.length co44) : Value).ownBlock) (.slice Ao16 t169.length co16) t169) ∧ Aside0 (Kd.R k33 33 w' w.heap.size (fun k_ => some k_ ≠ ((.slice Ao16 t169.length co16) : Value).ownBlock ∧ some k_ ≠ ((.slice Ao44 t189.length co44) : Value).ownBlock) (.slice Ao20 t173.length co20) t173) ∧ Aside0 (Kd.R k33 33 w' w.heap.size (fun k_ => some k_ ≠ ((.slice Ao16 t169.length co16) : Value).ownBlock ∧ some k_ ≠ ((.slice Ao20 t173.length co20) : Value).ownBlock) (.slice Ao44 t189.length co44) t189) ∧ Aside0 (w'.heap[gb172]? = some (.cells #[(.slice Ao16 t169.length co16)] 26 (0, 0))) ∧ Aside0 (w'.heap[gb177]? = some (.cells #[(.slice Ao20 t173.length co20)] 26 (0, 0))) ∧ Aside0 (w'.heap[gb192]? = some (.cells #[(.slice Ao44 t189.length co44)] 26 (0, 0))) ∧ Aside0 (Below w.heap.size w w'))
      case atStart => exact ⟨(0), (by first | rfl | (simp; done) | (simp [*]; done)), H', ⟨Nat.le_refl _⟩, ⟨by (with_reducible repeat (first | apply Kd.R_alloc | apply Kd.R_drewN | apply Kd.R_drew)); exact Kd.R_mono (Kd.R_far (p := ⟨gb192, 0, none⟩) (Kd.R_types HO_173000.out BK192.out (by decide)) (fun _ hk => hk.2) (.slice Ao44 t189.length co44)) (fun _ hk => ⟨hk.1.1, hk.1.2⟩)⟩, ⟨by (with_reducible repeat (first | apply Kd.R_alloc | apply Kd.R_drewN | apply Kd.R_drew)); exact Kd.R_mono (Kd.R_far (p := ⟨gb192, 0, none⟩) (Kd.R_types HO_178000.out BK192.out (by decide)) (fun _ hk => hk.2) (.slice Ao44 t189.length co44)) (fun _ hk => ⟨hk.1.1, hk.1.2⟩)⟩, ⟨by (with_reducible repeat (first | apply Kd.R_alloc | apply Kd.R_drewN | apply Kd.R_drew)); exact Kd.R_mono (Kd.R_far (p := ⟨gb192, 0, none⟩) (Kd.R_types HO191.out BK192.out (by decide)) (fun _ hk => hk.2) (.slice Ao44 t189.length co44)) (fun _ hk => ⟨hk.1.1.2, hk.1.2⟩)⟩, ⟨by (with_reducible repeat (first | refine blk_drewN ?_ _ | refine blk_drew ?_ | refine blk_alloc ?_ _)); refine blk_far ?_ NB172_192.out _; (with_reducible repeat (first | refine blk_drewN ?_ _ | refine blk_drew ?_ | refine blk_alloc ?_ _)); exact BK172.out⟩, ⟨by (with_reducible repeat (first | refine blk_drewN ?_ _ | refine blk_drew ?_ | refine blk_alloc ?_ _)); refine blk_far ?_ NB177_192.out _; (with_reducible repeat (first | refine blk_drewN ?_ _ | refine blk_drew ?_ | refine blk_alloc ?_ _)); exact BK177.out⟩, ⟨by (with_reducible repeat (first | refine blk_drewN ?_ _ | refine blk_drew ?_ | refine blk_alloc ?_ _)); refine blk_put (cs := #[.slice none 0 0]) ?_ 0 _ rfl; (with_reducible repeat (first | refine blk_drewN ?_ _ | refine blk_drew ?_ | refine blk_alloc ?_ _)); exact BK192.out⟩, ⟨by repeat (first | (with_reducible first | exact HB.out | apply below_alloc | apply pw_below_drewN | apply below_drew1 | refine below_set ?_ GE172.out | refine below_set ?_ GE177.out | refine below_set ?_ GE192.out) | exact HB.out)⟩⟩
      case round =>
       clear H'
       try clear c1
       try clear p1
       try clear q1
       try clear hx1
       try clear c2
       try clear p2
       try clear c3
       try clear c4
       try clear c6
       try clear c6b0
       try clear c6b1
       try clear p6
       try clear c8
       try clear c9
       try clear c10
       try clear c10b0
       try clear c10b1
       try clear c11
       try clear c12
       try clear p18
       try clear q18
       try clear hx18
       try clear c21
       try clear c25
       try clear c25b0
       try clear c25b1
       try clear c27
       try clear c27b0
       try clear c28
       try clear c28b0
       try clear c29
       try clear c29b0
       try clear c29b1
       try clear c31
       try clear c35
       try clear c37
       try clear c45
       try clear c46
       try clear hcz17_0
       try clear hcz22_0
       try clear hcz32_0
       try clear hcz38_0
       try clear hcz47_0
       try clear hfz17_0
       try clear hfz22_0
       try clear hfz32_0
       try clear hfz38_0
       try clear hfz47_0
       try clear hx184_0
       try clear hx184_1
       try clear hx184_2
       try clear hx184_3
       try clear hx185_0
       try clear hx185_1
       try clear hx185_2
       try clear hx185_3
       try clear p1
       try clear p18
       try clear p184
       try clear p185
       try clear p2
       try clear p6
       try clear q1
       try clear q18
       try clear q184
       try clear q185
       obtain ⟨x16_2, rfl, HA, HK2, HO_173000, HO_178000, HO_193000, BK172, BK177, BK192, HB⟩ := hrel
       cases gk with
       | zero => exact absurd HA.out (by simp [heronrylaw15_OplistOpens.l0])
       | succ k2 =>
        have H := HA.out
        clear HA
        simp only [heronrylaw15_OplistOpens.l0] at H
        by_cases c48 : x16_2 < 8
        ·rw [if_pos c48] at H
         have c48b0 : decide (x16_2 < 8) = true := decide_eq_true c48
         clear c48
         replace H := Option.bind_eq_some_iff.mp H
         obtain ⟨t204, A490, H⟩ := H
         replace H : ((oplist_Open.f t189 x16_2).bind fun t207 => (if x16_2 = (Go.bits .and .i64 a1 7) then (if (t207.length : Int) = 0 then (heronrylaw15_OplistOpens.l0 k2 t168 (Go.bits .and .i64 a1 7) (wrap64 (x16_2 + 1)) t169 t173 t189) else (none)) else ((heronrylaw15_theirs.f k2 t204).bind fun t210 => ((heronrylaw15_theirs.f k2 t207).bind fun t213 => ((heronryref15_Same.f k2 t210 t213).bind fun t216 => (if t216 = true then (heronrylaw15_OplistOpens.l0 k2 t168 (Go.bits .and .i64 a1 7) (wrap64 (x16_2 + 1)) t169 t173 t189) else (none))))))) = some r := H
         have A49 := Aside0.mk A490
         clear A490
         replace H := Option.bind_eq_some_iff.mp H
         obtain ⟨t207, A500, H⟩ := H
         replace H : (if x16_2 = (Go.bits .and .i64 a1 7) then (if (t207.length : Int) = 0 then (heronrylaw15_OplistOpens.l0 k2 t168 (Go.bits .and .i64 a1 7) (wrap64 (x16_2 + 1)) t169 t173 t189) else (none)) else ((heronrylaw15_theirs.f k2 t204).bind fun t210 => ((heronrylaw15_theirs.f k2 t207).bind fun t213 => ((heronryref15_Same.f k2 t210 t213).bind fun t216 => (if t216 = true then (heronrylaw15_OplistOpens.l0 k2 t168 (Go.bits .and .i64 a1 7) (wrap64 (x16_2 + 1)) t169 t173 t189) else (none)))))) = some r := H
         have A50 := Aside0.mk A500
         clear A500
         by_cases c51 : x16_2 = (Go.bits .and .i64 a1 7)
         ·rw [if_pos c51] at H
          have c51b0 : (x16_2 == (Go.bits .and .i64 a1 7)) = true := beq_iff_eq.mpr c51
          have c51b1 : (x16_2 != (Go.bits .and .i64 a1 7)) = false := bne_eq_false_iff_eq.mpr c51
          clear c51
          by_cases c52 : (t207.length : Int) = 0
          ·rw [if_pos c52] at H
           have c52b0 : ((t207.length : Int) == 0) = true := beq_iff_eq.mpr c52
           have c52b1 : ((t207.length : Int) != 0) = false := bne_eq_false_iff_eq.mpr c52
           clear c52
           have H' := Aside0.mk H
           clear H
           have hnb53 := NB172_177.out
           have hnc53 := NB177_172.out
           have hnb54 := NB172_192.out
           have hnc54 := NB192_172.out
           have hcz55_0 : wr.cell? ⟨gb172, 0, none⟩ = some (.slice Ao16 t169.length co16) := (blk_cell BK172.out 0).trans rfl
           have hfz55_0 := blk_frozen BK172.out 0
           go_wp2_with (first | ((with_reducible refine gate_callee (f := 11) rfl ?_); refine goesL_ (some 95) rfl rfl Try.func11 (by kernel_rfl) rfl #[.agg #[.slice Ao16 t169.length co16], .int .i64 x16_2] rfl (by (try simp only [List.map_toArray, List.map_cons, List.map_nil]); first | done | rfl | (simp only [List.length_drop, List.length_take]; rfl)) ?_; (with_reducible refine (oplist_Open.calls _ _ t169 x16_2 t204 _ ?side1 ?side2 A49.out).mono ?_); (case side1 => repeat (first | exact (Kd.R_reads' HO_173000.out).2.2 | (with_reducible refine Kd.C_alloc ?_ _) | (with_reducible refine Kd.C_drewN ?_ _) | (with_reducible refine Kd.C_drew ?_))); (case side2 => exact (Kd.R_reads' HO_173000.out).2.1); rintro e w56 ⟨v205, rfl, ho0, hb⟩; refine ⟨_, rfl, ?_⟩; have n0_ := Aside0.mk (Kd.R_elder' (by (with_reducible repeat (first | apply Kd.R_alloc | apply Kd.R_drewN | apply Kd.R_drew)); exact HO_173000.out) (Kd.R_base ho0) hb); have n1_ := Aside0.mk (Kd.R_elder' (by (with_reducible repeat (first | apply Kd.R_alloc | apply Kd.R_drewN | apply Kd.R_drew)); exact HO_178000.out) (Kd.R_base ho0) hb); have n2_ := Aside0.mk (Kd.R_elder' (by (with_reducible repeat (first | apply Kd.R_alloc | apply Kd.R_drewN | apply Kd.R_drew)); exact HO_193000.out) (Kd.R_base ho0) hb); have n3_ := Aside0.mk (Kd.R_lower (Kd.R_new' (Kd.R_new' (Kd.R_new' ho0 (Kd.R_lt (by (with_reducible repeat (first | apply Kd.R_alloc | apply Kd.R_drewN | apply Kd.R_drew)); exact HO_173000.out))) (Kd.R_lt (by (with_reducible repeat (first | apply Kd.R_alloc | apply Kd.R_drewN | apply Kd.R_drew)); exact HO_178000.out))) (Kd.R_lt (by (with_reducible repeat (first | apply Kd.R_alloc | apply Kd.R_drewN | apply Kd.R_drew)); exact HO_193000.out))) (below_size (by repeat (first | (with_reducible first | exact HB.out | apply below_alloc | apply pw_below_drewN | apply below_drew1 | refine below_set ?_ GE172.out | refine below_set ?_ GE177.out | refine below_set ?_ GE192.out) | exact HB.out)))); have n4_ := Aside0.mk (blk_below (g := gb172) (o := .cells #[.slice Ao16 t169.length co16] 26 (0, 0)) (by (with_reducible repeat (first | refine blk_drewN ?_ _ | refine blk_drew ?_ | refine blk_alloc ?_ _)); exact BK172.out) hb); have n5_ := Aside0.mk (blk_below (g := gb177) (o := .cells #[.slice Ao20 t173.length co20] 26 (0, 0)) (by (with_reducible repeat (first | refine blk_drewN ?_ _ | refine blk_drew ?_ | refine blk_alloc ?_ _)); exact BK177.out) hb); have n6_ := Aside0.mk (blk_below (g := gb192) (o := .cells #[.slice Ao44 t189.length co44] 26 (0, 0)) (by (with_reducible repeat (first | refine blk_drewN ?_ _ | refine blk_drew ?_ | refine blk_alloc ?_ _)); exact BK192.out) hb); have n7_ := Aside0.mk (below_step (by repeat (first | (with_reducible first | exact HB.out | apply below_alloc | apply pw_below_drewN | apply below_drew1 | refine below_set ?_ GE172.out | refine below_set ?_ GE177.out | refine below_set ?_ GE192.out) | exact HB.out)) hb); clear HO_173000; clear HO_178000; clear HO_193000; clear BK172; clear BK177; clear BK192; clear HB; have HO_173000 := n0_; have HO_178000 := n1_; have HO_193000 := n2_; have HO206 := n3_; have BK172 := n4_; have BK177 := n5_; have BK192 := n6_; have HB := n7_; clear n0_ n1_ n2_ n3_ n4_ n5_ n6_ n7_; (try clear hb); (try clear hb2); (try clear hk); (try clear hi); (try clear ho0); have hnb57 := NB192_177.out; have hnc57 := NB177_192.out; have hcz58_0 : w56.cell? ⟨gb192, 0, none⟩ = some (.slice Ao44 t189.length co44) := (blk_cell BK192.out 0).trans rfl; have hfz58_0 := blk_frozen BK192.out 0) | ((with_reducible refine gate_callee (f := 11) rfl ?_); refine goesL_ (some 98) rfl rfl Try.func11 (by kernel_rfl) rfl #[.agg #[.slice Ao44 t189.length co44], .int .i64 x16_2] rfl (by (try simp only [List.map_toArray, List.map_cons, List.map_nil]); first | done | rfl | (simp only [List.length_drop, List.length_take]; rfl)) ?_; (with_reducible refine (oplist_Open.calls _ _ t189 x16_2 t207 _ ?side1 ?side2 A50.out).mono ?_); (case side1 => repeat (first | exact (Kd.R_reads' HO_193000.out).2.2 | (with_reducible refine Kd.C_alloc ?_ _) | (with_reducible refine Kd.C_drewN ?_ _) | (with_reducible refine Kd.C_drew ?_))); (case side2 => exact (Kd.R_reads' HO_193000.out).2.1); rintro e w59 ⟨v208, rfl, ho0, hb⟩; refine ⟨_, rfl, ?_⟩; have n0_ := Aside0.mk (Kd.R_elder' (by (with_reducible repeat (first | apply Kd.R_alloc | apply Kd.R_drewN | apply Kd.R_drew)); exact HO_173000.out) (Kd.R_base ho0) hb); have n1_ := Aside0.mk (Kd.R_elder' (by (with_reducible repeat (first | apply Kd.R_alloc | apply Kd.R_drewN | apply Kd.R_drew)); exact HO_178000.out) (Kd.R_base ho0) hb); have n2_ := Aside0.mk (Kd.R_elder' (by (with_reducible repeat (first | apply Kd.R_alloc | apply Kd.R_drewN | apply Kd.R_drew)); exact HO_193000.out) (Kd.R_base ho0) hb); have n3_ := Aside0.mk (Kd.R_elder' (by (with_reducible repeat (first | apply Kd.R_alloc | apply Kd.R_drewN | apply Kd.R_drew)); exact HO206.out) (Kd.R_base ho0) hb); have n4_ := Aside0.mk (Kd.R_lower (Kd.R_new' (Kd.R_new' (Kd.R_new' (Kd.R_new' ho0 (Kd.R_lt (by (with_reducible repeat (first | apply Kd.R_alloc | apply Kd.R_drewN | apply Kd.R_drew)); exact HO_173000.out))) (Kd.R_lt (by (with_reducible repeat (first | apply Kd.R_alloc | apply Kd.R_drewN | apply Kd.R_drew)); exact HO_178000.out))) (Kd.R_lt (by (with_reducible repeat (first | apply Kd.R_alloc | apply Kd.R_drewN | apply Kd.R_drew)); exact HO_193000.out))) (Kd.R_lt (by (with_reducible repeat (first | apply Kd.R_alloc | apply Kd.R_drewN | apply Kd.R_drew)); exact HO206.out))) (below_size (by repeat (first | (with_reducible first | exact HB.out | apply below_alloc | apply pw_below_drewN | apply below_drew1 | refine below_set ?_ GE172.out | refine below_set ?_ GE177.out | refine below_set ?_ GE192.out) | exact HB.out)))); have n5_ := Aside0.mk (blk_below (g := gb172) (o := .cells #[.slice Ao16 t169.length co16] 26 (0, 0)) (by (with_reducible repeat (first | refine blk_drewN ?_ _ | refine blk_drew ?_ | refine blk_alloc ?_ _)); exact BK172.out) hb); have n6_ := Aside0.mk (blk_below (g := gb177) (o := .cells #[.slice Ao20 t173.length co20] 26 (0, 0)) (by (with_reducible repeat (first | refine blk_drewN ?_ _ | refine blk_drew ?_ | refine blk_alloc ?_ _)); exact BK177.out) hb); have n7_ := Aside0.mk (blk_below (g := gb192) (o := .cells #[.slice Ao44 t189.length co44] 26 (0, 0)) (by (with_reducible repeat (first | refine blk_drewN ?_ _ | refine blk_drew ?_ | refine blk_alloc ?_ _)); exact BK192.out) hb); have n8_ := Aside0.mk (below_step (by repeat (first | (with_reducible first | exact HB.out | apply below_alloc | apply pw_below_drewN | apply below_drew1 | refine below_set ?_ GE172.out | refine below_set ?_ GE177.out | refine below_set ?_ GE192.out) | exact HB.out)) hb); clear HO_173000; clear HO_178000; clear HO_193000; clear HO206; clear BK172; clear BK177; clear BK192; clear HB; have HO_173000 := n0_; have HO_178000 := n1_; have HO_193000 := n2_; have HO206 := n3_; have HO209 := n4_; have BK172 := n5_; have BK177 := n6_; have BK192 := n7_; have HB := n8_; clear n0_ n1_ n2_ n3_ n4_ n5_ n6_ n7_ n8_; (try clear hb); (try clear hb2); (try clear hk); (try clear hi); (try clear ho0); obtain ⟨Ao60, co60, eo60⟩ := Kd.R_slice HO209.out; subst eo60))
           go_roundg k2
           case measure => have := HJ11.out; have := HK2.out; omega
           case rel => exact ⟨(wrap64 (x16_2 + 1)), (by first | rfl | (simp; done) | (simp [*]; done)), H', ⟨by have := HJ11.out; have := HK2.out; omega⟩, ⟨by (with_reducible repeat (first | apply Kd.R_alloc | apply Kd.R_drewN | apply Kd.R_drew)); exact Kd.R_mono HO_173000.out (fun _ hk => ⟨hk.1.1.1, hk.1.1.2⟩)⟩, ⟨by (with_reducible repeat (first | apply Kd.R_alloc | apply Kd.R_drewN | apply Kd.R_drew)); exact Kd.R_mono HO_178000.out (fun _ hk => ⟨hk.1.1.1, hk.1.1.2⟩)⟩, ⟨by (with_reducible repeat (first | apply Kd.R_alloc | apply Kd.R_drewN | apply Kd.R_drew)); exact Kd.R_mono HO_193000.out (fun _ hk => ⟨hk.1.1.1, hk.1.1.2⟩)⟩, ⟨by (with_reducible repeat (first | refine blk_drewN ?_ _ | refine blk_drew ?_ | refine blk_alloc ?_ _)); exact BK172.out⟩, ⟨by (with_reducible repeat (first | refine blk_drewN ?_ _ | refine blk_drew ?_ | refine blk_alloc ?_ _)); exact BK177.out⟩, ⟨by (with_reducible repeat (first | refine blk_drewN ?_ _ | refine blk_drew ?_ | refine blk_alloc ?_ _)); exact BK192.out⟩, ⟨by repeat (first | (with_reducible first | exact HB.out | apply below_alloc | apply pw_below_drewN | apply below_drew1 | refine below_set ?_ GE172.out | refine below_set ?_ GE177.out | refine below_set ?_ GE192.out) | exact HB.out)⟩⟩
          ·rw [if_neg c52] at H
           exact absurd H (by simp)
         ·rw [if_neg c51] at H
          have c51b0 : (x16_2 == (Go.bits .and .i64 a1 7)) = false := beq_eq_false_iff_ne.mpr c51
          have c51b1 : (x16_2 != (Go.bits .and .i64 a1 7)) = true := bne_iff_ne.mpr c51
          replace H := Option.bind_eq_some_iff.mp H
          obtain ⟨t210, A610, H⟩ := H
          replace H : ((heronrylaw15_theirs.f k2 t207).bind fun t213 => ((heronryref15_Same.f k2 t210 t213).bind fun t216 => (if t216 = true then (heronrylaw15_OplistOpens.l0 k2 t168 (Go.bits .and .i64 a1 7) (wrap64 (x16_2 + 1)) t169 t173 t189) else (none)))) = some r := H
          have A61 := Aside0.mk A610
          clear A610
          replace H := Option.bind_eq_some_iff.mp H
          obtain ⟨t213, A620, H⟩ := H
          replace H : ((heronryref15_Same.f k2 t210 t213).bind fun t216 => (if t216 = true then (heronrylaw15_OplistOpens.l0 k2 t168 (Go.bits .and .i64 a1 7) (wrap64 (x16_2 + 1)) t169 t173 t189) else (none))) = some r := H
          have A62 := Aside0.mk A620
          clear A620
          replace H := Option.bind_eq_some_iff.mp H
          obtain ⟨t216, A630, H⟩ := H
          replace H : (if t216 = true then (heronrylaw15_OplistOpens.l0 k2 t168 (Go.bits .and .i64 a1 7) (wrap64 (x16_2 + 1)) t169 t173 t189) else (none)) = some r := H
          have A63 := Aside0.mk A630
          clear A630
          by_cases c64 : t216 = true
          ·subst c64
           have H1 : (heronrylaw15_OplistOpens.l0 k2 t168 (Go.bits .and .i64 a1 7) (wrap64 (x16_2 + 1)) t169 t173 t189) = some r := by rw [if_pos rfl] at H; exact H
           clear H
           have H := H1
           clear H1
           have H' := Aside0.mk H
           clear H
           have hnb65 := NB172_177.out
           have hnc65 := NB177_172.out
           have hnb66 := NB172_192.out
           have hnc66 := NB192_172.out
           have hcz67_0 : wr.cell? ⟨gb172, 0, none⟩ = some (.slice Ao16 t169.length co16) := (blk_cell BK172.out 0).trans rfl
           have hfz67_0 := blk_frozen BK172.out 0
           go_wp2_with (first | ((with_reducible refine gate_callee (f := 11) rfl ?_); refine goesL_ (some 95) rfl rfl Try.func11 (by kernel_rfl) rfl #[.agg #[.slice Ao16 t169.length co16], .int .i64 x16_2] rfl (by (try simp only [List.map_toArray, List.map_cons, List.map_nil]); first | done | rfl | (simp only [List.length_drop, List.length_take]; rfl)) ?_; (with_reducible refine (oplist_Open.calls _ _ t169 x16_2 t204 _ ?side1 ?side2 A49.out).mono ?_); (case side1 => repeat (first | exact (Kd.R_reads' HO_173000.out).2.2 | (with_reducible refine Kd.C_alloc ?_ _) | (with_reducible refine Kd.C_drewN ?_ _) | (with_reducible refine Kd.C_drew ?_))); (case side2 => exact (Kd.R_reads' HO_173000.out).2.1); rintro e w68 ⟨v205, rfl, ho0, hb⟩; refine ⟨_, rfl, ?_⟩; have n0_ := Aside0.mk (Kd.R_elder' (by (with_reducible repeat (first | apply Kd.R_alloc | apply Kd.R_drewN | apply Kd.R_drew)); exact HO_173000.out) (Kd.R_base ho0) hb); have n1_ := Aside0.mk (Kd.R_elder' (by (with_reducible repeat (first | apply Kd.R_alloc | apply Kd.R_drewN | apply Kd.R_drew)); exact HO_178000.out) (Kd.R_base ho0) hb); have n2_ := Aside0.mk (Kd.R_elder' (by (with_reducible repeat (first | apply Kd.R_alloc | apply Kd.R_drewN | apply Kd.R_drew)); exact HO_193000.out) (Kd.R_base ho0) hb); have n3_ := Aside0.mk (Kd.R_lower (Kd.R_new' (Kd.R_new' (Kd.R_new' ho0 (Kd.R_lt (by (with_reducible repeat (first | apply Kd.R_alloc | apply Kd.R_drewN | apply Kd.R_drew)); exact HO_173000.out))) (Kd.R_lt (by (with_reducible repeat (first | apply Kd.R_alloc | apply Kd.R_drewN | apply Kd.R_drew)); exact HO_178000.out))) (Kd.R_lt (by (with_reducible repeat (first | apply Kd.R_alloc | apply Kd.R_drewN | apply Kd.R_drew)); exact HO_193000.out))) (below_size (by repeat (first | (with_reducible first | exact HB.out | apply below_alloc | apply pw_below_drewN | apply below_drew1 | refine below_set ?_ GE172.out | refine below_set ?_ GE177.out | refine below_set ?_ GE192.out) | exact HB.out)))); have n4_ := Aside0.mk (blk_below (g := gb172) (o := .cells #[.slice Ao16 t169.length co16] 26 (0, 0)) (by (with_reducible repeat (first | refine blk_drewN ?_ _ | refine blk_drew ?_ | refine blk_alloc ?_ _)); exact BK172.out) hb); have n5_ := Aside0.mk (blk_below (g := gb177) (o := .cells #[.slice Ao20 t173.length co20] 26 (0, 0)) (by (with_reducible repeat (first | refine blk_drewN ?_ _ | refine blk_drew ?_ | refine blk_alloc ?_ _)); exact BK177.out) hb); have n6_ := Aside0.mk (blk_below (g := gb192) (o := .cells #[.slice Ao44 t189.length co44] 26 (0, 0)) (by (with_reducible repeat (first | refine blk_drewN ?_ _ | refine blk_drew ?_ | refine blk_alloc ?_ _)); exact BK192.out) hb); have n7_ := Aside0.mk (below_step (by repeat (first | (with_reducible first | exact HB.out | apply below_alloc | apply pw_below_drewN | apply below_drew1 | refine below_set ?_ GE172.out | refine below_set ?_ GE177.out | refine below_set ?_ GE192.out) | exact HB.out)) hb); clear HO_173000; clear HO_178000; clear HO_193000; clear BK172; clear BK177; clear BK192; clear HB; have HO_173000 := n0_; have HO_178000 := n1_; have HO_193000 := n2_; have HO206 := n3_; have BK172 := n4_; have BK177 := n5_; have BK192 := n6_; have HB := n7_; clear n0_ n1_ n2_ n3_ n4_ n5_ n6_ n7_; (try clear hb); (try clear hb2); (try clear hk); (try clear hi); (try clear ho0); have hnb69 := NB192_177.out; have hnc69 := NB177_192.out; have hcz70_0 : w68.cell? ⟨gb192, 0, none⟩ = some (.slice Ao44 t189.length co44) := (blk_cell BK192.out 0).trans rfl; have hfz70_0 := blk_frozen BK192.out 0) | ((with_reducible refine gate_callee (f := 11) rfl ?_); refine goesL_ (some 98) rfl rfl Try.func11 (by kernel_rfl) rfl #[.agg #[.slice Ao44 t189.length co44], .int .i64 x16_2] rfl (by (try simp only [List.map_toArray, List.map_cons, List.map_nil]); first | done | rfl | (simp only [List.length_drop, List.length_take]; rfl)) ?_; (with_reducible refine (oplist_Open.calls _ _ t189 x16_2 t207 _ ?side1 ?side2 A50.out).mono ?_); (case side1 => repeat (first | exact (Kd.R_reads' HO_193000.out).2.2 | (with_reducible refine Kd.C_alloc ?_ _) | (with_reducible refine Kd.C_drewN ?_ _) | (with_reducible refine Kd.C_drew ?_))); (case side2 => exact (Kd.R_reads' HO_193000.out).2.1); rintro e w71 ⟨v208, rfl, ho0, hb⟩; refine ⟨_, rfl, ?_⟩; have n0_ := Aside0.mk (Kd.R_elder' (by (with_reducible repeat (first | apply Kd.R_alloc | apply Kd.R_drewN | apply Kd.R_drew)); exact HO_173000.out) (Kd.R_base ho0) hb); have n1_ := Aside0.mk (Kd.R_elder' (by (with_reducible repeat (first | apply Kd.R_alloc | apply Kd.R_drewN | apply Kd.R_drew)); exact HO_178000.out) (Kd.R_base ho0) hb); have n2_ := Aside0.mk (Kd.R_elder' (by (with_reducible repeat (first | apply Kd.R_alloc | apply Kd.R_drewN | apply Kd.R_drew)); exact HO_193000.out) (Kd.R_base ho0) hb); have n3_ := Aside0.mk (Kd.R_elder' (by (with_reducible repeat (first | apply Kd.R_alloc | apply Kd.R_drewN | apply Kd.R_drew)); exact HO206.out) (Kd.R_base ho0) hb); have n4_ := Aside0.mk (Kd.R_lower (Kd.R_new' (Kd.R_new' (Kd.R_new' (Kd.R_new' ho0 (Kd.R_lt (by (with_reducible repeat (first | apply Kd.R_alloc | apply Kd.R_drewN | apply Kd.R_drew)); exact HO_173000.out))) (Kd.R_lt (by (with_reducible repeat (first | apply Kd.R_alloc | apply Kd.R_drewN | apply Kd.R_drew)); exact HO_178000.out))) (Kd.R_lt (by (with_reducible repeat (first | apply Kd.R_alloc | apply Kd.R_drewN | apply Kd.R_drew)); exact HO_193000.out))) (Kd.R_lt (by (with_reducible repeat (first | apply Kd.R_alloc | apply Kd.R_drewN | apply Kd.R_drew)); exact HO206.out))) (below_size (by repeat (first | (with_reducible first | exact HB.out | apply below_alloc | apply pw_below_drewN | apply below_drew1 | refine below_set ?_ GE172.out | refine below_set ?_ GE177.out | refine below_set ?_ GE192.out) | exact HB.out)))); have n5_ := Aside0.mk (blk_below (g := gb172) (o := .cells #[.slice Ao16 t169.length co16] 26 (0, 0)) (by (with_reducible repeat (first | refine blk_drewN ?_ _ | refine blk_drew ?_ | refine blk_alloc ?_ _)); exact BK172.out) hb); have n6_ := Aside0.mk (blk_below (g := gb177) (o := .cells #[.slice Ao20 t173.length co20] 26 (0, 0)) (by (with_reducible repeat (first | refine blk_drewN ?_ _ | refine blk_drew ?_ | refine blk_alloc ?_ _)); exact BK177.out) hb); have n7_ := Aside0.mk (blk_below (g := gb192) (o := .cells #[.slice Ao44 t189.length co44] 26 (0, 0)) (by (with_reducible repeat (first | refine blk_drewN ?_ _ | refine blk_drew ?_ | refine blk_alloc ?_ _)); exact BK192.out) hb); have n8_ := Aside0.mk (below_step (by repeat (first | (with_reducible first | exact HB.out | apply below_alloc | apply pw_below_drewN | apply below_drew1 | refine below_set ?_ GE172.out | refine below_set ?_ GE177.out | refine below_set ?_ GE192.out) | exact HB.out)) hb); clear HO_173000; clear HO_178000; clear HO_193000; clear HO206; clear BK172; clear BK177; clear BK192; clear HB; have HO_173000 := n0_; have HO_178000 := n1_; have HO_193000 := n2_; have HO206 := n3_; have HO209 := n4_; have BK172 := n5_; have BK177 := n6_; have BK192 := n7_; have HB := n8_; clear n0_ n1_ n2_ n3_ n4_ n5_ n6_ n7_ n8_; (try clear hb); (try clear hb2); (try clear hk); (try clear hi); (try clear ho0); obtain ⟨Ao72, co72, eo72⟩ := Kd.R_slice HO206.out; subst eo72) | (go_at_call 14; (with_reducible refine (heronrylaw15_theirs.calls k2 _ _ t204 t210 _ ?side1 ?side2 A61.out).mono ?_); (case side1 => repeat (first | exact (Kd.R_reads' HO206.out).2.2 | (with_reducible refine Kd.C_alloc ?_ _) | (with_reducible refine Kd.C_drewN ?_ _) | (with_reducible refine Kd.C_drew ?_))); (case side2 => exact (Kd.R_reads' HO206.out).2.1); rintro e w73 ⟨v211, rfl, ho0, hb⟩; have n0_ := Aside0.mk (Kd.R_below (by (with_reducible repeat (first | apply Kd.R_alloc | apply Kd.R_drewN | apply Kd.R_drew)); exact HO_173000.out) hb); have n1_ := Aside0.mk (Kd.R_below (by (with_reducible repeat (first | apply Kd.R_alloc | apply Kd.R_drewN | apply Kd.R_drew)); exact HO_178000.out) hb); have n2_ := Aside0.mk (Kd.R_below (by (with_reducible repeat (first | apply Kd.R_alloc | apply Kd.R_drewN | apply Kd.R_drew)); exact HO_193000.out) hb); have n3_ := Aside0.mk (Kd.R_below (by (with_reducible repeat (first | apply Kd.R_alloc | apply Kd.R_drewN | apply Kd.R_drew)); exact HO206.out) hb); have n4_ := Aside0.mk (Kd.R_below (by (with_reducible repeat (first | apply Kd.R_alloc | apply Kd.R_drewN | apply Kd.R_drew)); exact HO209.out) hb); have n5_ := Aside0.mk (Kd.R_lower ho0 (below_size (by repeat (first | (with_reducible first | exact HB.out | apply below_alloc | apply pw_below_drewN | apply below_drew1 | refine below_set ?_ GE172.out | refine below_set ?_ GE177.out | refine below_set ?_ GE192.out) | exact HB.out)))); have n6_ := Aside0.mk (blk_below (g := gb172) (o := .cells #[.slice Ao16 t169.length co16] 26 (0, 0)) (by (with_reducible repeat (first | refine blk_drewN ?_ _ | refine blk_drew ?_ | refine blk_alloc ?_ _)); exact BK172.out) hb); have n7_ := Aside0.mk (blk_below (g := gb177) (o := .cells #[.slice Ao20 t173.length co20] 26 (0, 0)) (by (with_reducible repeat (first | refine blk_drewN ?_ _ | refine blk_drew ?_ | refine blk_alloc ?_ _)); exact BK177.out) hb); have n8_ := Aside0.mk (blk_below (g := gb192) (o := .cells #[.slice Ao44 t189.length co44] 26 (0, 0)) (by (with_reducible repeat (first | refine blk_drewN ?_ _ | refine blk_drew ?_ | refine blk_alloc ?_ _)); exact BK192.out) hb); have n9_ := Aside0.mk (below_step (by repeat (first | (with_reducible first | exact HB.out | apply below_alloc | apply pw_below_drewN | apply below_drew1 | refine below_set ?_ GE172.out | refine below_set ?_ GE177.out | refine below_set ?_ GE192.out) | exact HB.out)) hb); clear HO_173000; clear HO_178000; clear HO_193000; clear HO206; clear HO209; clear BK172; clear BK177; clear BK192; clear HB; have HO_173000 := n0_; have HO_178000 := n1_; have HO_193000 := n2_; have HO206 := n3_; have HO209 := n4_; have HO212 := n5_; have BK172 := n6_; have BK177 := n7_; have BK192 := n8_; have HB := n9_; clear n0_ n1_ n2_ n3_ n4_ n5_ n6_ n7_ n8_ n9_; (try clear hb); (try clear hb2); (try clear hk); (try clear hi); (try clear ho0); obtain ⟨Ao74, co74, eo74⟩ := Kd.R_slice HO209.out; subst eo74) | (go_at_call 14; (with_reducible refine (heronrylaw15_theirs.calls k2 _ _ t207 t213 _ ?side1 ?side2 A62.out).mono ?_); (case side1 => repeat (first | exact (Kd.R_reads' HO209.out).2.2 | (with_reducible refine Kd.C_alloc ?_ _) | (with_reducible refine Kd.C_drewN ?_ _) | (with_reducible refine Kd.C_drew ?_))); (case side2 => exact (Kd.R_reads' HO209.out).2.1); rintro e w75 ⟨v214, rfl, ho0, hb⟩; have n0_ := Aside0.mk (Kd.R_below (by (with_reducible repeat (first | apply Kd.R_alloc | apply Kd.R_drewN | apply Kd.R_drew)); exact HO_173000.out) hb); have n1_ := Aside0.mk (Kd.R_below (by (with_reducible repeat (first | apply Kd.R_alloc | apply Kd.R_drewN | apply Kd.R_drew)); exact HO_178000.out) hb); have n2_ := Aside0.mk (Kd.R_below (by (with_reducible repeat (first | apply Kd.R_alloc | apply Kd.R_drewN | apply Kd.R_drew)); exact HO_193000.out) hb); have n3_ := Aside0.mk (Kd.R_below (by (with_reducible repeat (first | apply Kd.R_alloc | apply Kd.R_drewN | apply Kd.R_drew)); exact HO206.out) hb); have n4_ := Aside0.mk (Kd.R_below (by (with_reducible repeat (first | apply Kd.R_alloc | apply Kd.R_drewN | apply Kd.R_drew)); exact HO209.out) hb); have n5_ := Aside0.mk (Kd.R_elder' (by (with_reducible repeat (first | apply Kd.R_alloc | apply Kd.R_drewN | apply Kd.R_drew)); exact HO212.out) (Kd.R_base ho0) hb); have n6_ := Aside0.mk (Kd.R_lower (Kd.R_new' ho0 (Kd.R_lt (by (with_reducible repeat (first | apply Kd.R_alloc | apply Kd.R_drewN | apply Kd.R_drew)); exact HO212.out))) (below_size (by repeat (first | (with_reducible first | exact HB.out | apply below_alloc | apply pw_below_drewN | apply below_drew1 | refine below_set ?_ GE172.out | refine below_set ?_ GE177.out | refine below_set ?_ GE192.out) | exact HB.out)))); have n7_ := Aside0.mk (blk_below (g := gb172) (o := .cells #[.slice Ao16 t169.length co16] 26 (0, 0)) (by (with_reducible repeat (first | refine blk_drewN ?_ _ | refine blk_drew ?_ | refine blk_alloc ?_ _)); exact BK172.out) hb); have n8_ := Aside0.mk (blk_below (g := gb177) (o := .cells #[.slice Ao20 t173.length co20] 26 (0, 0)) (by (with_reducible repeat (first | refine blk_drewN ?_ _ | refine blk_drew ?_ | refine blk_alloc ?_ _)); exact BK177.out) hb); have n9_ := Aside0.mk (blk_below (g := gb192) (o := .cells #[.slice Ao44 t189.length co44] 26 (0, 0)) (by (with_reducible repeat (first | refine blk_drewN ?_ _ | refine blk_drew ?_ | refine blk_alloc ?_ _)); exact BK192.out) hb); have n10_ := Aside0.mk (below_step (by repeat (first | (with_reducible first | exact HB.out | apply below_alloc | apply pw_below_drewN | apply below_drew1 | refine below_set ?_ GE172.out | refine below_set ?_ GE177.out | refine below_set ?_ GE192.out) | exact HB.out)) hb); clear HO_173000; clear HO_178000; clear HO_193000; clear HO206; clear HO209; clear HO212; clear BK172; clear BK177; clear BK192; clear HB; have HO_173000 := n0_; have HO_178000 := n1_; have HO_193000 := n2_; have HO206 := n3_; have HO209 := n4_; have HO212 := n5_; have HO215 := n6_; have BK172 := n7_; have BK177 := n8_; have BK192 := n9_; have HB := n10_; clear n0_ n1_ n2_ n3_ n4_ n5_ n6_ n7_ n8_ n9_ n10_; (try clear hb); (try clear hb2); (try clear hk); (try clear hi); (try clear ho0); obtain ⟨Ao76, co76, eo76⟩ := Kd.R_slice HO212.out; subst eo76; obtain ⟨Ao77, co77, eo77⟩ := Kd.R_slice HO215.out; subst eo77) | (go_at_call 13; (with_reducible refine (heronryref15_Same.calls k2 _ _ t210 _ _ t213 true _ ?side1 ?side2 ?side3 ?side4 A63.out).mono ?_); (case side1 => repeat (first | exact (Kd.R_reads' HO212.out).2.2 | (with_reducible refine Kd.C_alloc ?_ _) | (with_reducible refine Kd.C_drewN ?_ _) | (with_reducible refine Kd.C_drew ?_))); (case side2 => exact (Kd.R_reads' HO212.out).2.1); (case side3 => repeat (first | exact (Kd.R_reads' HO215.out).2.2 | (with_reducible refine Kd.C_alloc ?_ _) | (with_reducible refine Kd.C_drewN ?_ _) | (with_reducible refine Kd.C_drew ?_))); (case side4 => exact (Kd.R_reads' HO215.out).2.1); rintro e w' ⟨rfl, ⟨nd, rfl⟩⟩))
           go_roundg k2
           case measure => have := HJ11.out; have := HK2.out; omega
           case rel => exact ⟨(wrap64 (x16_2 + 1)), (by first | rfl | (simp; done) | (simp [*]; done)), H', ⟨by have := HJ11.out; have := HK2.out; omega⟩, ⟨by (with_reducible repeat (first | apply Kd.R_alloc | apply Kd.R_drewN | apply Kd.R_drew)); exact Kd.R_mono HO_173000.out (fun _ hk => ⟨hk.1.1.1, hk.1.1.2⟩)⟩, ⟨by (with_reducible repeat (first | apply Kd.R_alloc | apply Kd.R_drewN | apply Kd.R_drew)); exact Kd.R_mono HO_178000.out (fun _ hk => ⟨hk.1.1.1, hk.1.1.2⟩)⟩, ⟨by (with_reducible repeat (first | apply Kd.R_alloc | apply Kd.R_drewN | apply Kd.R_drew)); exact Kd.R_mono HO_193000.out (fun _ hk => ⟨hk.1.1.1, hk.1.1.2⟩)⟩, ⟨by (with_reducible repeat (first | refine blk_drewN ?_ _ | refine blk_drew ?_ | refine blk_alloc ?_ _)); exact BK172.out⟩, ⟨by (with_reducible repeat (first | refine blk_drewN ?_ _ | refine blk_drew ?_ | refine blk_alloc ?_ _)); exact BK177.out⟩, ⟨by (with_reducible repeat (first | refine blk_drewN ?_ _ | refine blk_drew ?_ | refine blk_alloc ?_ _)); exact BK192.out⟩, ⟨by repeat (first | (with_reducible first | exact HB.out | apply below_alloc | apply pw_below_drewN | apply below_drew1 | refine below_set ?_ GE172.out | refine below_set ?_ GE177.out | refine below_set ?_ GE192.out) | exact HB.out)⟩⟩
          ·replace c64 := Bool.eq_false_iff.mpr c64
           subst c64
           have H1 : (none) = some r := by rw [if_neg (show ¬ (false = true) by decide)] at H; exact H
           clear H
           have H := H1
           clear H1
           exact absurd H (by simp)
        ·rw [if_neg c48] at H
         have c48b0 : decide (x16_2 < 8) = false := decide_eq_false c48
         clear c48
         by_cases c78 : t168 = true
         ·subst c78
          have H1 : (if 0 ≤ (t173.length : Int) then (if (t173.length : Int) ≤ (t189.length : Int) then ((heronrylaw15_theirs.f k2 (t189.take ((t173.length : Int) : Int).toNat)).bind fun t197 => ((heronrylaw15_theirs.f k2 t173).bind fun t200 => ((heronryref15_Same.f k2 t197 t200).bind fun t203 => (some t203)))) else (none)) else (none)) = some r := by rw [if_pos rfl] at H; exact H
          clear H
          have H := H1
          clear H1
          by_cases c79 : 0 ≤ (t173.length : Int)
          ·rw [if_pos c79] at H
           have c79b0 := eq_true c79
           have c79b1 : decide (0 ≤ (t173.length : Int)) = true := decide_eq_true c79
           clear c79
           by_cases c80 : (t173.length : Int) ≤ (t189.length : Int)
           ·rw [if_pos c80] at H
            have c80b0 := eq_true c80
            have c80b1 : decide ((t173.length : Int) ≤ (t189.length : Int)) = true := decide_eq_true c80
            clear c80
            obtain ⟨y193, hy193⟩ : ∃ y_ : List (S33), y_ = (t189.take ((t173.length : Int) : Int).toNat) := ⟨_, rfl⟩
            replace H : ((heronrylaw15_theirs.f k2 y193).bind fun t197 => ((heronrylaw15_theirs.f k2 t173).bind fun t200 => ((heronryref15_Same.f k2 t197 t200).bind fun t203 => (some t203)))) = some r := by first | (rw [hy193]; with_reducible exact H) | (have H2_ := (Option.bind_some _ _).symm.trans H; rw [hy193]; with_reducible exact H2_) | (have H2_ := (Option.bind_some _ _).symm.trans H; with_reducible exact H2_) | with_reducible exact H | (rw [hy193]; exact H) | exact H
            have Ny193 := Aside0.mk hy193
            clear hy193
            replace H := Option.bind_eq_some_iff.mp H
            obtain ⟨t197, A810, H⟩ := H
            replace H : ((heronrylaw15_theirs.f k2 t173).bind fun t200 => ((heronryref15_Same.f k2 t197 t200).bind fun t203 => (some t203))) = some r := H
            have A81 := Aside0.mk A810
            clear A810
            replace H := Option.bind_eq_some_iff.mp H
            obtain ⟨t200, A820, H⟩ := H
            replace H : ((heronryref15_Same.f k2 t197 t200).bind fun t203 => (some t203)) = some r := H
            have A82 := Aside0.mk A820
            clear A820
            replace H := Option.bind_eq_some_iff.mp H
            obtain ⟨t203, A830, H⟩ := H
            replace H : (some t203) = some r := H
            have A83 := Aside0.mk A830
            clear A830
            obtain rfl := Option.some.inj H
            try go_wp2
            have n0_ := Aside0.mk (Kd.R_drew HO_173000.out)
            have n1_ := Aside0.mk (Kd.R_drew HO_178000.out)
            have n2_ := Aside0.mk (Kd.R_drew HO_193000.out)
            have n3_ := Aside0.mk (blk_drew BK172.out)
            have n4_ := Aside0.mk (blk_drew BK177.out)
            have n5_ := Aside0.mk (blk_drew BK192.out)
            have n6_ := Aside0.mk (below_drew1 HB.out)
            clear HO_173000
            clear HO_178000
            clear HO_193000
            clear BK172
            clear BK177
            clear BK192
            clear HB
            have HO_173000 := n0_
            have HO_178000 := n1_
            have HO_193000 := n2_
            have BK172 := n3_
            have BK177 := n4_
            have BK192 := n5_
            have HB := n6_
            clear n0_ n1_ n2_ n3_ n4_ n5_ n6_
            have q85 : ((t173.length : Int) : Int) ≤ ((t189.length : Int) : Int) := of_decide_eq_true (by first | (with_reducible assumption) | assumption)
            obtain ⟨i085, hi085, _, hsz85, _⟩ := info_parts info33
            have hroom85 : t189.length ≤ co44 := (Kd.R_reads' HO_193000.out).2.1
            have hC85 : Kd.C k33 _ Ao44 t189.length t189 := (Kd.R_reads' HO_193000.out).2.2
            have hcut85 := cut_to (P := Try.prog) 24 33 .i64 Try.underlying24 hi085 Ao44 t189.length co44 (t173.length : Int) (of_decide_eq_true (by first | (with_reducible assumption) | assumption)) q85 hroom85
            have hr85 := Kd.C_take (m := ((t173.length : Int) : Int).toNat) hC85 (by omega)
            have hy85 : y193.length = ((t173.length : Int) : Int).toNat := (by rw [Ny193.out, List.length_take]; omega)
            rw [← Ny193.out] at hr85
            rw [← hy85] at hcut85
            have HR196 := Aside0.mk hr85
            have HC196 := Aside0.mk (show y193.length ≤ co44 from by omega)
            clear hr85 hC85 hroom85 hi085 hsz85
            have KY85 := Aside0.mk hy85
            clear hy85
            have KL85 := Aside0.mk (show ((t173.length : Int) : Int).toNat ≤ t189.length from by omega)
            replace q85 := eq_true q85
            refine start_ (n := 15) (S := fun w' => w'.cell? ⟨gb192, 0, none⟩ = some (.slice Ao44 t189.length co44) ∧ w'.cell? ⟨gb177, 0, none⟩ = some (.slice Ao20 t173.length co20)) (ds := []) #[false, false, false, false, false, false, false, false, false, false, false, false, false, false, false] (by kernel_rfl) rfl rfl ⟨(blk_cell BK192.out 0).trans rfl, (blk_cell BK177.out 0).trans rfl⟩ (fun hHeld => ?_); refine with_tabW heronrylaw15_OplistOpens.tab20 heronrylaw15_OplistOpens.bits20 (fun HT_ HW_ => ?_)
            generalize wr.drew = w84 at HO_173000 HO_178000 HO_193000 BK172 BK177 BK192 HB HR196 hHeld ⊢
            refine pure_ (i := 0) (N := some 120) (v := ?_) (a' := ?_) #[true, false, false, false, false, false, false, false, false, false, false, false, false, false, false] rfl rfl (any_of HT_.out (by kernel_rfl)) (fun _ _ _ h => h) (Or.inl ⟨by rfl, ?_⟩) ?_ ?_
            rotate_left
            ·intro w'
             go_simp
             with_reducible rfl
            rotate_left
            ·simp only [Act.put, List.setIfInBounds_toArray, List.set_cons_zero, List.set_cons_succ, i64_w, i32_w]
             rfl
            refine pure_ (i := 1) (N := some 121) (v := ?_) (a' := ?_) #[true, true, false, false, false, false, false, false, false, false, false, false, false, false, false] rfl rfl (any_of HT_.out (by kernel_rfl)) (fun _ _ _ h => h) (Or.inl ⟨by rfl, ?_⟩) ?_ ?_
            rotate_left
            ·intro w'
             go_simp
             with_reducible rfl
            rotate_left
            ·simp only [Act.put, List.setIfInBounds_toArray, List.set_cons_zero, List.set_cons_succ, i64_w, i32_w]
             rfl
            refine pure_ (i := 2) (N := some 122) (v := ?_) (a' := ?_) #[true, true, true, false, false, false, false, false, false, false, false, false, false, false, false] rfl rfl (any_of HT_.out (by kernel_rfl)) (fun _ _ _ h => h) (Or.inl ⟨by rfl, ?_⟩) ?_ ?_
            rotate_left
            ·intro w'
             go_simp
             with_reducible rfl
            rotate_left
            ·simp only [Act.put, List.setIfInBounds_toArray, List.set_cons_zero, List.set_cons_succ, i64_w, i32_w]
             rfl
            refine pure_ (i := 4) (N := some 124) (v := ?_) (a' := ?_) #[true, true, true, false, true, false, false, false, false, false, false, false, false, false, false] rfl rfl (any_of HT_.out (by kernel_rfl)) (fun _ _ _ h => h) (Or.inl ⟨by rfl, ?_⟩) ?_ ?_
            rotate_left
            ·intro w'
             go_simp
             with_reducible rfl
            rotate_left
            ·simp only [Act.put, List.setIfInBounds_toArray, List.set_cons_zero, List.set_cons_succ, i64_w, i32_w]
             rfl
            refine pure_ (i := 9) (N := some 129) (v := ?_) (a' := ?_) #[true, true, true, false, true, false, false, false, false, true, false, false, false, false, false] rfl rfl (any_of HT_.out (by kernel_rfl)) (fun _ _ _ h => h) (Or.inl ⟨by rfl, ?_⟩) ?_ ?_
            rotate_left
            ·intro w'
             go_simp
             with_reducible rfl
            rotate_left
            ·simp only [Act.put, List.setIfInBounds_toArray, List.set_cons_zero, List.set_cons_succ, i64_w, i32_w]
             rfl
            refine take_ (i := 3) (N := some 123) (v := ?_) (a' := ?_) #[true, true, true, true, true, false, false, false, false, true, false, false, false, false, false] rfl rfl (take_ofW HT_.out HW_.out (by kernel_rfl)) (fun _ _ _ h => h) (Or.inl ⟨by rfl, ?_⟩) hHeld ?_ ?_
            rotate_left
            ·rintro w' ⟨s0, s1⟩
             go_simp
             with_reducible rfl
            rotate_left
            ·simp only [Act.put, List.setIfInBounds_toArray, List.set_cons_zero, List.set_cons_succ, i64_w, i32_w]
             rfl
            refine take_ (i := 5) (N := some 125) (v := ?_) (a' := ?_) #[true, true, true, true, true, true, false, false, false, true, false, false, false, false, false] rfl rfl (take_ofW HT_.out HW_.out (by kernel_rfl)) (fun _ _ _ h => h) (Or.inl ⟨by rfl, ?_⟩) hHeld ?_ ?_
            rotate_left
            ·rintro w' ⟨s0, s1⟩
             go_simp
             with_reducible rfl
            rotate_left
            ·simp only [Act.put, List.setIfInBounds_toArray, List.set_cons_zero, List.set_cons_succ, i64_w, i32_w]
             rfl
            refine pure_ (i := 6) (N := some 126) (v := ?_) (a' := ?_) #[true, true, true, true, true, true, true, false, false, true, false, false, false, false, false] rfl rfl (any_of HT_.out (by kernel_rfl)) (fun _ _ _ h => h) (Or.inl ⟨by rfl, ?_⟩) ?_ ?_
            rotate_left
            ·intro w'
             go_simp
             with_reducible rfl
            rotate_left
            ·simp only [Act.put, List.setIfInBounds_toArray, List.set_cons_zero, List.set_cons_succ, i64_w, i32_w]
             rfl
            refine pure_ (i := 7) (N := some 127) (v := ?_) (a' := ?_) #[true, true, true, true, true, true, true, true, false, true, false, false, false, false, false] rfl rfl (any_of HT_.out (by kernel_rfl)) (fun _ _ _ h => h) (Or.inl ⟨by rfl, ?_⟩) ?_ ?_
            rotate_left
            ·intro w'
             go_simp
             with_reducible rfl
            rotate_left
            ·simp only [Act.put, List.setIfInBounds_toArray, List.set_cons_zero, List.set_cons_succ, i64_w, i32_w]
             rfl
            refine take_ (i := 10) (N := some 130) (v := ?_) (a' := ?_) #[true, true, true, true, true, true, true, true, false, true, true, false, false, false, false] rfl rfl (take_ofW HT_.out HW_.out (by kernel_rfl)) (fun _ _ _ h => h) (Or.inl ⟨by rfl, ?_⟩) hHeld ?_ ?_
            rotate_left
            ·rintro w' ⟨s0, s1⟩
             go_simp
             with_reducible rfl
            rotate_left
            ·simp only [Act.put, List.setIfInBounds_toArray, List.set_cons_zero, List.set_cons_succ, i64_w, i32_w]
             rfl
            refine one_ (i := 8) (N := some 128) #[true, true, true, true, true, true, true, true, true, true, true, false, false, false, false] rfl rfl (one_of HT_.out (by kernel_rfl)) (by decide) (fun K hK => ?_)
            refine goes_ Try.func14 (by kernel_rfl) rfl #[.slice Ao44 y193.length co44] (by rfl) rfl rfl (by (try simp only [List.map_toArray, List.map_cons, List.map_nil]); first | done | rfl | (simp only [List.length_drop, List.length_take]; rfl)) ?_
            with_reducible refine (heronrylaw15_theirs.calls k2 _ _ y193 t197 _ ?side1 ?side2 A81.out).mono ?_
            (case side1 => repeat (first | exact (by repeat (first | (with_reducible exact HR196.out) | (with_reducible refine Kd.C_alloc ?_ _) | (with_reducible refine Kd.C_drewN ?_ _) | (with_reducible refine Kd.C_drew ?_) | exact HR196.out)) | (with_reducible refine Kd.C_alloc ?_ _) | (with_reducible refine Kd.C_drewN ?_ _) | (with_reducible refine Kd.C_drew ?_)))
            (case side2 => exact HC196.out)
            rintro e w86 ⟨v198, rfl, ho0, hb⟩
            refine ⟨_, rfl, ?_⟩
            have n0_ := Aside0.mk (Kd.R_below (by (with_reducible repeat (first | apply Kd.R_alloc | apply Kd.R_drewN | apply Kd.R_drew)); exact HO_173000.out) hb)
            have n1_ := Aside0.mk (Kd.R_below (by (with_reducible repeat (first | apply Kd.R_alloc | apply Kd.R_drewN | apply Kd.R_drew)); exact HO_178000.out) hb)
            have n2_ := Aside0.mk (Kd.R_below (by (with_reducible repeat (first | apply Kd.R_alloc | apply Kd.R_drewN | apply Kd.R_drew)); exact HO_193000.out) hb)
            have n3_ := Aside0.mk (Kd.R_lower ho0 (below_size (by repeat (first | (with_reducible first | exact HB.out | apply below_alloc | apply pw_below_drewN | apply below_drew1 | refine below_set ?_ GE172.out | refine below_set ?_ GE177.out | refine below_set ?_ GE192.out) | exact HB.out))))
            have n4_ := Aside0.mk (blk_below (g := gb172) (o := .cells #[.slice Ao16 t169.length co16] 26 (0, 0)) (by (with_reducible repeat (first | refine blk_drewN ?_ _ | refine blk_drew ?_ | refine blk_alloc ?_ _)); exact BK172.out) hb)
            have n5_ := Aside0.mk (blk_below (g := gb177) (o := .cells #[.slice Ao20 t173.length co20] 26 (0, 0)) (by (with_reducible repeat (first | refine blk_drewN ?_ _ | refine blk_drew ?_ | refine blk_alloc ?_ _)); exact BK177.out) hb)
            have n6_ := Aside0.mk (blk_below (g := gb192) (o := .cells #[.slice Ao44 t189.length co44] 26 (0, 0)) (by (with_reducible repeat (first | refine blk_drewN ?_ _ | refine blk_drew ?_ | refine blk_alloc ?_ _)); exact BK192.out) hb)
            have n7_ := Aside0.mk (Kd.C_below (by repeat (first | (with_reducible exact HR196.out) | (with_reducible refine Kd.C_alloc ?_ _) | (with_reducible refine Kd.C_drewN ?_ _) | (with_reducible refine Kd.C_drew ?_) | exact HR196.out)) hb)
            have n8_ := Aside0.mk (below_step (by repeat (first | (with_reducible first | exact HB.out | apply below_alloc | apply pw_below_drewN | apply below_drew1 | refine below_set ?_ GE172.out | refine below_set ?_ GE177.out | refine below_set ?_ GE192.out) | exact HB.out)) hb)
            clear HO_173000
            clear HO_178000
            clear HO_193000
            clear BK172
            clear BK177
            clear BK192
            clear HR196
            clear HB
            have HO_173000 := n0_
            have HO_178000 := n1_
            have HO_193000 := n2_
            have HO199 := n3_
            have BK172 := n4_
            have BK177 := n5_
            have BK192 := n6_
            have HR196 := n7_
            have HB := n8_
            clear n0_ n1_ n2_ n3_ n4_ n5_ n6_ n7_ n8_
            (try clear hb)
            (try clear hb2)
            (try clear hk)
            (try clear hi)
            (try clear ho0)
            refine hK.out _ _ ⟨(blk_cell BK192.out 0).trans rfl, (blk_cell BK177.out 0).trans rfl⟩ (fun hHeld => ?_)
            clear hK K
            refine norm_ (a' := ?_) ?_ ?_
            rotate_left
            ·show Act.put _ (some 128) _ = _
             simp only [Act.put, List.setIfInBounds_toArray, List.set_cons_zero, List.set_cons_succ, i64_w, i32_w]
             rfl
            refine one_ (i := 11) (N := some 131) #[true, true, true, true, true, true, true, true, true, true, true, true, false, false, false] rfl rfl (one_of HT_.out (by kernel_rfl)) (by decide) (fun K hK => ?_)
            refine goes_ Try.func14 (by kernel_rfl) rfl #[.slice Ao20 t173.length co20] (by rfl) rfl rfl (by (try simp only [List.map_toArray, List.map_cons, List.map_nil]); first | done | rfl | (simp only [List.length_drop, List.length_take]; rfl)) ?_
            with_reducible refine (heronrylaw15_theirs.calls k2 _ _ t173 t200 _ ?side1 ?side2 A82.out).mono ?_
            (case side1 => repeat (first | exact (Kd.R_reads' HO_178000.out).2.2 | (with_reducible refine Kd.C_alloc ?_ _) | (with_reducible refine Kd.C_drewN ?_ _) | (with_reducible refine Kd.C_drew ?_)))
            (case side2 => exact (Kd.R_reads' HO_178000.out).2.1)
            rintro e w87 ⟨v201, rfl, ho0, hb⟩
            refine ⟨_, rfl, ?_⟩
            have n0_ := Aside0.mk (Kd.R_below (by (with_reducible repeat (first | apply Kd.R_alloc | apply Kd.R_drewN | apply Kd.R_drew)); exact HO_173000.out) hb)
            have n1_ := Aside0.mk (Kd.R_below (by (with_reducible repeat (first | apply Kd.R_alloc | apply Kd.R_drewN | apply Kd.R_drew)); exact HO_178000.out) hb)
            have n2_ := Aside0.mk (Kd.R_below (by (with_reducible repeat (first | apply Kd.R_alloc | apply Kd.R_drewN | apply Kd.R_drew)); exact HO_193000.out) hb)
            have n3_ := Aside0.mk (Kd.R_elder' (by (with_reducible repeat (first | apply Kd.R_alloc | apply Kd.R_drewN | apply Kd.R_drew)); exact HO199.out) (Kd.R_base ho0) hb)
            have n4_ := Aside0.mk (Kd.R_lower (Kd.R_new' ho0 (Kd.R_lt (by (with_reducible repeat (first | apply Kd.R_alloc | apply Kd.R_drewN | apply Kd.R_drew)); exact HO199.out))) (below_size (by repeat (first | (with_reducible first | exact HB.out | apply below_alloc | apply pw_below_drewN | apply below_drew1 | refine below_set ?_ GE172.out | refine below_set ?_ GE177.out | refine below_set ?_ GE192.out) | exact HB.out))))
            have n5_ := Aside0.mk (blk_below (g := gb172) (o := .cells #[.slice Ao16 t169.length co16] 26 (0, 0)) (by (with_reducible repeat (first | refine blk_drewN ?_ _ | refine blk_drew ?_ | refine blk_alloc ?_ _)); exact BK172.out) hb)
            have n6_ := Aside0.mk (blk_below (g := gb177) (o := .cells #[.slice Ao20 t173.length co20] 26 (0, 0)) (by (with_reducible repeat (first | refine blk_drewN ?_ _ | refine blk_drew ?_ | refine blk_alloc ?_ _)); exact BK177.out) hb)
            have n7_ := Aside0.mk (blk_below (g := gb192) (o := .cells #[.slice Ao44 t189.length co44] 26 (0, 0)) (by (with_reducible repeat (first | refine blk_drewN ?_ _ | refine blk_drew ?_ | refine blk_alloc ?_ _)); exact BK192.out) hb)
            have n8_ := Aside0.mk (Kd.C_below (by repeat (first | (with_reducible exact HR196.out) | (with_reducible refine Kd.C_alloc ?_ _) | (with_reducible refine Kd.C_drewN ?_ _) | (with_reducible refine Kd.C_drew ?_) | exact HR196.out)) hb)
            have n9_ := Aside0.mk (below_step (by repeat (first | (with_reducible first | exact HB.out | apply below_alloc | apply pw_below_drewN | apply below_drew1 | refine below_set ?_ GE172.out | refine below_set ?_ GE177.out | refine below_set ?_ GE192.out) | exact HB.out)) hb)
            clear HO_173000
            clear HO_178000
            clear HO_193000
            clear HO199
            clear BK172
            clear BK177
            clear BK192
            clear HR196
            clear HB
            have HO_173000 := n0_
            have HO_178000 := n1_
            have HO_193000 := n2_
            have HO199 := n3_
            have HO202 := n4_
            have BK172 := n5_
            have BK177 := n6_
            have BK192 := n7_
            have HR196 := n8_
            have HB := n9_
            clear n0_ n1_ n2_ n3_ n4_ n5_ n6_ n7_ n8_ n9_
            (try clear hb)
            (try clear hb2)
            (try clear hk)
            (try clear hi)
            (try clear ho0)
            obtain ⟨Ao88, co88, eo88⟩ := Kd.R_slice HO199.out
            (first | subst eo88 | (injection eo88 with f1_ f2_ f3_; have f4_ := f1_.symm; have f5_ := f3_.symm; clear f1_ f2_ f3_; subst f4_; subst f5_))
            obtain ⟨Ao89, co89, eo89⟩ := Kd.R_slice HO202.out
            (first | subst eo89 | (injection eo89 with f1_ f2_ f3_; have f4_ := f1_.symm; have f5_ := f3_.symm; clear f1_ f2_ f3_; subst f4_; subst f5_))
            refine hK.out _ _ ⟨(blk_cell BK192.out 0).trans rfl, (blk_cell BK177.out 0).trans rfl⟩ (fun hHeld => ?_)
            clear hK K
            refine norm_ (a' := ?_) ?_ ?_
            rotate_left
            ·show Act.put _ (some 131) _ = _
             simp only [Act.put, List.setIfInBounds_toArray, List.set_cons_zero, List.set_cons_succ, i64_w, i32_w]
             rfl
            refine one_ (i := 12) (N := some 132) #[true, true, true, true, true, true, true, true, true, true, true, true, true, false, false] rfl rfl (one_of HT_.out (by kernel_rfl)) (by decide) (fun K hK => ?_)
            refine goes_ Try.func13 (by kernel_rfl) rfl #[.slice Ao88 t197.length co88, .slice Ao89 t200.length co89] (by rfl) rfl rfl (by (try simp only [List.map_toArray, List.map_cons, List.map_nil]); first | done | rfl | (simp only [List.length_drop, List.length_take]; rfl)) ?_
            with_reducible refine (heronryref15_Same.calls k2 _ _ t197 _ _ t200 t203 _ ?side1 ?side2 ?side3 ?side4 A83.out).mono ?_
            (case side1 => repeat (first | exact (Kd.R_reads' HO199.out).2.2 | (with_reducible refine Kd.C_alloc ?_ _) | (with_reducible refine Kd.C_drewN ?_ _) | (with_reducible refine Kd.C_drew ?_)))
            (case side2 => exact (Kd.R_reads' HO199.out).2.1)
            (case side3 => repeat (first | exact (Kd.R_reads' HO202.out).2.2 | (with_reducible refine Kd.C_alloc ?_ _) | (with_reducible refine Kd.C_drewN ?_ _) | (with_reducible refine Kd.C_drew ?_)))
            (case side4 => exact (Kd.R_reads' HO202.out).2.1)
            rintro e w' ⟨rfl, ⟨nd, rfl⟩⟩
            refine ⟨_, rfl, ?_⟩
            refine hK.out _ _ ⟨(blk_cell BK192.out 0).trans rfl, (blk_cell BK177.out 0).trans rfl⟩ (fun hHeld => ?_)
            clear hK K
            refine norm_ (a' := ?_) ?_ ?_
            rotate_left
            ·show Act.put _ (some 132) _ = _
             simp only [Act.put, List.setIfInBounds_toArray, List.set_cons_zero, List.set_cons_succ, i64_w, i32_w]
             rfl
            refine pure_ (i := 13) (N := some 133) (v := ?_) (a' := ?_) #[true, true, true, true, true, true, true, true, true, true, true, true, true, true, false] rfl rfl (any_of HT_.out (by kernel_rfl)) (fun _ _ _ h => h) (Or.inl ⟨by rfl, ?_⟩) ?_ ?_
            rotate_left
            ·intro w'
             go_simp
             with_reducible rfl
            rotate_left
            ·simp only [Act.put, List.setIfInBounds_toArray, List.set_cons_zero, List.set_cons_succ, i64_w, i32_w]
             rfl
            refine pure_ (i := 14) (N := some 8) (v := ?_) (a' := ?_) #[true, true, true, true, true, true, true, true, true, true, true, true, true, true, true] rfl rfl (any_of HT_.out (by kernel_rfl)) (fun _ _ _ h => h) (Or.inl ⟨by rfl, ?_⟩) ?_ ?_
            rotate_left
            ·intro w'
             go_simp
             with_reducible rfl
            rotate_left
            ·simp only [Act.put, List.setIfInBounds_toArray, List.set_cons_zero, List.set_cons_succ, i64_w, i32_w]
             rfl
            refine done_ (done_of HT_.out (by kernel_rfl)) ?_
            try go_wp2
            go_ret
            exact ⟨by first | rfl | (simp [errW_none, errW_some] <;> rfl) | (simp [*, errW_none, errW_some] <;> rfl), by repeat (first | (with_reducible first | exact HB.out | apply below_alloc | apply pw_below_drewN | apply below_drew1 | refine below_set ?_ GE172.out | refine below_set ?_ GE177.out | refine below_set ?_ GE192.out) | exact HB.out)⟩
           ·rw [if_neg c80] at H
            exact absurd H (by simp)
          ·rw [if_neg c79] at H
           exact absurd H (by simp)
         ·replace c78 := Bool.eq_false_iff.mpr c78
          subst c78
          have H1 : (none) = some r := by rw [if_neg (show ¬ (false = true) by decide)] at H; exact H
          clear H
          have H := H1
          clear H1
          exact absurd H (by simp)
  ·rw [if_neg c10] at H
   have c10b0 : (t176 == 0) = false := beq_eq_false_iff_ne.mpr c10
   have c10b1 : (t176 != 0) = true := bne_iff_ne.mpr c10
   by_cases c90 : t168 = true
   ·subst c90
    have H1 : (if (t173.length : Int) = 0 then (if t176 = 13 then (some true) else (some (a3 == (-9223372036854775808)))) else (none)) = some r := by rw [if_pos rfl] at H; exact H
    clear H
    have H := H1
    clear H1
    by_cases c91 : (t173.length : Int) = 0
    ·rw [if_pos c91] at H
     have c91b0 : ((t173.length : Int) == 0) = true := beq_iff_eq.mpr c91
     have c91b1 : ((t173.length : Int) != 0) = false := bne_eq_false_iff_eq.mpr c91
     clear c91
     by_cases c92 : t176 = 13
     ·rw [if_pos c92] at H
      have c92b0 : (t176 == 13) = true := beq_iff_eq.mpr c92
      have c92b1 : (t176 != 13) = false := bne_eq_false_iff_eq.mpr c92
      clear c92
      obtain rfl := Option.some.inj H
      go_enter Try.func3, Try.ntmps3
      go_wp2_with (first | ((with_reducible refine gate_callee (f := 8) rfl ?_); refine goesL_ (some 19) rfl rfl Try.func8 (by kernel_rfl) rfl #[] rfl (by (try simp only [List.map_toArray, List.map_cons, List.map_nil]); first | done | rfl | (simp only [List.length_drop, List.length_take]; rfl)) ?_; (with_reducible refine (heronrylaw15_awake.calls k  true _ A5.out).mono ?_); rintro e w93 ⟨rfl, hb⟩; refine ⟨_, rfl, ?_⟩; have n0_ := Aside0.mk (below_step (by repeat (first | (with_reducible first | exact HB.out | apply below_alloc | apply pw_below_drewN | apply below_drew1) | exact HB.out)) hb); clear HB; have HB := n0_; clear n0_; (try clear hb); (try clear hb2); (try clear hk); (try clear hi)) | ((with_reducible refine gate_callee (f := 9) rfl ?_); refine goesL_ (some 25) rfl rfl Try.func9 (by kernel_rfl) rfl #[.slice A0 l0.length c0] rfl (by (try simp only [List.map_toArray, List.map_cons, List.map_nil]); first | done | rfl | (simp only [List.length_drop, List.length_take]; rfl)) ?_; (with_reducible refine (heronrylaw15_grown.calls k _ _ l0 t169 _ ?side1 ?side2 A8.out).mono ?_); (case side1 => repeat (first | exact (Kd.C_below HR0.out HB.out) | (with_reducible refine Kd.C_alloc ?_ _) | (with_reducible refine Kd.C_drewN ?_ _) | (with_reducible refine Kd.C_drew ?_))); (case side2 => exact HC0.out); rintro e w94 ⟨v170, rfl, ho0, hb⟩; refine ⟨_, rfl, ?_⟩; have n0_ := Aside0.mk (Kd.R_lower ho0 (below_size (by repeat (first | (with_reducible first | exact HB.out | apply below_alloc | apply pw_below_drewN | apply below_drew1) | exact HB.out)))); have n1_ := Aside0.mk (below_step (by repeat (first | (with_reducible first | exact HB.out | apply below_alloc | apply pw_below_drewN | apply below_drew1) | exact HB.out)) hb); clear HB; have HO171 := n0_; have HB := n1_; clear n0_ n1_; (try clear hb); (try clear hb2); (try clear hk); (try clear hi); (try clear ho0)) | ((with_reducible refine gate_dst (N := 10) rfl ?_); (try (refine gate_guard (by rfl) ?_; dsimp only)); refine box_event ?hg (N := 10) ?hd (cs := #[.slice none 0 0]) (t := 26) ?hr ?_; (case hd => rfl); (case hg => rfl); (case hr => first | (go_simp; done) | (go_simp; rfl)); intro gb172 hg w95 hbox hb; have n0_ := Aside0.mk (Kd.R_below (by (with_reducible repeat (first | apply Kd.R_alloc | apply Kd.R_drewN | apply Kd.R_drew)); exact HO171.out) hb); have n1_ := Aside0.mk (below_step (by repeat (first | (with_reducible first | exact HB.out | apply below_alloc | apply pw_below_drewN | apply below_drew1) | exact HB.out)) hb); have n2_ := Aside0.mk (hbox); have n3_ := Aside0.mk ((by rw [hg]; exact (below_size (by repeat (first | (with_reducible first | exact HB.out | apply below_alloc | apply pw_below_drewN | apply below_drew1) | exact HB.out))) : w.heap.size ≤ gb172)); have n4_ := Aside0.mk ((by rw [hg]; exact (below_size (by repeat (first | (with_reducible first | exact HB.out | apply below_alloc | apply pw_below_drewN | apply below_drew1) | exact HB.out))) : w.heap.size ≤ gb172)); clear HO171; clear HB; have HO171 := n0_; have HB := n1_; have BK172 := n2_; have GW172 := n3_; have GE172 := n4_; clear n0_ n1_ n2_ n3_ n4_; clear hb hbox hg; obtain ⟨Ao96, co96, eo96⟩ := Kd.R_slice HO171.out; subst eo96; have hcz97_0 : w95.cell? ⟨gb172, 0, none⟩ = some (.slice none 0 0) := (blk_cell BK172.out 0).trans rfl; have hfz97_0 := blk_frozen BK172.out 0) | ((with_reducible refine gate_callee (f := 10) rfl ?_); refine goesL_ (some 34) rfl rfl Try.func10 (by kernel_rfl) rfl #[.agg #[.slice Ao96 t169.length co96], .int .i64 (Go.bits .and .i64 a1 7), .int .i64 (Go.bits .and .i64 a2 3), .int .i64 a3] rfl (by (try simp only [List.map_toArray, List.map_cons, List.map_nil]); first | done | rfl | (simp only [List.length_drop, List.length_take]; rfl)) ?_; (with_reducible refine (oplist_Do.calls k _ _ t169 (Go.bits .and .i64 a1 7) (Go.bits .and .i64 a2 3) a3 t173 t176 _ ?side1 ?side2 A9.out).mono ?_); (case side1 => refine (Kd.R_reads' (e := 33) (base := w.heap.size) (ok := fun k_ => True) (n := t169.length) (c := co96) ?_).2.2; exact (by (with_reducible repeat (first | apply Kd.R_alloc | apply Kd.R_drewN | apply Kd.R_drew)); exact (Kd.R_mono (Kd.R_far (p := ⟨gb172, 0, none⟩) (Kd.R_types HO171.out BK172.out (by decide)) (fun _ hk => hk.2) (.slice Ao96 t169.length co96)) (fun _ h_ => h_.1)))); (case side2 => exact (Kd.R_reads' HO171.out).2.1); rintro e w98 ⟨v174, rfl, ho0, hb⟩; refine ⟨_, rfl, ?_⟩; have n0_ := Aside0.mk (Kd.R_elder' (by (with_reducible repeat (first | apply Kd.R_alloc | apply Kd.R_drewN | apply Kd.R_drew)); exact (Kd.R_mono (Kd.R_far (p := ⟨gb172, 0, none⟩) (Kd.R_types HO171.out BK172.out (by decide)) (fun _ hk => hk.2) (.slice Ao96 t169.length co96)) (fun _ h_ => h_.1))) (Kd.R_base ho0) hb); have n1_ := Aside0.mk (Kd.R_lower (Kd.R_new' ho0 (Kd.R_lt (by (with_reducible repeat (first | apply Kd.R_alloc | apply Kd.R_drewN | apply Kd.R_drew)); exact (Kd.R_mono (Kd.R_far (p := ⟨gb172, 0, none⟩) (Kd.R_types HO171.out BK172.out (by decide)) (fun _ hk => hk.2) (.slice Ao96 t169.length co96)) (fun _ h_ => h_.1))))) (below_size (by repeat (first | (with_reducible first | exact HB.out | apply below_alloc | apply pw_below_drewN | apply below_drew1 | refine below_set ?_ GE172.out) | exact HB.out)))); have n2_ := Aside0.mk (blk_below (g := gb172) (o := .cells #[.slice Ao96 t169.length co96] 26 (0, 0)) (by (with_reducible repeat (first | refine blk_drewN ?_ _ | refine blk_drew ?_ | refine blk_alloc ?_ _)); refine blk_put (cs := #[.slice none 0 0]) ?_ 0 _ rfl; (with_reducible repeat (first | refine blk_drewN ?_ _ | refine blk_drew ?_ | refine blk_alloc ?_ _)); exact BK172.out) hb); have n3_ := Aside0.mk (below_step (by repeat (first | (with_reducible first | exact HB.out | apply below_alloc | apply pw_below_drewN | apply below_drew1 | refine below_set ?_ GE172.out) | exact HB.out)) hb); clear HO171; clear BK172; clear HB; have HO171 := n0_; have HO175 := n1_; have BK172 := n2_; have HB := n3_; clear n0_ n1_ n2_ n3_; (try clear hb); (try clear hb2); (try clear hk); (try clear hi); (try clear ho0)) | ((with_reducible refine gate_dst (N := 12) rfl ?_); (try (refine gate_guard (by rfl) ?_; dsimp only)); refine box_event ?hg (N := 12) ?hd (cs := #[.slice none 0 0]) (t := 26) ?hr ?_; (case hd => rfl); (case hg => rfl); (case hr => first | (go_simp; done) | (go_simp; rfl)); intro gb177 hg w99 hbox hb; have n0_ := Aside0.mk (Kd.R_below (by (with_reducible repeat (first | apply Kd.R_alloc | apply Kd.R_drewN | apply Kd.R_drew)); exact HO171.out) hb); have n1_ := Aside0.mk (Kd.R_below (by (with_reducible repeat (first | apply Kd.R_alloc | apply Kd.R_drewN | apply Kd.R_drew)); exact HO175.out) hb); have n2_ := Aside0.mk (blk_below (g := gb172) (o := .cells #[.slice Ao96 t169.length co96] 26 (0, 0)) (by (with_reducible repeat (first | refine blk_drewN ?_ _ | refine blk_drew ?_ | refine blk_alloc ?_ _)); exact BK172.out) hb); have n3_ := Aside0.mk (below_step (by repeat (first | (with_reducible first | exact HB.out | apply below_alloc | apply pw_below_drewN | apply below_drew1 | refine below_set ?_ GE172.out) | exact HB.out)) hb); have n4_ := Aside0.mk (hbox); have n5_ := Aside0.mk ((by rw [hg]; exact (below_size (by repeat (first | (with_reducible first | exact HB.out | apply below_alloc | apply pw_below_drewN | apply below_drew1 | refine below_set ?_ GE172.out) | exact HB.out))) : w.heap.size ≤ gb177)); have n6_ := Aside0.mk ((by rw [hg]; exact (below_size (by repeat (first | (with_reducible first | exact HB.out | apply below_alloc | apply pw_below_drewN | apply below_drew1 | refine below_set ?_ GE172.out) | exact HB.out))) : w.heap.size ≤ gb177)); have n7_ := Aside0.mk ((by rw [hg]; exact Nat.ne_of_lt (blk_lt (g := gb172) (o := .cells #[.slice Ao96 t169.length co96] 26 (0, 0)) (by (with_reducible repeat (first | refine blk_drewN ?_ _ | refine blk_drew ?_ | refine blk_alloc ?_ _)); exact BK172.out)) : gb172 ≠ gb177)); have n8_ := Aside0.mk ((by rw [hg]; exact Nat.ne_of_gt (blk_lt (g := gb172) (o := .cells #[.slice Ao96 t169.length co96] 26 (0, 0)) (by (with_reducible repeat (first | refine blk_drewN ?_ _ | refine blk_drew ?_ | refine blk_alloc ?_ _)); exact BK172.out)) : gb177 ≠ gb172)); clear HO171; clear HO175; clear BK172; clear HB; have HO171 := n0_; have HO175 := n1_; have BK172 := n2_; have HB := n3_; have BK177 := n4_; have GW177 := n5_; have GE177 := n6_; have NB172_177 := n7_; have NB177_172 := n8_; clear n0_ n1_ n2_ n3_ n4_ n5_ n6_ n7_ n8_; clear hb hbox hg; obtain ⟨Ao100, co100, eo100⟩ := Kd.R_slice HO175.out; subst eo100; have hnb101 := NB177_172.out; have hnc101 := NB172_177.out; have hcz102_0 : w99.cell? ⟨gb177, 0, none⟩ = some (.slice none 0 0) := (blk_cell BK177.out 0).trans rfl; have hfz102_0 := blk_frozen BK177.out 0))
      go_ret
      exact ⟨by first | rfl | (simp [errW_none, errW_some] <;> rfl) | (simp [*, errW_none, errW_some] <;> rfl), by repeat (first | (with_reducible first | exact HB.out | apply below_alloc | apply pw_below_drewN | apply below_drew1 | refine below_set ?_ GE172.out | refine below_set ?_ GE177.out) | exact HB.out)⟩
     ·rw [if_neg c92] at H
      have c92b0 : (t176 == 13) = false := beq_eq_false_iff_ne.mpr c92
      have c92b1 : (t176 != 13) = true := bne_iff_ne.mpr c92
      obtain rfl := Option.some.inj H
      go_enter Try.func3, Try.ntmps3
      go_wp2_with (first | ((with_reducible refine gate_callee (f := 8) rfl ?_); refine goesL_ (some 19) rfl rfl Try.func8 (by kernel_rfl) rfl #[] rfl (by (try simp only [List.map_toArray, List.map_cons, List.map_nil]); first | done | rfl | (simp only [List.length_drop, List.length_take]; rfl)) ?_; (with_reducible refine (heronrylaw15_awake.calls k  true _ A5.out).mono ?_); rintro e w103 ⟨rfl, hb⟩; refine ⟨_, rfl, ?_⟩; have n0_ := Aside0.mk (below_step (by repeat (first | (with_reducible first | exact HB.out | apply below_alloc | apply pw_below_drewN | apply below_drew1) | exact HB.out)) hb); clear HB; have HB := n0_; clear n0_; (try clear hb); (try clear hb2); (try clear hk); (try clear hi)) | ((with_reducible refine gate_callee (f := 9) rfl ?_); refine goesL_ (some 25) rfl rfl Try.func9 (by kernel_rfl) rfl #[.slice A0 l0.length c0] rfl (by (try simp only [List.map_toArray, List.map_cons, List.map_nil]); first | done | rfl | (simp only [List.length_drop, List.length_take]; rfl)) ?_; (with_reducible refine (heronrylaw15_grown.calls k _ _ l0 t169 _ ?side1 ?side2 A8.out).mono ?_); (case side1 => repeat (first | exact (Kd.C_below HR0.out HB.out) | (with_reducible refine Kd.C_alloc ?_ _) | (with_reducible refine Kd.C_drewN ?_ _) | (with_reducible refine Kd.C_drew ?_))); (case side2 => exact HC0.out); rintro e w104 ⟨v170, rfl, ho0, hb⟩; refine ⟨_, rfl, ?_⟩; have n0_ := Aside0.mk (Kd.R_lower ho0 (below_size (by repeat (first | (with_reducible first | exact HB.out | apply below_alloc | apply pw_below_drewN | apply below_drew1) | exact HB.out)))); have n1_ := Aside0.mk (below_step (by repeat (first | (with_reducible first | exact HB.out | apply below_alloc | apply pw_below_drewN | apply below_drew1) | exact HB.out)) hb); clear HB; have HO171 := n0_; have HB := n1_; clear n0_ n1_; (try clear hb); (try clear hb2); (try clear hk); (try clear hi); (try clear ho0)) | ((with_reducible refine gate_dst (N := 10) rfl ?_); (try (refine gate_guard (by rfl) ?_; dsimp only)); refine box_event ?hg (N := 10) ?hd (cs := #[.slice none 0 0]) (t := 26) ?hr ?_; (case hd => rfl); (case hg => rfl); (case hr => first | (go_simp; done) | (go_simp; rfl)); intro gb172 hg w105 hbox hb; have n0_ := Aside0.mk (Kd.R_below (by (with_reducible repeat (first | apply Kd.R_alloc | apply Kd.R_drewN | apply Kd.R_drew)); exact HO171.out) hb); have n1_ := Aside0.mk (below_step (by repeat (first | (with_reducible first | exact HB.out | apply below_alloc | apply pw_below_drewN | apply below_drew1) | exact HB.out)) hb); have n2_ := Aside0.mk (hbox); have n3_ := Aside0.mk ((by rw [hg]; exact (below_size (by repeat (first | (with_reducible first | exact HB.out | apply below_alloc | apply pw_below_drewN | apply below_drew1) | exact HB.out))) : w.heap.size ≤ gb172)); have n4_ := Aside0.mk ((by rw [hg]; exact (below_size (by repeat (first | (with_reducible first | exact HB.out | apply below_alloc | apply pw_below_drewN | apply below_drew1) | exact HB.out))) : w.heap.size ≤ gb172)); clear HO171; clear HB; have HO171 := n0_; have HB := n1_; have BK172 := n2_; have GW172 := n3_; have GE172 := n4_; clear n0_ n1_ n2_ n3_ n4_; clear hb hbox hg; obtain ⟨Ao106, co106, eo106⟩ := Kd.R_slice HO171.out; subst eo106; have hcz107_0 : w105.cell? ⟨gb172, 0, none⟩ = some (.slice none 0 0) := (blk_cell BK172.out 0).trans rfl; have hfz107_0 := blk_frozen BK172.out 0) | ((with_reducible refine gate_callee (f := 10) rfl ?_); refine goesL_ (some 34) rfl rfl Try.func10 (by kernel_rfl) rfl #[.agg #[.slice Ao106 t169.length co106], .int .i64 (Go.bits .and .i64 a1 7), .int .i64 (Go.bits .and .i64 a2 3), .int .i64 a3] rfl (by (try simp only [List.map_toArray, List.map_cons, List.map_nil]); first | done | rfl | (simp only [List.length_drop, List.length_take]; rfl)) ?_; (with_reducible refine (oplist_Do.calls k _ _ t169 (Go.bits .and .i64 a1 7) (Go.bits .and .i64 a2 3) a3 t173 t176 _ ?side1 ?side2 A9.out).mono ?_); (case side1 => refine (Kd.R_reads' (e := 33) (base := w.heap.size) (ok := fun k_ => True) (n := t169.length) (c := co106) ?_).2.2; exact (by (with_reducible repeat (first | apply Kd.R_alloc | apply Kd.R_drewN | apply Kd.R_drew)); exact (Kd.R_mono (Kd.R_far (p := ⟨gb172, 0, none⟩) (Kd.R_types HO171.out BK172.out (by decide)) (fun _ hk => hk.2) (.slice Ao106 t169.length co106)) (fun _ h_ => h_.1)))); (case side2 => exact (Kd.R_reads' HO171.out).2.1); rintro e w108 ⟨v174, rfl, ho0, hb⟩; refine ⟨_, rfl, ?_⟩; have n0_ := Aside0.mk (Kd.R_elder' (by (with_reducible repeat (first | apply Kd.R_alloc | apply Kd.R_drewN | apply Kd.R_drew)); exact (Kd.R_mono (Kd.R_far (p := ⟨gb172, 0, none⟩) (Kd.R_types HO171.out BK172.out (by decide)) (fun _ hk => hk.2) (.slice Ao106 t169.length co106)) (fun _ h_ => h_.1))) (Kd.R_base ho0) hb); have n1_ := Aside0.mk (Kd.R_lower (Kd.R_new' ho0 (Kd.R_lt (by (with_reducible repeat (first | apply Kd.R_alloc | apply Kd.R_drewN | apply Kd.R_drew)); exact (Kd.R_mono (Kd.R_far (p := ⟨gb172, 0, none⟩) (Kd.R_types HO171.out BK172.out (by decide)) (fun _ hk => hk.2) (.slice Ao106 t169.length co106)) (fun _ h_ => h_.1))))) (below_size (by repeat (first | (with_reducible first | exact HB.out | apply below_alloc | apply pw_below_drewN | apply below_drew1 | refine below_set ?_ GE172.out) | exact HB.out)))); have n2_ := Aside0.mk (blk_below (g := gb172) (o := .cells #[.slice Ao106 t169.length co106] 26 (0, 0)) (by (with_reducible repeat (first | refine blk_drewN ?_ _ | refine blk_drew ?_ | refine blk_alloc ?_ _)); refine blk_put (cs := #[.slice none 0 0]) ?_ 0 _ rfl; (with_reducible repeat (first | refine blk_drewN ?_ _ | refine blk_drew ?_ | refine blk_alloc ?_ _)); exact BK172.out) hb); have n3_ := Aside0.mk (below_step (by repeat (first | (with_reducible first | exact HB.out | apply below_alloc | apply pw_below_drewN | apply below_drew1 | refine below_set ?_ GE172.out) | exact HB.out)) hb); clear HO171; clear BK172; clear HB; have HO171 := n0_; have HO175 := n1_; have BK172 := n2_; have HB := n3_; clear n0_ n1_ n2_ n3_; (try clear hb); (try clear hb2); (try clear hk); (try clear hi); (try clear ho0)) | ((with_reducible refine gate_dst (N := 12) rfl ?_); (try (refine gate_guard (by rfl) ?_; dsimp only)); refine box_event ?hg (N := 12) ?hd (cs := #[.slice none 0 0]) (t := 26) ?hr ?_; (case hd => rfl); (case hg => rfl); (case hr => first | (go_simp; done) | (go_simp; rfl)); intro gb177 hg w109 hbox hb; have n0_ := Aside0.mk (Kd.R_below (by (with_reducible repeat (first | apply Kd.R_alloc | apply Kd.R_drewN | apply Kd.R_drew)); exact HO171.out) hb); have n1_ := Aside0.mk (Kd.R_below (by (with_reducible repeat (first | apply Kd.R_alloc | apply Kd.R_drewN | apply Kd.R_drew)); exact HO175.out) hb); have n2_ := Aside0.mk (blk_below (g := gb172) (o := .cells #[.slice Ao106 t169.length co106] 26 (0, 0)) (by (with_reducible repeat (first | refine blk_drewN ?_ _ | refine blk_drew ?_ | refine blk_alloc ?_ _)); exact BK172.out) hb); have n3_ := Aside0.mk (below_step (by repeat (first | (with_reducible first | exact HB.out | apply below_alloc | apply pw_below_drewN | apply below_drew1 | refine below_set ?_ GE172.out) | exact HB.out)) hb); have n4_ := Aside0.mk (hbox); have n5_ := Aside0.mk ((by rw [hg]; exact (below_size (by repeat (first | (with_reducible first | exact HB.out | apply below_alloc | apply pw_below_drewN | apply below_drew1 | refine below_set ?_ GE172.out) | exact HB.out))) : w.heap.size ≤ gb177)); have n6_ := Aside0.mk ((by rw [hg]; exact (below_size (by repeat (first | (with_reducible first | exact HB.out | apply below_alloc | apply pw_below_drewN | apply below_drew1 | refine below_set ?_ GE172.out) | exact HB.out))) : w.heap.size ≤ gb177)); have n7_ := Aside0.mk ((by rw [hg]; exact Nat.ne_of_lt (blk_lt (g := gb172) (o := .cells #[.slice Ao106 t169.length co106] 26 (0, 0)) (by (with_reducible repeat (first | refine blk_drewN ?_ _ | refine blk_drew ?_ | refine blk_alloc ?_ _)); exact BK172.out)) : gb172 ≠ gb177)); have n8_ := Aside0.mk ((by rw [hg]; exact Nat.ne_of_gt (blk_lt (g := gb172) (o := .cells #[.slice Ao106 t169.length co106] 26 (0, 0)) (by (with_reducible repeat (first | refine blk_drewN ?_ _ | refine blk_drew ?_ | refine blk_alloc ?_ _)); exact BK172.out)) : gb177 ≠ gb172)); clear HO171; clear HO175; clear BK172; clear HB; have HO171 := n0_; have HO175 := n1_; have BK172 := n2_; have HB := n3_; have BK177 := n4_; have GW177 := n5_; have GE177 := n6_; have NB172_177 := n7_; have NB177_172 := n8_; clear n0_ n1_ n2_ n3_ n4_ n5_ n6_ n7_ n8_; clear hb hbox hg; obtain ⟨Ao110, co110, eo110⟩ := Kd.R_slice HO175.out; subst eo110; have hnb111 := NB177_172.out; have hnc111 := NB172_177.out; have hcz112_0 : w109.cell? ⟨gb177, 0, none⟩ = some (.slice none 0 0) := (blk_cell BK177.out 0).trans rfl; have hfz112_0 := blk_frozen BK177.out 0))
      go_ret
      exact ⟨by first | rfl | (simp [errW_none, errW_some] <;> rfl) | (simp [*, errW_none, errW_some] <;> rfl), by repeat (first | (with_reducible first | exact HB.out | apply below_alloc | apply pw_below_drewN | apply below_drew1 | refine below_set ?_ GE172.out | refine below_set ?_ GE177.out) | exact HB.out)⟩
    ·rw [if_neg c91] at H
     exact absurd H (by simp)
   ·replace c90 := Bool.eq_false_iff.mpr c90
    subst c90
    have H1 : (none) = some r := by rw [if_neg (show ¬ (false = true) by decide)] at H; exact H
    clear H
    have H := H1
    clear H1
    exact absurd H (by simp)

end Go.Proofs.Ytjpoepiidmoegaa.Q
