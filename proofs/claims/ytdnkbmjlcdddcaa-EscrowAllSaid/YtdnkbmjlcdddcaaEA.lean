/- Add. No condition beyond the rows' lengths and order. -/
import Derived.Test.YtdnkbmjlcdddcaaET
import Derived.Test.YtdnkbmjlcdddcaaEW
import Derived.Test.YtdnkbmjlcdddcaaQ4
import Derived.Test.YtdnkbmjlcdddcaaQ20
namespace Go.Proofs.Ytdnkbmjlcdddcaa.Q
open Go.RowKit Go.Proofs.YtdnkbmjlcdddcaaW Go.Proofs.YtdnkbmjlcdddcaaW.PrintWords Go.Proofs.YtdnkbmjlcdddcaaW.PrintLast Go.Proofs.YtdnkbmjlcdddcaaW.PrintMore
set_option linter.unusedVariables false
set_option linter.unusedSimpArgs false

def escrow_Add.f (k : Nat) (l0_0 : List S28) (l0_1 : List S83) (l1_0 : List S74) (a1_1 : Int) (a2 : Int) (a3 : Int) (a4 : Int) : Option (List S28 × List S83 × Int) :=
  (escrow_Table_may.f k l0_0 l0_1 l1_0 a1_1 a2 a3).bind fun e => if e = 0 then ((escrow_Table_fits.f k l0_0 l0_1 a3 a4).bind fun b => if b = true then (if l0_0.length < 4000000000000 ∧ l0_1.length < 4000000000000 ∧ Srt l0_1 then some (l0_0, takeP l0_1 ⟨a3, a2, max a4 0, min a4 0⟩, 0) else none) else some ([], [], 8)) else some ([], [], e)
theorem escrow_Add.mono (l0_0 : List S28) (l0_1 : List S83) (l1_0 : List S74) (a1_1 : Int) (a2 : Int) (a3 : Int) (a4 : Int) (k : Nat) : LeO (escrow_Add.f k l0_0 l0_1 l1_0 a1_1 a2 a3 a4) (escrow_Add.f (k + 1) l0_0 l0_1 l1_0 a1_1 a2 a3 a4) := by
  unfold escrow_Add.f
  refine LeO.bind (escrow_Table_may.mono _ _ _ _ _ _ k) (fun e => ?_)
  refine LeO.ite ?_ (LeO.refl _)
  exact LeO.bind (escrow_Table_fits.mono _ _ _ _ k) (fun _ => LeO.refl _)
set_option maxRecDepth 100000 in
set_option maxHeartbeats 4000000 in
theorem escrow_Add.calls (k : Nat) (A0_0 : Option Addr) (c0_0 : Nat) (l0_0 : List S28) (A0_1 : Option Addr) (c0_1 : Nat) (l0_1 : List S83) (A1_0 : Option Addr) (c1_0 : Nat) (l1_0 : List S74) (a1_1 : Int) (a2 : Int) (a3 : Int) (a4 : Int) (r1 : List S28) (r2 : List S83) (r3 : Int) (w : World) (hr0_0 : Kd.C k28 w A0_0 l0_0.length l0_0) (hc0_0 : l0_0.length ≤ c0_0) (hr0_1 : Kd.C k83 w A0_1 l0_1.length l0_1) (hc0_1 : l0_1.length ≤ c0_1) (hr1_0 : Kd.C k74 w A1_0 l1_0.length l1_0) (hc1_0 : l1_0.length ≤ c1_0) (h : escrow_Add.f k l0_0 l0_1 l1_0 a1_1 a2 a3 a4 = some (r1, r2, r3)) :
    Calls Try.prog 8 #[.agg #[.slice A0_0 l0_0.length c0_0, .slice A0_1 l0_1.length c0_1], .agg #[.slice A1_0 l1_0.length c1_0, .int .i64 a1_1], .int .i64 a2, .int .i64 a3, .int .i64 a4] w fun e w' => ∃ v0_ v1_ : Value, e = .returned (.tuple #[.agg #[v0_, v1_], .int .i64 r3]) ∧ Kd.R k28 28 w' w.heap.size (fun _ => True) v0_ r1 ∧ Kd.R k83 83 w' w.heap.size (fun _ => True) v1_ r2 ∧ Below w.heap.size w w' := by
  unfold escrow_Add.f at h
  obtain ⟨e, he, h⟩ := Option.bind_eq_some_iff.1 h
  have hu32 := Try.underlying32
  have hu26 := Try.underlying26
  have hu83 := Try.underlying83
  have HMAY := Aside0.mk (fun W (hb : Below w.heap.size w W) => escrow_Table_may.calls k A0_0 c0_0 l0_0 A0_1 c0_1 l0_1 A1_0 c1_0 l1_0 a1_1 a2 a3 e W (Kd.C_below hr0_0 hb) hc0_0 (Kd.C_below hr0_1 hb) hc0_1 (Kd.C_below hr1_0 hb) hc1_0 he)
  have HBR := Aside0.mk (Below.refl w.heap.size w)
  by_cases he0 : e = 0
  · subst he0
    rw [if_pos rfl] at h
    obtain ⟨b, hb, h⟩ := Option.bind_eq_some_iff.1 h
    have HFIT := Aside0.mk (fun W (hb' : Below w.heap.size w W) => escrow_Table_fits.calls k A0_0 c0_0 l0_0 A0_1 c0_1 l0_1 a3 a4 b W (Kd.C_below hr0_0 hb') hc0_0 (Kd.C_below hr0_1 hb') hc0_1 hb)
    cases b with
    | true =>
      rw [if_pos rfl] at h
      by_cases hq : l0_0.length < 4000000000000 ∧ l0_1.length < 4000000000000 ∧ Srt l0_1
      case neg => rw [if_neg hq] at h; cases h
      rw [if_pos hq] at h
      simp only [Option.some.injEq, Prod.mk.injEq] at h
      obtain ⟨rfl, rfl, rfl⟩ := h
      have HOW := Aside0.mk (fun W (hb' : Below w.heap.size w W) => own_any A0_0 c0_0 l0_0 A0_1 c0_1 l0_1 W (Kd.C_below hr0_0 hb') hc0_0 (Kd.C_below hr0_1 hb') hc0_1 (by omega) (by omega))
      have HS := Aside0.mk hq
      clear hr0_0 hr0_1 hr1_0 hc0_0 hc0_1 hc1_0 he hb hq
      go_enter Try.func8, Try.ntmps8
      go_wp2_with (first
    | ((with_reducible refine gate_dst (N := 5) rfl ?_); refine box_event ?hg (N := 5) ?hd (cs := #[.slice A0_0 l0_0.length c0_0, .slice A0_1 l0_1.length c0_1]) (t := 32) ?hr ?_; (case hd => rfl); (case hg => rfl); (case hr => first | (go_simp; done) | (go_simp; rfl)); intro b5 hb5_ w5 hbox hb; have BK5 := Aside0.mk hbox; have HB5 := Aside0.mk (below_step HBR.out hb); clear hbox hb hb5_)
    | ((with_reducible refine gate_dst (N := 6) rfl ?_); refine box_event ?hg (N := 6) ?hd (cs := #[.slice A1_0 l1_0.length c1_0, .int .i64 a1_1]) (t := 26) ?hr ?_; (case hd => rfl); (case hg => rfl); (case hr => first | (go_simp; done) | (go_simp; rfl)); intro b6 hb6_ w6 hbox hb; have BK56 := Aside0.mk (blk_below BK5.out hb); have BK6 := Aside0.mk hbox; have HB6 := Aside0.mk (below_step HB5.out hb); clear hbox hb hb6_)
    | ((with_reducible refine gate_dst (N := 10) rfl ?_); refine box_event ?hg (N := 10) ?hd (cs := #[.slice none 0 0, .slice none 0 0]) (t := 32) ?hr ?_; (case hd => rfl); (case hg => rfl); (case hr => first | (go_simp; done) | (go_simp; rfl)); intro b10 hb10_ w10 hbox hb; have BKA := Aside0.mk (blk_below BK56.out hb); have BKB := Aside0.mk (blk_below BK6.out hb); have BKC := Aside0.mk hbox; have HB10 := Aside0.mk (below_step HB6.out hb); have HG10 := Aside0.mk (show w.heap.size ≤ b10 by rw [hb10_]; exact HB6.out.size); have hta0 : w10.cell? ⟨b5, 0, none⟩ = some (.slice A0_0 l0_0.length c0_0) := (blk_cell BKA.out 0).trans rfl; have hta1 : w10.cell? ⟨b5, 1, none⟩ = some (.slice A0_1 l0_1.length c0_1) := (blk_cell BKA.out 1).trans rfl; have hxa0 : w10.cell? ⟨b6, 0, none⟩ = some (.slice A1_0 l1_0.length c1_0) := (blk_cell BKB.out 0).trans rfl; have hxa1 : w10.cell? ⟨b6, 1, none⟩ = some (.int .i64 a1_1) := (blk_cell BKB.out 1).trans rfl; clear hbox hb hb10_)
    | (go_at_call 31; refine (HMAY.out _ HB10.out).mono ?_; rintro e wm ⟨rfl, hb⟩; have BKA1 := Aside0.mk (blk_below BKA.out hb); have BKB1 := Aside0.mk (blk_below BKB.out hb); have BKC1 := Aside0.mk (blk_below BKC.out hb); have HBM := Aside0.mk (below_step HB10.out hb); clear hta0 hxa0 hta1 hxa1; have hta0 : wm.cell? ⟨b5, 0, none⟩ = some (.slice A0_0 l0_0.length c0_0) := (blk_cell BKA1.out 0).trans rfl; have hta1 : wm.cell? ⟨b5, 1, none⟩ = some (.slice A0_1 l0_1.length c0_1) := (blk_cell BKA1.out 1).trans rfl; have hza0 : wm.cell? ⟨b10, 0, none⟩ = some (.slice none 0 0) := (blk_cell BKC1.out 0).trans rfl; have hza1 : wm.cell? ⟨b10, 1, none⟩ = some (.slice none 0 0) := (blk_cell BKC1.out 1).trans rfl; have hfa0 := blk_frozen BKC1.out 0; have hfa1 := blk_frozen BKC1.out 1; clear hb)
    | (go_at_call 32; refine (HFIT.out _ HBM.out).mono ?_; rintro e wf ⟨rfl, hb⟩; have BKA2 := Aside0.mk (blk_below BKA1.out hb); have BKC2 := Aside0.mk (blk_below BKC1.out hb); have HBF := Aside0.mk (below_step HBM.out hb); clear hta0 hta1 hza0 hza1 hfa0 hfa1; have hta0 : wf.cell? ⟨b5, 0, none⟩ = some (.slice A0_0 l0_0.length c0_0) := (blk_cell BKA2.out 0).trans rfl; have hta1 : wf.cell? ⟨b5, 1, none⟩ = some (.slice A0_1 l0_1.length c0_1) := (blk_cell BKA2.out 1).trans rfl; have hza0 : wf.cell? ⟨b10, 0, none⟩ = some (.slice none 0 0) := (blk_cell BKC2.out 0).trans rfl; have hza1 : wf.cell? ⟨b10, 1, none⟩ = some (.slice none 0 0) := (blk_cell BKC2.out 1).trans rfl; have hfa0 := blk_frozen BKC2.out 0; have hfa1 := blk_frozen BKC2.out 1; clear hb)
    | (go_at_call 33; refine (HOW.out _ HBF.out).mono ?_; rintro e wo ⟨T, v0, v1, rfl, hT, hbox, ho0, ho1, hb⟩; have BKT := Aside0.mk hbox; have HO0 := Aside0.mk (Kd.R_lower ho0 HBF.out.size); have HO1 := Aside0.mk (Kd.R_lower ho1 HBF.out.size); have BKC3 := Aside0.mk (blk_below BKC2.out hb); have HBO := Aside0.mk (below_step HBF.out hb); have HTG := Aside0.mk (show w.heap.size ≤ T from Nat.le_trans HBF.out.size hT); have HNT := Aside0.mk (show b10 ≠ T from fun e => by have := blk_lt BKC2.out; omega); obtain ⟨Xc, dc, rfl⟩ := Kd.R_slice HO0.out; obtain ⟨Xp, dp, rfl⟩ := Kd.R_slice HO1.out; clear hbox ho0 ho1 hb hT hta0 hta1 hza0 hza1 hfa0 hfa1)
    | (go_at_call 34; refine (take_any T (.slice Xc l0_0.length dc) Xp dp l0_1 a3 a2 (max a4 0) (min a4 0) w.heap.size (fun _ => True) w wo BKT.out HTG.out HO1.out HBO.out HBO.out.size (fun _ _ => trivial) HS.out.2.2 (by have := HS.out.2.1; omega)).mono ?_; rintro e wt ⟨rfl, v', hbox, ho, hb, hk⟩; have BKT2 := Aside0.mk hbox; have HO2 := Aside0.mk ho; have HBT := Aside0.mk hb; have BKC4 := Aside0.mk (blk_kept BKC3.out hk (fun h => h.elim (fun h => HNT.out h) (fun h => row_ne32' HO1.out h BKC3.out))); have HO02 := Aside0.mk (Kd.R_mono (Kd.R_kept (Kd.R_types (Kd.R_apartR HO0.out HO1.out (by decide)) BKT.out (by decide)) hk (fun k hk1 h => h.elim (fun h => hk1.2 h) (fun h => hk1.1.2 h.symm))) (fun _ _ => trivial)); obtain ⟨Xn, dn, rfl⟩ := Kd.R_slice HO2.out; clear hbox ho hb hk; have hte0 : wt.cell? ⟨T, 0, none⟩ = some (.slice Xc l0_0.length dc) := (blk_cell BKT2.out 0).trans rfl; have hte1 : wt.cell? ⟨T, 1, none⟩ = some (.slice Xn (takeP l0_1 ⟨a3, a2, max a4 0, min a4 0⟩).length dn) := (blk_cell BKT2.out 1).trans rfl; have hza0 : wt.cell? ⟨b10, 0, none⟩ = some (.slice none 0 0) := (blk_cell BKC4.out 0).trans rfl; have hza1 : wt.cell? ⟨b10, 1, none⟩ = some (.slice none 0 0) := (blk_cell BKC4.out 1).trans rfl; have hfa0 := blk_frozen BKC4.out 0; have hfa1 := blk_frozen BKC4.out 1))
      have k1 := blk_set BKC4.out 0 (.slice Xc l0_0.length dc)
      have k2 := blk_set k1 1 (.slice Xn (takeP l0_1 ⟨a3, a2, max a4 0, min a4 0⟩).length dn)
      refine bodyPost_ret (results_ct rfl _ _ b10 32 #[.slice Xc l0_0.length dc, .slice Xn (takeP l0_1 ⟨a3, a2, max a4 0, min a4 0⟩).length dn] (0, 0) _ rfl k2 Try.underlying32 rfl (by kernel_rfl)) rfl ?_
      exact ⟨_, _, rfl, Kd.R_set (Kd.R_set HO02.out BKC4.out (by decide) 0 _) k1 (by decide) 1 _, Kd.R_set (Kd.R_set HO2.out BKC4.out (by decide) 0 _) k1 (by decide) 1 _, (HBT.out.setCell HG10.out _).setCell HG10.out _⟩
    | false =>
      rw [if_neg (by decide)] at h
      simp only [Option.some.injEq, Prod.mk.injEq] at h
      obtain ⟨rfl, rfl, rfl⟩ := h
      clear hr0_0 hr0_1 hr1_0 hc0_0 hc0_1 hc1_0 he hb
      go_enter Try.func8, Try.ntmps8
      go_wp2_with (first
    | ((with_reducible refine gate_dst (N := 5) rfl ?_); refine box_event ?hg (N := 5) ?hd (cs := #[.slice A0_0 l0_0.length c0_0, .slice A0_1 l0_1.length c0_1]) (t := 32) ?hr ?_; (case hd => rfl); (case hg => rfl); (case hr => first | (go_simp; done) | (go_simp; rfl)); intro b5 hb5_ w5 hbox hb; have BK5 := Aside0.mk hbox; have HB5 := Aside0.mk (below_step HBR.out hb); clear hbox hb hb5_)
    | ((with_reducible refine gate_dst (N := 6) rfl ?_); refine box_event ?hg (N := 6) ?hd (cs := #[.slice A1_0 l1_0.length c1_0, .int .i64 a1_1]) (t := 26) ?hr ?_; (case hd => rfl); (case hg => rfl); (case hr => first | (go_simp; done) | (go_simp; rfl)); intro b6 hb6_ w6 hbox hb; have BK56 := Aside0.mk (blk_below BK5.out hb); have BK6 := Aside0.mk hbox; have HB6 := Aside0.mk (below_step HB5.out hb); clear hbox hb hb6_)
    | ((with_reducible refine gate_dst (N := 10) rfl ?_); refine box_event ?hg (N := 10) ?hd (cs := #[.slice none 0 0, .slice none 0 0]) (t := 32) ?hr ?_; (case hd => rfl); (case hg => rfl); (case hr => first | (go_simp; done) | (go_simp; rfl)); intro b10 hb10_ w10 hbox hb; have BKA := Aside0.mk (blk_below BK56.out hb); have BKB := Aside0.mk (blk_below BK6.out hb); have BKC := Aside0.mk hbox; have HB10 := Aside0.mk (below_step HB6.out hb); have HG10 := Aside0.mk (show w.heap.size ≤ b10 by rw [hb10_]; exact HB6.out.size); have hta0 : w10.cell? ⟨b5, 0, none⟩ = some (.slice A0_0 l0_0.length c0_0) := (blk_cell BKA.out 0).trans rfl; have hta1 : w10.cell? ⟨b5, 1, none⟩ = some (.slice A0_1 l0_1.length c0_1) := (blk_cell BKA.out 1).trans rfl; have hxa0 : w10.cell? ⟨b6, 0, none⟩ = some (.slice A1_0 l1_0.length c1_0) := (blk_cell BKB.out 0).trans rfl; have hxa1 : w10.cell? ⟨b6, 1, none⟩ = some (.int .i64 a1_1) := (blk_cell BKB.out 1).trans rfl; clear hbox hb hb10_)
    | (go_at_call 31; refine (HMAY.out _ HB10.out).mono ?_; rintro e wm ⟨rfl, hb⟩; have BKA1 := Aside0.mk (blk_below BKA.out hb); have BKB1 := Aside0.mk (blk_below BKB.out hb); have BKC1 := Aside0.mk (blk_below BKC.out hb); have HBM := Aside0.mk (below_step HB10.out hb); clear hta0 hxa0 hta1 hxa1; have hta0 : wm.cell? ⟨b5, 0, none⟩ = some (.slice A0_0 l0_0.length c0_0) := (blk_cell BKA1.out 0).trans rfl; have hta1 : wm.cell? ⟨b5, 1, none⟩ = some (.slice A0_1 l0_1.length c0_1) := (blk_cell BKA1.out 1).trans rfl; have hza0 : wm.cell? ⟨b10, 0, none⟩ = some (.slice none 0 0) := (blk_cell BKC1.out 0).trans rfl; have hza1 : wm.cell? ⟨b10, 1, none⟩ = some (.slice none 0 0) := (blk_cell BKC1.out 1).trans rfl; have hfa0 := blk_frozen BKC1.out 0; have hfa1 := blk_frozen BKC1.out 1; clear hb)
    | (go_at_call 32; refine (HFIT.out _ HBM.out).mono ?_; rintro e wf ⟨rfl, hb⟩; have BKA2 := Aside0.mk (blk_below BKA1.out hb); have BKC2 := Aside0.mk (blk_below BKC1.out hb); have HBF := Aside0.mk (below_step HBM.out hb); clear hta0 hta1 hza0 hza1 hfa0 hfa1; have hta0 : wf.cell? ⟨b5, 0, none⟩ = some (.slice A0_0 l0_0.length c0_0) := (blk_cell BKA2.out 0).trans rfl; have hta1 : wf.cell? ⟨b5, 1, none⟩ = some (.slice A0_1 l0_1.length c0_1) := (blk_cell BKA2.out 1).trans rfl; have hza0 : wf.cell? ⟨b10, 0, none⟩ = some (.slice none 0 0) := (blk_cell BKC2.out 0).trans rfl; have hza1 : wf.cell? ⟨b10, 1, none⟩ = some (.slice none 0 0) := (blk_cell BKC2.out 1).trans rfl; have hfa0 := blk_frozen BKC2.out 0; have hfa1 := blk_frozen BKC2.out 1; clear hb))
      have k1 := blk_set BKC2.out 0 (.slice none 0 0)
      have k2 := blk_set k1 1 (.slice none 0 0)
      refine bodyPost_ret (results_ct rfl _ _ b10 32 #[.slice none 0 0, .slice none 0 0] (0, 0) _ rfl k2 Try.underlying32 rfl (by kernel_rfl)) rfl ?_
      exact ⟨_, _, rfl, Kd.R_nil _ _ _ _ _, Kd.R_nil _ _ _ _ _, (HBF.out.setCell HG10.out _).setCell HG10.out _⟩
  · rw [if_neg he0] at h
    simp only [Option.some.injEq, Prod.mk.injEq] at h
    obtain ⟨rfl, rfl, rfl⟩ := h
    have hd0 : (e == 0) = false := beq_eq_false_iff_ne.2 he0
    have hd1 : (e != 0) = true := bne_iff_ne.2 he0
    clear hr0_0 hr0_1 hr1_0 hc0_0 hc0_1 hc1_0 he he0
    go_enter Try.func8, Try.ntmps8
    go_wp2_with (first
    | ((with_reducible refine gate_dst (N := 5) rfl ?_); refine box_event ?hg (N := 5) ?hd (cs := #[.slice A0_0 l0_0.length c0_0, .slice A0_1 l0_1.length c0_1]) (t := 32) ?hr ?_; (case hd => rfl); (case hg => rfl); (case hr => first | (go_simp; done) | (go_simp; rfl)); intro b5 hb5_ w5 hbox hb; have BK5 := Aside0.mk hbox; have HB5 := Aside0.mk (below_step HBR.out hb); clear hbox hb hb5_)
    | ((with_reducible refine gate_dst (N := 6) rfl ?_); refine box_event ?hg (N := 6) ?hd (cs := #[.slice A1_0 l1_0.length c1_0, .int .i64 a1_1]) (t := 26) ?hr ?_; (case hd => rfl); (case hg => rfl); (case hr => first | (go_simp; done) | (go_simp; rfl)); intro b6 hb6_ w6 hbox hb; have BK56 := Aside0.mk (blk_below BK5.out hb); have BK6 := Aside0.mk hbox; have HB6 := Aside0.mk (below_step HB5.out hb); clear hbox hb hb6_)
    | ((with_reducible refine gate_dst (N := 10) rfl ?_); refine box_event ?hg (N := 10) ?hd (cs := #[.slice none 0 0, .slice none 0 0]) (t := 32) ?hr ?_; (case hd => rfl); (case hg => rfl); (case hr => first | (go_simp; done) | (go_simp; rfl)); intro b10 hb10_ w10 hbox hb; have BKA := Aside0.mk (blk_below BK56.out hb); have BKB := Aside0.mk (blk_below BK6.out hb); have BKC := Aside0.mk hbox; have HB10 := Aside0.mk (below_step HB6.out hb); have HG10 := Aside0.mk (show w.heap.size ≤ b10 by rw [hb10_]; exact HB6.out.size); have hta0 : w10.cell? ⟨b5, 0, none⟩ = some (.slice A0_0 l0_0.length c0_0) := (blk_cell BKA.out 0).trans rfl; have hta1 : w10.cell? ⟨b5, 1, none⟩ = some (.slice A0_1 l0_1.length c0_1) := (blk_cell BKA.out 1).trans rfl; have hxa0 : w10.cell? ⟨b6, 0, none⟩ = some (.slice A1_0 l1_0.length c1_0) := (blk_cell BKB.out 0).trans rfl; have hxa1 : w10.cell? ⟨b6, 1, none⟩ = some (.int .i64 a1_1) := (blk_cell BKB.out 1).trans rfl; clear hbox hb hb10_)
    | (go_at_call 31; refine (HMAY.out _ HB10.out).mono ?_; rintro e wm ⟨rfl, hb⟩; have BKA1 := Aside0.mk (blk_below BKA.out hb); have BKB1 := Aside0.mk (blk_below BKB.out hb); have BKC1 := Aside0.mk (blk_below BKC.out hb); have HBM := Aside0.mk (below_step HB10.out hb); clear hta0 hxa0 hta1 hxa1; have hta0 : wm.cell? ⟨b5, 0, none⟩ = some (.slice A0_0 l0_0.length c0_0) := (blk_cell BKA1.out 0).trans rfl; have hta1 : wm.cell? ⟨b5, 1, none⟩ = some (.slice A0_1 l0_1.length c0_1) := (blk_cell BKA1.out 1).trans rfl; have hza0 : wm.cell? ⟨b10, 0, none⟩ = some (.slice none 0 0) := (blk_cell BKC1.out 0).trans rfl; have hza1 : wm.cell? ⟨b10, 1, none⟩ = some (.slice none 0 0) := (blk_cell BKC1.out 1).trans rfl; have hfa0 := blk_frozen BKC1.out 0; have hfa1 := blk_frozen BKC1.out 1; clear hb))
    have k1 := blk_set BKC1.out 0 (.slice none 0 0)
    have k2 := blk_set k1 1 (.slice none 0 0)
    refine bodyPost_ret (results_ct rfl _ _ b10 32 #[.slice none 0 0, .slice none 0 0] (0, 0) _ rfl k2 Try.underlying32 rfl (by kernel_rfl)) rfl ?_
    exact ⟨_, _, rfl, Kd.R_nil _ _ _ _ _, Kd.R_nil _ _ _ _ _, (HBM.out.setCell HG10.out _).setCell HG10.out _⟩
end Go.Proofs.Ytdnkbmjlcdddcaa.Q
