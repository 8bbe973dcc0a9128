/- What a transaction has pending, and a counter's pends. No condition beyond the row's length. -/
import Derived.Test.YtdnkbmjlcdddcaaDGf
import Derived.Test.YtdnkbmjlcdddcaaDGp
import Derived.Test.YtdnkbmjlcdddcaaCLp
namespace Go.Proofs.Ytdnkbmjlcdddcaa.Q
open Go.RowKit Go.Proofs.YtdnkbmjlcdddcaaW Go.Proofs.YtdnkbmjlcdddcaaW.PrintWords Go.Proofs.YtdnkbmjlcdddcaaW.PrintLast Go.Proofs.YtdnkbmjlcdddcaaW.PrintMore
set_option linter.unusedVariables false
set_option linter.unusedSimpArgs false

/-- A box of one number. -/
def BoxI (B : Nat) (c : Int) (W : World) : Prop := W.heap[B]? = some (.cells #[.int .i64 c] 3 (0, 0))
theorem BoxI.below {B : Nat} {c : Int} {W W' : World} (h : BoxI B c W) (hb : Below W.heap.size W W') : BoxI B c W' := (hb.block B (blk_lt h)).trans h
theorem pred43 (B : Nat) (c : Int) : PredK 43 B (fun x => x.f1 != c) (BoxI B c) := by
  refine ⟨fun W x hk => ?_, fun _ _ h hb => h.below hb⟩
  have hlt : B < W.heap.size := blk_lt hk
  have hc1 : W.cell? ⟨B, 0, none⟩ = some (.int .i64 c) := blk_cell hk 0
  have hne : B ≠ W.heap.size := by omega
  clear hk
  obtain ⟨x0, x1, x2, x3⟩ := x
  go_enter Try.func43, Try.ntmps43
  go_wp2
  go_ret
  exact ⟨rfl, (Below.refl _ _).alloc (Nat.le_refl _) _⟩
theorem pred65 (B : Nat) (c : Int) : PredK 65 B (fun x => x.f0 != c) (BoxI B c) := by
  refine ⟨fun W x hk => ?_, fun _ _ h hb => h.below hb⟩
  have hlt : B < W.heap.size := blk_lt hk
  have hc1 : W.cell? ⟨B, 0, none⟩ = some (.int .i64 c) := blk_cell hk 0
  have hne : B ≠ W.heap.size := by omega
  clear hk
  obtain ⟨x0, x1, x2, x3⟩ := x
  go_enter Try.func65, Try.ntmps65
  go_wp2
  go_ret
  exact ⟨rfl, (Below.refl _ _).alloc (Nat.le_refl _) _⟩
theorem BoxI.grown {B : Nat} {c : Int} {w : World} (h : BoxI B c w) {v : Value} {l : List S83} {base : Nat} {ok : Nat → Prop} (HO : k83.R 83 w base ok v l) : ∀ g W W', v.ownBlock = some g → BoxI B c W → W.grownBy W' (some g) → BoxI B c W' := by
  intro g W W' hg hk hgr
  have hne : B ≠ g := by
    rintro rfl
    obtain ⟨cells, hc⟩ := Kd.R_typed HO B hg
    unfold BoxI at h
    rw [h] at hc
    injection hc with hc
    injection hc with _ hc
    exact absurd hc (by decide)
  exact (hgr.block B (blk_lt hk) (fun e => by injection e with e; exact hne e)).trans hk

def escrow_Of.f (l0_0 : List S28) (l0_1 : List S83) (a1 : Int) : Option (List S83) := if l0_1.length < 4398046511104 then some (l0_1.filter (fun x => x.f1 == a1)) else none
def escrow_Table_pends.f (l0_0 : List S28) (l0_1 : List S83) (a1 : Int) : Option (List S83) := if l0_1.length < 4398046511104 then some (l0_1.filter (fun x => x.f0 == a1)) else none
set_option maxRecDepth 100000 in
set_option maxHeartbeats 1600000 in
theorem escrow_Of.calls (A0_0 : Option Addr) (c0_0 : Nat) (l0_0 : List S28) (A0_1 : Option Addr) (c0_1 : Nat) (l0_1 : List S83) (a1 : Int) (r : List S83) (w : World) (hr0_0 : Kd.C k28 w A0_0 l0_0.length l0_0) (hc0_0 : l0_0.length ≤ c0_0) (hr0_1 : Kd.C k83 w A0_1 l0_1.length l0_1) (hc0_1 : l0_1.length ≤ c0_1) (h : escrow_Of.f l0_0 l0_1 a1 = some r) :
    Calls Try.prog 12 #[.agg #[.slice A0_0 l0_0.length c0_0, .slice A0_1 l0_1.length c0_1], .int .i64 a1] w fun e w' => ∃ v0_ : Value, e = .returned v0_ ∧ Kd.R k83 83 w' w.heap.size (fun _ => True) v0_ r ∧ Below w.heap.size w w' := by
  unfold escrow_Of.f at h
  by_cases hl : l0_1.length < 4398046511104
  case neg => rw [if_neg hl] at h; cases h
  rw [if_pos hl] at h
  obtain rfl := Option.some.inj h
  have hu32 := Try.underlying32
  have HCL := Aside0.mk (fun W (hb : Below w.heap.size w W) => clone_Pend.calls A0_1 c0_1 l0_1 l0_1 W (Kd.C_below hr0_1 hb) hc0_1 (by unfold clone_Pend.f; rw [if_pos hl]))
  clear hr0_0 hr0_1 hc0_0 hc0_1 h hl
  have HBR := Aside0.mk (Below.refl w.heap.size w)
  go_enter Try.func12, Try.ntmps12
  go_wp2_with (first
    | ((with_reducible refine gate_dst (N := 2) rfl ?_); refine box_event ?hg (N := 2) ?hd (cs := #[.slice A0_0 l0_0.length c0_0, .slice A0_1 l0_1.length c0_1]) (t := 32) ?hr ?_; (case hd => rfl); (case hg => rfl); (case hr => first | (go_simp; done) | (go_simp; rfl)); intro b2 hb2_ w2 hbox hb; have BK2 := Aside0.mk hbox; have HB2 := Aside0.mk (below_step HBR.out hb); have hcz0 : w2.cell? ⟨b2, 0, none⟩ = some (.slice A0_0 l0_0.length c0_0) := (blk_cell BK2.out 0).trans rfl; have hcz1 : w2.cell? ⟨b2, 1, none⟩ = some (.slice A0_1 l0_1.length c0_1) := (blk_cell BK2.out 1).trans rfl; clear hbox hb hb2_)
    | ((with_reducible refine gate_dst (N := 3) rfl ?_); refine box_event ?hg (N := 3) ?hd (cs := #[.int .i64 a1]) (t := 3) ?hr ?_; (case hd => rfl); (case hg => rfl); (case hr => first | (go_simp; done) | (go_simp; rfl)); intro b3 hb3_ w3 hbox hb; have BK3 := Aside0.mk hbox; have HB3 := Aside0.mk (below_step HB2.out hb); have hcy0 : w3.cell? ⟨b2, 0, none⟩ = some (.slice A0_0 l0_0.length c0_0) := (blk_cell (blk_below BK2.out hb) 0).trans rfl; have hcy1 : w3.cell? ⟨b2, 1, none⟩ = some (.slice A0_1 l0_1.length c0_1) := (blk_cell (blk_below BK2.out hb) 1).trans rfl; clear hbox hb hb3_ hcz0 hcz1)
    | (go_at_call 42; refine (HCL.out _ HB3.out).mono ?_; rintro e w4 ⟨v4, rfl, ho4, hb4⟩; have HO4 := Aside0.mk ho4; have HB4 := Aside0.mk (below_step HB3.out hb4); have BK4 := Aside0.mk (show BoxI b3 a1 w4 from blk_below BK3.out hb4); clear ho4 hb4)
    | (go_at_call 39; refine (df_43 b3 (fun x => x.f1 != a1) (BoxI b3 a1) (pred43 b3 a1) v4 (BoxI.grown BK4.out HO4.out) l0_1 w.heap.size (fun _ => True) w w4 (Kd.R_lower HO4.out HB3.out.size) HB4.out HB4.out.size BK4.out).mono ?_; rintro e w5 ⟨v5, rfl, ho5, hb5, _, _⟩; have HO5 := Aside0.mk ho5; have HB5 := Aside0.mk hb5; clear ho5 hb5))
  go_ret
  refine ⟨_, rfl, ?_, HB5.out⟩
  have := HO5.out
  have e : (l0_1.filter (fun x => !(x.f1 != a1))) = l0_1.filter (fun x => x.f1 == a1) := List.filter_congr (fun x _ => by simp [bne])
  rw [e] at this
  exact this
set_option maxRecDepth 100000 in
set_option maxHeartbeats 1600000 in
theorem escrow_Table_pends.calls (A0_0 : Option Addr) (c0_0 : Nat) (l0_0 : List S28) (A0_1 : Option Addr) (c0_1 : Nat) (l0_1 : List S83) (a1 : Int) (r : List S83) (w : World) (hr0_0 : Kd.C k28 w A0_0 l0_0.length l0_0) (hc0_0 : l0_0.length ≤ c0_0) (hr0_1 : Kd.C k83 w A0_1 l0_1.length l0_1) (hc0_1 : l0_1.length ≤ c0_1) (h : escrow_Table_pends.f l0_0 l0_1 a1 = some r) :
    Calls Try.prog 47 #[.agg #[.slice A0_0 l0_0.length c0_0, .slice A0_1 l0_1.length c0_1], .int .i64 a1] w fun e w' => ∃ v0_ : Value, e = .returned v0_ ∧ Kd.R k83 83 w' w.heap.size (fun _ => True) v0_ r ∧ Below w.heap.size w w' := by
  unfold escrow_Table_pends.f at h
  by_cases hl : l0_1.length < 4398046511104
  case neg => rw [if_neg hl] at h; cases h
  rw [if_pos hl] at h
  obtain rfl := Option.some.inj h
  have hu32 := Try.underlying32
  have HCL := Aside0.mk (fun W (hb : Below w.heap.size w W) => clone_Pend.calls A0_1 c0_1 l0_1 l0_1 W (Kd.C_below hr0_1 hb) hc0_1 (by unfold clone_Pend.f; rw [if_pos hl]))
  clear hr0_0 hr0_1 hc0_0 hc0_1 h hl
  have HBR := Aside0.mk (Below.refl w.heap.size w)
  go_enter Try.func47, Try.ntmps47
  go_wp2_with (first
    | ((with_reducible refine gate_dst (N := 2) rfl ?_); refine box_event ?hg (N := 2) ?hd (cs := #[.slice A0_0 l0_0.length c0_0, .slice A0_1 l0_1.length c0_1]) (t := 32) ?hr ?_; (case hd => rfl); (case hg => rfl); (case hr => first | (go_simp; done) | (go_simp; rfl)); intro b2 hb2_ w2 hbox hb; have BK2 := Aside0.mk hbox; have HB2 := Aside0.mk (below_step HBR.out hb); have hcz0 : w2.cell? ⟨b2, 0, none⟩ = some (.slice A0_0 l0_0.length c0_0) := (blk_cell BK2.out 0).trans rfl; have hcz1 : w2.cell? ⟨b2, 1, none⟩ = some (.slice A0_1 l0_1.length c0_1) := (blk_cell BK2.out 1).trans rfl; clear hbox hb hb2_)
    | ((with_reducible refine gate_dst (N := 3) rfl ?_); refine box_event ?hg (N := 3) ?hd (cs := #[.int .i64 a1]) (t := 3) ?hr ?_; (case hd => rfl); (case hg => rfl); (case hr => first | (go_simp; done) | (go_simp; rfl)); intro b3 hb3_ w3 hbox hb; have BK3 := Aside0.mk hbox; have HB3 := Aside0.mk (below_step HB2.out hb); have hcy0 : w3.cell? ⟨b2, 0, none⟩ = some (.slice A0_0 l0_0.length c0_0) := (blk_cell (blk_below BK2.out hb) 0).trans rfl; have hcy1 : w3.cell? ⟨b2, 1, none⟩ = some (.slice A0_1 l0_1.length c0_1) := (blk_cell (blk_below BK2.out hb) 1).trans rfl; clear hbox hb hb3_ hcz0 hcz1)
    | (go_at_call 42; refine (HCL.out _ HB3.out).mono ?_; rintro e w4 ⟨v4, rfl, ho4, hb4⟩; have HO4 := Aside0.mk ho4; have HB4 := Aside0.mk (below_step HB3.out hb4); have BK4 := Aside0.mk (show BoxI b3 a1 w4 from blk_below BK3.out hb4); clear ho4 hb4)
    | (go_at_call 39; refine (df_65 b3 (fun x => x.f0 != a1) (BoxI b3 a1) (pred65 b3 a1) v4 (BoxI.grown BK4.out HO4.out) l0_1 w.heap.size (fun _ => True) w w4 (Kd.R_lower HO4.out HB3.out.size) HB4.out HB4.out.size BK4.out).mono ?_; rintro e w5 ⟨v5, rfl, ho5, hb5, _, _⟩; have HO5 := Aside0.mk ho5; have HB5 := Aside0.mk hb5; clear ho5 hb5))
  go_ret
  refine ⟨_, rfl, ?_, HB5.out⟩
  have := HO5.out
  have e : (l0_1.filter (fun x => !(x.f0 != a1))) = l0_1.filter (fun x => x.f0 == a1) := List.filter_congr (fun x _ => by simp [bne])
  rw [e] at this
  exact this
end Go.Proofs.Ytdnkbmjlcdddcaa.Q
