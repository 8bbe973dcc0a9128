/- Free. No condition beyond the rows' lengths. -/
import Derived.Test.YtdnkbmjlcdddcaaDGe
import Derived.Test.YtdnkbmjlcdddcaaEW
import Derived.Test.YtdnkbmjlcdddcaaCI
namespace Go.Proofs.Ytdnkbmjlcdddcaa.Q
open Go.RowKit Go.Proofs.YtdnkbmjlcdddcaaW Go.Proofs.YtdnkbmjlcdddcaaW.PrintWords Go.Proofs.YtdnkbmjlcdddcaaW.PrintLast Go.Proofs.YtdnkbmjlcdddcaaW.PrintMore
set_option linter.unusedVariables false
set_option linter.unusedSimpArgs false

/-- A box of a row of numbers that came in with w0. -/
def BoxL (B : Nat) (A : Option Addr) (n c : Nat) (w0 W : World) : Prop := W.heap[B]? = some (.cells #[.slice A n c] 22 (0, 0)) ∧ w0.heap.size ≤ W.heap.size ∧ ∀ k, k < w0.heap.size → W.heap[k]? = w0.heap[k]?
theorem BoxL.below {B : Nat} {A : Option Addr} {n c : Nat} {w0 W W' : World} (h : BoxL B A n c w0 W) (hb : Below W.heap.size W W') : BoxL B A n c w0 W' :=
  ⟨(hb.block B (blk_lt h.1)).trans h.1, Nat.le_trans h.2.1 hb.size, fun k hk => (hb.block k (Nat.lt_of_lt_of_le hk h.2.1)).trans (h.2.2 k hk)⟩
theorem BoxL.grown {B : Nat} {A : Option Addr} {n c : Nat} {w0 w : World} (h : BoxL B A n c w0 w) {v : Value} {l : List S83} {ok : Nat → Prop} (HO : k83.R 83 w w0.heap.size ok v l) : ∀ g W W', v.ownBlock = some g → BoxL B A n c w0 W → W.grownBy W' (some g) → BoxL B A n c w0 W' := by
  intro g W W' hg hk hgr
  have hne : B ≠ g := by
    rintro rfl
    obtain ⟨cells, hc⟩ := Kd.R_typed HO B hg
    rw [h.1] at hc
    injection hc with hc
    injection hc with _ hc
    exact absurd hc (by decide)
  have hbg := Kd.R_base HO g hg
  exact ⟨(hgr.block B (blk_lt hk.1) (fun e => by injection e with e; exact hne e)).trans hk.1, Nat.le_trans hk.2.1 hgr.size, fun k hk' => (hgr.block k (Nat.lt_of_lt_of_le hk' hk.2.1) (fun e => by injection e with e; omega)).trans (hk.2.2 k hk')⟩
set_option maxRecDepth 100000 in
theorem pred40 (B : Nat) (A : Option Addr) (c : Nat) (l : List Int) (w0 : World) (hr : Kd.C (Kd.int .i64) w0 A l.length l) : PredK 40 B (fun x => decide (x.f1 ∈ l)) (BoxL B A l.length c w0) := by
  refine ⟨fun W x hk => ?_, fun _ _ h hb => h.below hb⟩
  have HC := Aside0.mk (Kd.Heap.C (Kd.heap_int .i64) hk.2.2 hr)
  have HBR := Aside0.mk (Below.refl W.heap.size W)
  have HK := Aside0.mk hk.1
  clear hk hr
  obtain ⟨x0, x1, x2, x3⟩ := x
  go_enter Try.func40, Try.ntmps40
  go_wp2_with (first
    | ((with_reducible refine gate_dst (N := 2) rfl ?_); refine box_event ?hg (N := 2) ?hd (cs := #[.int .i64 x0, .int .i64 x1, .int .i64 x2, .int .i64 x3]) (t := 83) ?hr ?_; (case hd => rfl); (case hg => rfl); (case hr => first | (go_simp; done) | (go_simp; rfl)); intro b2 hb2_ w2 hbox hb; have BK2 := Aside0.mk hbox; have HB2 := Aside0.mk (below_step HBR.out hb); have hcz1 : w2.cell? ⟨b2, 1, none⟩ = some (.int .i64 x1) := (blk_cell BK2.out 1).trans rfl; have hcz0 : w2.cell? ⟨B, 0, none⟩ = some (.slice A l.length c) := (blk_cell (blk_below HK.out hb) 0).trans rfl; clear hbox hb hb2_)
    | (go_at_call 41; refine (contains_int x1 A c l _ (Kd.C_below HC.out HB2.out)).mono ?_; rintro e w3 ⟨rfl, hb3⟩; have HB3 := Aside0.mk (below_step HB2.out hb3); clear hb3))
  go_ret
  exact ⟨rfl, HB3.out⟩
theorem row_ne32 {v : Value} {l : List S83} {base : Nat} {ok : Nat → Prop} {w : World} (HO : k83.R 83 w base ok v l) {g : Nat} (hg : v.ownBlock = some g) {cells : Array Value} (hc : w.heap[g]? = some (.cells cells 32 (0, 0))) : False := by
  obtain ⟨cells', hc'⟩ := Kd.R_typed HO g hg
  rw [hc] at hc'
  injection hc' with hc'
  injection hc' with _ hc'
  exact absurd hc' (by decide)
def escrow_Free.f (l0_0 : List S28) (l0_1 : List S83) (l1 : List Int) : Option (List S28 × List S83) := if l0_0.length < 4398046511104 ∧ l0_1.length < 4398046511104 then some (l0_0, l0_1.filter (fun x => !decide (x.f1 ∈ l1))) else none
set_option maxRecDepth 100000 in
set_option maxHeartbeats 1600000 in
theorem escrow_Free.calls (A0_0 : Option Addr) (c0_0 : Nat) (l0_0 : List S28) (A0_1 : Option Addr) (c0_1 : Nat) (l0_1 : List S83) (A1 : Option Addr) (c1 : Nat) (l1 : List Int) (r1 : List S28) (r2 : List S83) (w : World) (hr0_0 : Kd.C k28 w A0_0 l0_0.length l0_0) (hc0_0 : l0_0.length ≤ c0_0) (hr0_1 : Kd.C k83 w A0_1 l0_1.length l0_1) (hc0_1 : l0_1.length ≤ c0_1) (hr1 : Kd.C (Kd.int .i64) w A1 l1.length l1) (hc1 : l1.length ≤ c1) (h : escrow_Free.f l0_0 l0_1 l1 = some (r1, r2)) :
    Calls Try.prog 11 #[.agg #[.slice A0_0 l0_0.length c0_0, .slice A0_1 l0_1.length c0_1], .slice A1 l1.length c1] w fun e w' => ∃ v0_ v1_ : Value, e = .returned (.agg #[v0_, v1_]) ∧ Kd.R k28 28 w' w.heap.size (fun _ => True) v0_ r1 ∧ Kd.R k83 83 w' w.heap.size (fun _ => True) v1_ r2 ∧ Below w.heap.size w w' := by
  unfold escrow_Free.f at h
  by_cases hl : l0_0.length < 4398046511104 ∧ l0_1.length < 4398046511104
  case neg => rw [if_neg hl] at h; cases h
  rw [if_pos hl] at h
  simp only [Option.some.injEq, Prod.mk.injEq] at h
  obtain ⟨rfl, h2⟩ := h
  have H2 := Aside0.mk h2
  clear h2
  have hu32 := Try.underlying32
  have HOW := Aside0.mk (fun W (hb : Below w.heap.size w W) => own_any A0_0 c0_0 l0_0 A0_1 c0_1 l0_1 W (Kd.C_below hr0_0 hb) hc0_0 (Kd.C_below hr0_1 hb) hc0_1 hl.1 hl.2)
  have HR1 := Aside0.mk hr1
  clear hr0_0 hr0_1 hc0_0 hc0_1 hl hr1 hc1
  have HBR := Aside0.mk (Below.refl w.heap.size w)
  go_enter Try.func11, Try.ntmps11
  go_wp2_with (first
    | ((with_reducible refine gate_dst (N := 2) rfl ?_); refine box_event ?hg (N := 2) ?hd (cs := #[.slice A0_0 l0_0.length c0_0, .slice A0_1 l0_1.length c0_1]) (t := 32) ?hr ?_; (case hd => rfl); (case hg => rfl); (case hr => first | (go_simp; done) | (go_simp; rfl)); intro b2 hb2_ w2 hbox hb; have BK2 := Aside0.mk hbox; have HB2 := Aside0.mk (below_step HBR.out hb); clear hbox hb hb2_)
    | ((with_reducible refine gate_dst (N := 3) rfl ?_); refine box_event ?hg (N := 3) ?hd (cs := #[.slice A1 l1.length c1]) (t := 22) ?hr ?_; (case hd => rfl); (case hg => rfl); (case hr => first | (go_simp; done) | (go_simp; rfl)); intro b3 hb3_ w3 hbox hb; have BK3 := Aside0.mk hbox; have HB3 := Aside0.mk (below_step HB2.out hb); have BK23 := Aside0.mk (blk_below BK2.out hb); clear hbox hb hb3_)
    | ((with_reducible refine gate_dst (N := 4) rfl ?_); refine box_event ?hg (N := 4) ?hd (cs := #[.slice none 0 0, .slice none 0 0]) (t := 32) ?hr ?_; (case hd => rfl); (case hg => rfl); (case hr => first | (go_simp; done) | (go_simp; rfl)); intro b4 hb4_ w4 hbox hb; have BK4 := Aside0.mk hbox; have HB4 := Aside0.mk (below_step HB3.out hb); have BK24 := Aside0.mk (blk_below BK23.out hb); have BK34 := Aside0.mk (blk_below BK3.out hb); have HG4 := Aside0.mk (show w.heap.size ≤ b4 by rw [hb4_]; exact HB3.out.size); have hcy0 : w4.cell? ⟨b2, 0, none⟩ = some (.slice A0_0 l0_0.length c0_0) := (blk_cell BK24.out 0).trans rfl; have hcy1 : w4.cell? ⟨b2, 1, none⟩ = some (.slice A0_1 l0_1.length c0_1) := (blk_cell BK24.out 1).trans rfl; clear hbox hb hb4_)
    | (go_at_call 33; refine (HOW.out _ HB4.out).mono ?_; rintro e w5 ⟨b5, v5, u5, rfl, hg5, hbox, ho0, ho1, hb⟩; have BK5 := Aside0.mk hbox; have HO0 := Aside0.mk (Kd.R_lower ho0 HB4.out.size); have HO1 := Aside0.mk (Kd.R_lower ho1 HB4.out.size); have HB5 := Aside0.mk (below_step HB4.out hb); have BK35 := Aside0.mk (blk_below BK34.out hb); have BK45 := Aside0.mk (blk_below BK4.out hb); have HG5 := Aside0.mk (show w.heap.size ≤ b5 from Nat.le_trans HB4.out.size hg5); have hn4 := Aside0.mk (show b4 ≠ b5 from fun e => by have := blk_lt BK4.out; omega); have hcx0 : w5.cell? ⟨b5, 0, none⟩ = some v5 := (blk_cell BK5.out 0).trans rfl; have hcx1 : w5.cell? ⟨b5, 1, none⟩ = some u5 := (blk_cell BK5.out 1).trans rfl; have hfx0 := blk_frozen BK5.out 0; have hfx1 := blk_frozen BK5.out 1; clear hbox ho0 ho1 hb hg5 hcy0 hcy1)
    | (go_at_call 39; refine (df_40 b3 (fun x => decide (x.f1 ∈ l1)) (BoxL b3 A1 l1.length c1 w) (pred40 b3 A1 c1 l1 w HR1.out) u5 (BoxL.grown (w := w5) ⟨BK35.out, HB5.out.size, fun k hk => HB5.out.block k hk⟩ HO1.out) l0_1 w.heap.size (fun _ => True) w w5 HO1.out HB5.out HB5.out.size ⟨BK35.out, HB5.out.size, fun k hk => HB5.out.block k hk⟩).mono ?_; rintro e w6 ⟨u6, rfl, ho6, hb6, hk6, hown6⟩; (rw [H2.out] at ho6); have HO6 := Aside0.mk ho6; have HB6 := Aside0.mk hb6; have BK6 := Aside0.mk (blk_kept BK5.out hk6 (fun h => row_ne32 HO1.out h BK5.out)); have BK46 := Aside0.mk (blk_kept BK45.out hk6 (fun h => row_ne32 HO1.out h BK45.out)); have HO06 := Aside0.mk (Kd.R_mono (Kd.R_kept (Kd.R_apartR HO0.out HO1.out (by decide)) hk6 (fun k hk h => hk.2 h.symm)) (fun _ _ => trivial)); clear ho6 hb6 hk6; have hcw0 : w6.cell? ⟨b5, 0, none⟩ = some v5 := (blk_cell BK6.out 0).trans rfl; have hcw1 : w6.cell? ⟨b5, 1, none⟩ = some u5 := (blk_cell BK6.out 1).trans rfl; have hfw0 := blk_frozen BK6.out 0; have hfw1 := blk_frozen BK6.out 1; have hcv0 : w6.cell? ⟨b4, 0, none⟩ = some (.slice none 0 0) := (blk_cell BK46.out 0).trans rfl; have hcv1 : w6.cell? ⟨b4, 1, none⟩ = some (.slice none 0 0) := (blk_cell BK46.out 1).trans rfl; have hfv0 := blk_frozen BK46.out 0; have hfv1 := blk_frozen BK46.out 1; have hn := hn4.out; have hn' := Ne.symm hn4.out; obtain ⟨X5, d5, rfl⟩ := Kd.R_slice HO06.out; obtain ⟨X6, d6, rfl⟩ := Kd.R_slice HO6.out))
  have k1 := blk_far BK46.out hn (.slice X6 r2.length d6) (p := ⟨b5, 1, none⟩)
  have k2 := blk_set k1 0 (.slice X5 l0_0.length d5)
  have k3 := blk_set k2 1 (.slice X6 r2.length d6)
  refine bodyPost_ret (results_cell_row rfl _ _ b4 32 #[.slice X5 l0_0.length d5, .slice X6 r2.length d6] (0, 0) _ rfl k3 Try.underlying32 rfl (by kernel_rfl)) rfl ?_
  exact ⟨_, _, rfl, Kd.R_set (Kd.R_set (Kd.R_set HO06.out BK6.out (by decide) 1 _) k1 (by decide) 0 _) k2 (by decide) 1 _, Kd.R_set (Kd.R_set (Kd.R_set HO6.out BK6.out (by decide) 1 _) k1 (by decide) 0 _) k2 (by decide) 1 _, ((HB6.out.setCell HG5.out _).setCell HG4.out _).setCell HG4.out _⟩
end Go.Proofs.Ytdnkbmjlcdddcaa.Q
