/- NoteSizes: the walk. No condition. -/
import Derived.Test.YthcikbbglpdjhaaMC
import Derived.Test.YthcikbbglpdjhaaFNoteSizes
namespace Go.Proofs.Ythcikbbglpdjhaa.Q
open Go.RowKit Go.Proofs.YthcikbbglpdjhaaW Go.Proofs.YthcikbbglpdjhaaW.PrintWords Go.Proofs.YthcikbbglpdjhaaW.PrintLast Go.Proofs.YthcikbbglpdjhaaW.PrintMore
attribute [local go_sem] max2_int min2_int max_two min_two
set_option linter.unusedVariables false
set_option linter.unusedSimpArgs false

def regS4.T : Bool × List (List Nat × List Nat) := (true, [([], []), ([0], [0]), ([], []), ([2, 1], [2]), ([1, 3, 3], [1, 3]), ([4], [4]), ([5], [5]), ([5], [5]), ([], []), ([8, 6, 4, 0, 1, 2, 3, 4, 5, 6, 8], [6, 8]), ([7, 9, 0, 1, 2, 3, 4, 5, 6, 7, 8, 9], [7])])
def regS4.B : List Nat := [0, 1, 0, 7, 15, 31, 63, 63, 0, 383, 1023]
theorem regS4.tab : rtab .any (opsOf Try.f8 4) = regS4.T := by kernel_rfl
theorem regS4.bits : waitsOk regS4.T.2 regS4.B = true := by kernel_rfl

theorem boxes2 (w : World) (t : Nat) (a0 a1 a2 a3 b0 b1 b2 b3 : Value) (W : World) (hW : (w.alloc (.cells #[a0, a1, a2, a3] t)).alloc (.cells #[b0, b1, b2, b3] t) = W) :
    B4 w w.heap.size t a0 a1 a2 a3 W ∧ B4 w (w.heap.size + 1) t b0 b1 b2 b3 W := by
  have h1 := B4.new w t a0 a1 a2 a3 (Below.refl w.heap.size w)
  have h2 := B4.new w t b0 b1 b2 b3 h1.below
  have s1 : (w.alloc (.cells #[a0, a1, a2, a3] t)).heap.size = w.heap.size + 1 := by simp
  rw [s1] at h2
  subst hW
  have al : ∀ (X : World) (o : Obj), Below X.heap.size X (X.alloc o) := fun X o => (Below.refl _ _).alloc (Nat.le_refl _) _
  exact ⟨h1.next (al _ _), h2⟩
section
variable (ak as_ : Int) (A2 : Option Addr) (c2 : Nat) (ai : List S44) (A3 : Option Addr) (c3 : Nat) (ao : List S46) (bk bs : Int) (B2 : Option Addr) (d2 : Nat) (bi : List S44) (B3 : Option Addr) (d3 : Nat) (bo : List S46) (w : World)
def SizesOk : Prop := Calls Try.prog 8 #[.agg #[.int .i64 ak, .int .i64 as_, .slice A2 ai.length c2, .slice A3 ao.length c3], .agg #[.int .i64 bk, .int .i64 bs, .slice B2 bi.length d2, .slice B3 bo.length d3]] w fun e w' => e = .returned (.bool true) ∧ Below w.heap.size w w'

set_option maxRecDepth 100000 in
set_option maxHeartbeats 6400000 in
theorem sizes_few1 (hna : NC w A2 c2 ai A3 c3 ao) (hnb : NC w B2 d2 bi B3 d3 bo) (hf : fewB 100 ai ao = false) : SizesOk ak as_ A2 c2 ai A3 c3 ao bk bs B2 d2 bi B3 d3 bo w := by
  obtain ⟨w0, hw0⟩ : ∃ w0, (w.alloc (.cells #[.int .i64 ak, .int .i64 as_, .slice A2 ai.length c2, .slice A3 ao.length c3] 32)).alloc (.cells #[.int .i64 bk, .int .i64 bs, .slice B2 bi.length d2, .slice B3 bo.length d3] 32) = w0 := ⟨_, rfl⟩
  obtain ⟨hX, hY⟩ := boxes2 w 32 _ _ _ _ _ _ _ _ w0 hw0
  have NX0 := Aside0.mk (hna.nf.below hX.below)
  have NY0 := Aside0.mk (hnb.nf.below hX.below)
  have hu := Try.underlying32
  have hu2 := Try.underlying27
  unfold SizesOk
  obtain ⟨b, hb⟩ : ∃ b, w.heap.size = b := ⟨_, rfl⟩
  rw [hb] at hX hY
  have HX0 := Aside0.mk hX
  have HY0 := Aside0.mk hY
  clear hX hY hna hnb
  go_enter Try.func8, Try.ntmps8
  go_upto_region 1 with (fail)
  (try rw [hw0])
  clear hw0 hb
  have C9 := Aside0.mk (fun W => awake_c W)
  have FA := Aside0.mk (fun W (h : NC W A2 c2 ai A3 c3 ao) => few_c h ak as_ 100 (by omega))
  have FB := Aside0.mk (fun W (h : NC W B2 d2 bi B3 d3 bo) => few_c h bk bs 100 (by omega))
  simp only [hf] at FA FB
  clear hf
  have xX0 := HX0.out.x0; have xX1 := HX0.out.x1; have xX2 := HX0.out.x2; have xX3 := HX0.out.x3; have xY0 := HY0.out.x0; have xY1 := HY0.out.x1; have xY2 := HY0.out.x2; have xY3 := HY0.out.x3
  go_wp2_with (first | (go_at_call 9; refine (C9.out _).mono ?_; rintro e w1 ⟨rfl, hb⟩; clear xX0 xX1 xX2 xX3 xY0 xY1 xY2 xY3 C9; have HX1 := Aside0.mk (HX0.out.next hb); have HY1 := Aside0.mk (HY0.out.next hb); have NX1 := Aside0.mk (NX0.out.below hb); have NY1 := Aside0.mk (NY0.out.below hb); clear hb HX0 HY0 NX0 NY0; have xX0 := HX1.out.x0; have xX1 := HX1.out.x1; have xX2 := HX1.out.x2; have xX3 := HX1.out.x3; have xY0 := HY1.out.x0; have xY1 := HY1.out.x1; have xY2 := HY1.out.x2; have xY3 := HY1.out.x3) | (go_at_call 15; refine (FA.out _ NX1.out.nc).mono ?_; rintro e w2 ⟨rfl, hb⟩; clear xX0 xX1 xX2 xX3 xY0 xY1 xY2 xY3 FA; have HX2 := Aside0.mk (HX1.out.next hb); have HY2 := Aside0.mk (HY1.out.next hb); have NX2 := Aside0.mk (NX1.out.below hb); have NY2 := Aside0.mk (NY1.out.below hb); clear hb HX1 HY1 NX1 NY1; have xX0 := HX2.out.x0; have xX1 := HX2.out.x1; have xX2 := HX2.out.x2; have xX3 := HX2.out.x3; have xY0 := HY2.out.x0; have xY1 := HY2.out.x1; have xY2 := HY2.out.x2; have xY3 := HY2.out.x3))
  go_ret
  exact ⟨rfl, HX2.out.below⟩
set_option maxRecDepth 100000 in
set_option maxHeartbeats 6400000 in
theorem sizes_few2 (hna : NC w A2 c2 ai A3 c3 ao) (hnb : NC w B2 d2 bi B3 d3 bo) (hf : fewB 100 ai ao = true) (hg : fewB 100 bi bo = false) : SizesOk ak as_ A2 c2 ai A3 c3 ao bk bs B2 d2 bi B3 d3 bo w := by
  obtain ⟨w0, hw0⟩ : ∃ w0, (w.alloc (.cells #[.int .i64 ak, .int .i64 as_, .slice A2 ai.length c2, .slice A3 ao.length c3] 32)).alloc (.cells #[.int .i64 bk, .int .i64 bs, .slice B2 bi.length d2, .slice B3 bo.length d3] 32) = w0 := ⟨_, rfl⟩
  obtain ⟨hX, hY⟩ := boxes2 w 32 _ _ _ _ _ _ _ _ w0 hw0
  have NX0 := Aside0.mk (hna.nf.below hX.below)
  have NY0 := Aside0.mk (hnb.nf.below hX.below)
  have hu := Try.underlying32
  have hu2 := Try.underlying27
  unfold SizesOk
  obtain ⟨b, hb⟩ : ∃ b, w.heap.size = b := ⟨_, rfl⟩
  rw [hb] at hX hY
  have HX0 := Aside0.mk hX
  have HY0 := Aside0.mk hY
  clear hX hY hna hnb
  go_enter Try.func8, Try.ntmps8
  go_upto_region 1 with (fail)
  (try rw [hw0])
  clear hw0 hb
  have C9 := Aside0.mk (fun W => awake_c W)
  have FA := Aside0.mk (fun W (h : NC W A2 c2 ai A3 c3 ao) => few_c h ak as_ 100 (by omega))
  have FB := Aside0.mk (fun W (h : NC W B2 d2 bi B3 d3 bo) => few_c h bk bs 100 (by omega))
  simp only [hf, hg] at FA FB
  clear hf  hg
  have xX0 := HX0.out.x0; have xX1 := HX0.out.x1; have xX2 := HX0.out.x2; have xX3 := HX0.out.x3; have xY0 := HY0.out.x0; have xY1 := HY0.out.x1; have xY2 := HY0.out.x2; have xY3 := HY0.out.x3
  go_wp2_with (first | (go_at_call 9; refine (C9.out _).mono ?_; rintro e w1 ⟨rfl, hb⟩; clear xX0 xX1 xX2 xX3 xY0 xY1 xY2 xY3 C9; have HX1 := Aside0.mk (HX0.out.next hb); have HY1 := Aside0.mk (HY0.out.next hb); have NX1 := Aside0.mk (NX0.out.below hb); have NY1 := Aside0.mk (NY0.out.below hb); clear hb HX0 HY0 NX0 NY0; have xX0 := HX1.out.x0; have xX1 := HX1.out.x1; have xX2 := HX1.out.x2; have xX3 := HX1.out.x3; have xY0 := HY1.out.x0; have xY1 := HY1.out.x1; have xY2 := HY1.out.x2; have xY3 := HY1.out.x3) | (go_at_call 15; refine (FA.out _ NX1.out.nc).mono ?_; rintro e w2 ⟨rfl, hb⟩; clear xX0 xX1 xX2 xX3 xY0 xY1 xY2 xY3 FA; have HX2 := Aside0.mk (HX1.out.next hb); have HY2 := Aside0.mk (HY1.out.next hb); have NX2 := Aside0.mk (NX1.out.below hb); have NY2 := Aside0.mk (NY1.out.below hb); clear hb HX1 HY1 NX1 NY1; have xX0 := HX2.out.x0; have xX1 := HX2.out.x1; have xX2 := HX2.out.x2; have xX3 := HX2.out.x3; have xY0 := HY2.out.x0; have xY1 := HY2.out.x1; have xY2 := HY2.out.x2; have xY3 := HY2.out.x3) | (go_at_call 15; refine (FB.out _ NY2.out.nc).mono ?_; rintro e w3 ⟨rfl, hb⟩; clear xX0 xX1 xX2 xX3 xY0 xY1 xY2 xY3 FB; have HX3 := Aside0.mk (HX2.out.next hb); have HY3 := Aside0.mk (HY2.out.next hb); have NX3 := Aside0.mk (NX2.out.below hb); have NY3 := Aside0.mk (NY2.out.below hb); clear hb HX2 HY2 NX2 NY2; have xX0 := HX3.out.x0; have xX1 := HX3.out.x1; have xX2 := HX3.out.x2; have xX3 := HX3.out.x3; have xY0 := HY3.out.x0; have xY1 := HY3.out.x1; have xY2 := HY3.out.x2; have xY3 := HY3.out.x3))
  go_ret
  exact ⟨rfl, HX3.out.below⟩
set_option maxRecDepth 100000 in
set_option maxHeartbeats 6400000 in
theorem sizes_bad (hna : NC w A2 c2 ai A3 c3 ao) (hnb : NC w B2 d2 bi B3 d3 bo) (hf : fewB 100 ai ao = true) (hg : fewB 100 bi bo = true) (r : Int) (hm : mergeR ak as_ ai ao bk bs bi bo = (0, 0, [], [], r)) (hr : r ≠ 0) : SizesOk ak as_ A2 c2 ai A3 c3 ao bk bs B2 d2 bi B3 d3 bo w := by
  have hfa := few_parts hf
  have hfb := few_parts hg
  have HL := Aside0.mk (show ai.length ≤ 100 ∧ ao.length ≤ 100 ∧ bi.length ≤ 100 ∧ bo.length ≤ 100 by omega)
  clear hfa hfb
  have HMR := Aside0.mk hm
  clear hm
  obtain ⟨w0, hw0⟩ : ∃ w0, (w.alloc (.cells #[.int .i64 ak, .int .i64 as_, .slice A2 ai.length c2, .slice A3 ao.length c3] 32)).alloc (.cells #[.int .i64 bk, .int .i64 bs, .slice B2 bi.length d2, .slice B3 bo.length d3] 32) = w0 := ⟨_, rfl⟩
  obtain ⟨hX, hY⟩ := boxes2 w 32 _ _ _ _ _ _ _ _ w0 hw0
  have NX0 := Aside0.mk (hna.nf.below hX.below)
  have NY0 := Aside0.mk (hnb.nf.below hX.below)
  have hu := Try.underlying32
  have hu2 := Try.underlying27
  unfold SizesOk
  obtain ⟨b, hb⟩ : ∃ b, w.heap.size = b := ⟨_, rfl⟩
  rw [hb] at hX hY
  have HX0 := Aside0.mk hX
  have HY0 := Aside0.mk hY
  clear hX hY hna hnb
  go_enter Try.func8, Try.ntmps8
  go_upto_region 1 with (fail)
  (try rw [hw0])
  clear hw0 hb
  have C9 := Aside0.mk (fun W => awake_c W)
  have FA := Aside0.mk (fun W (h : NC W A2 c2 ai A3 c3 ao) => few_c h ak as_ 100 (by omega))
  have FB := Aside0.mk (fun W (h : NC W B2 d2 bi B3 d3 bo) => few_c h bk bs 100 (by omega))
  simp only [hf, hg] at FA FB
  clear hf  hg
  have xX0 := HX0.out.x0; have xX1 := HX0.out.x1; have xX2 := HX0.out.x2; have xX3 := HX0.out.x3; have xY0 := HY0.out.x0; have xY1 := HY0.out.x1; have xY2 := HY0.out.x2; have xY3 := HY0.out.x3
  go_upto_region 4 with (first | (go_at_call 9; refine (C9.out _).mono ?_; rintro e w1 ⟨rfl, hb⟩; clear xX0 xX1 xX2 xX3 xY0 xY1 xY2 xY3 C9; have HX1 := Aside0.mk (HX0.out.next hb); have HY1 := Aside0.mk (HY0.out.next hb); have NX1 := Aside0.mk (NX0.out.below hb); have NY1 := Aside0.mk (NY0.out.below hb); clear hb HX0 HY0 NX0 NY0; have xX0 := HX1.out.x0; have xX1 := HX1.out.x1; have xX2 := HX1.out.x2; have xX3 := HX1.out.x3; have xY0 := HY1.out.x0; have xY1 := HY1.out.x1; have xY2 := HY1.out.x2; have xY3 := HY1.out.x3) | (go_at_call 15; refine (FA.out _ NX1.out.nc).mono ?_; rintro e w2 ⟨rfl, hb⟩; clear xX0 xX1 xX2 xX3 xY0 xY1 xY2 xY3 FA; have HX2 := Aside0.mk (HX1.out.next hb); have HY2 := Aside0.mk (HY1.out.next hb); have NX2 := Aside0.mk (NX1.out.below hb); have NY2 := Aside0.mk (NY1.out.below hb); clear hb HX1 HY1 NX1 NY1; have xX0 := HX2.out.x0; have xX1 := HX2.out.x1; have xX2 := HX2.out.x2; have xX3 := HX2.out.x3; have xY0 := HY2.out.x0; have xY1 := HY2.out.x1; have xY2 := HY2.out.x2; have xY3 := HY2.out.x3) | (go_at_call 15; refine (FB.out _ NY2.out.nc).mono ?_; rintro e w3 ⟨rfl, hb⟩; clear xX0 xX1 xX2 xX3 xY0 xY1 xY2 xY3 FB; have HX3 := Aside0.mk (HX2.out.next hb); have HY3 := Aside0.mk (HY2.out.next hb); have NX3 := Aside0.mk (NX2.out.below hb); have NY3 := Aside0.mk (NY2.out.below hb); clear hb HX2 HY2 NX2 NY2; have xX0 := HX3.out.x0; have xX1 := HX3.out.x1; have xX2 := HX3.out.x2; have xX3 := HX3.out.x3; have xY0 := HY3.out.x0; have xY1 := HY3.out.x1; have xY2 := HY3.out.x2; have xY3 := HY3.out.x3))
  have hb : Below w3.heap.size w3 w3.drew := (Below.refl _ _).drew
  clear xX0 xX1 xX2 xX3 xY0 xY1 xY2 xY3
  have HX4 := Aside0.mk (HX3.out.next hb)
  have HY4 := Aside0.mk (HY3.out.next hb)
  have NX4 := Aside0.mk (NX3.out.below hb)
  have NY4 := Aside0.mk (NY3.out.below hb)
  clear hb HX3 HY3 NX3 NY3
  refine start_ (n := 11) (S := fun w' => w'.cell? ⟨b, 0, none⟩ = some (.int .i64 ak) ∧ w'.cell? ⟨b, 1, none⟩ = some (.int .i64 as_) ∧ w'.cell? ⟨b, 2, none⟩ = some (.slice A2 ai.length c2) ∧ w'.cell? ⟨b, 3, none⟩ = some (.slice A3 ao.length c3) ∧ w'.cell? ⟨b + 1, 0, none⟩ = some (.int .i64 bk) ∧ w'.cell? ⟨b + 1, 1, none⟩ = some (.int .i64 bs) ∧ w'.cell? ⟨b + 1, 2, none⟩ = some (.slice B2 bi.length d2) ∧ w'.cell? ⟨b + 1, 3, none⟩ = some (.slice B3 bo.length d3)) (ds := [9, 10]) #[false, false, false, false, false, false, false, false, false, false, false] rfl rfl rfl ⟨HX4.out.x0, HX4.out.x1, HX4.out.x2, HX4.out.x3, HY4.out.x0, HY4.out.x1, HY4.out.x2, HY4.out.x3⟩ (fun hHeld => ?_)
  refine with_tabW regS4.tab regS4.bits (fun HT_ HW_ => ?_)
  generalize w3.drew = w4 at *
  clear w3
  refine tz_ 0 21 HT_ HW_ hHeld ?_
  refine tz_ 2 23 HT_ HW_ hHeld ?_
  refine join_ (σ := (Option Addr × Nat) × (Option Addr × Nat) × Nat) 2 #[true, true, true, true, true, true, true, true, true, false, false] (fun q => [(22, .agg #[.int .i64 ak, .int .i64 as_, .slice A2 ai.length c2, .slice A3 ao.length c3]), (24, .agg #[.int .i64 bk, .int .i64 bs, .slice B2 bi.length d2, .slice B3 bo.length d3]), (25, .tuple #[.agg #[.int .i64 0, .int .i64 0, .slice q.1.1 0 q.1.2, .slice q.2.1.1 0 q.2.1.2], .int .i64 r]), (20, .tuple #[.agg #[.int .i64 0, .int .i64 0, .slice q.1.1 0 q.1.2, .slice q.2.1.1 0 q.2.1.2], .int .i64 r]), (26, .agg #[.int .i64 0, .int .i64 0, .slice q.1.1 0 q.1.2, .slice q.2.1.1 0 q.2.1.2]), (27, .int .i64 r), (6, .pointer (some ⟨q.2.2, 0, none⟩))]) (fun q w' => Aside0 (B4 w (b) 32 (.int .i64 ak) (.int .i64 as_) (.slice A2 ai.length c2) (.slice A3 ao.length c3) w') ∧ Aside0 (B4 w (b + 1) 32 (.int .i64 bk) (.int .i64 bs) (.slice B2 bi.length d2) (.slice B3 bo.length d3) w') ∧ Aside0 (AP q.2.2 w' A2 c2 ai A3 c3 ao) ∧ Aside0 (AP q.2.2 w' B2 d2 bi B3 d3 bo) ∧ Aside0 (AP q.2.2 w' q.1.1 q.1.2 ([] : List S44) q.2.1.1 q.2.1.2 ([] : List S46)) ∧ Aside0 (w'.heap[q.2.2]? = some (.cells #[.int .i64 0, .int .i64 0, .slice none 0 0, .slice none 0 0] 27 (0, 0))) ∧ Aside0 (b < q.2.2 ∧ b + 1 < q.2.2)) ?hcont ?hord
  case hord =>
    intro JN
    have JNN := Aside0.mk JN
    clear JN
    refine two_ (i := 1) (j := 8) (Ni := some 22) (Nj := some 6) #[true, true, true, false, false, false, false, false, false, false, false] #[true, false, true, false, false, false, false, false, true, false, false] rfl rfl rfl rfl (two_of HT_.out (by kernel_rfl)) (by decide) (by decide) (fun K hK => ?_) (fun K hK => ?_)
    · refine goes_ Try.func16 (by kernel_rfl) rfl #[.agg #[.int .i64 ak, .int .i64 as_, .slice A2 ai.length c2, .slice A3 ao.length c3]] (by rfl) rfl rfl ma_ ?_
      refine (ours_c NX4.out.nc ak as_).mono ?_
      rintro e v5w ⟨rfl, hb⟩
      refine ⟨_, rfl, ?_⟩
      have HX5 := Aside0.mk (HX4.out.next hb)
      have HY5 := Aside0.mk (HY4.out.next hb)
      have NX5 := Aside0.mk (NX4.out.below hb)
      have NY5 := Aside0.mk (NY4.out.below hb)
      clear hb HX4 HY4 NX4 NY4
      refine hK.out _ _ ⟨HX5.out.x0, HX5.out.x1, HX5.out.x2, HX5.out.x3, HY5.out.x0, HY5.out.x1, HY5.out.x2, HY5.out.x3⟩ (fun hHeld => ?_)
      clear hK K
      refine two_ (i := 3) (j := 8) (Ni := some 24) (Nj := some 6) #[true, true, true, true, false, false, false, false, false, false, false] #[true, true, true, false, false, false, false, false, true, false, false] rfl rfl rfl rfl (two_of HT_.out (by kernel_rfl)) (by decide) (by decide) (fun K hK => ?_) (fun K hK => ?_)
      · refine goes_ Try.func16 (by kernel_rfl) rfl #[.agg #[.int .i64 bk, .int .i64 bs, .slice B2 bi.length d2, .slice B3 bo.length d3]] (by rfl) rfl rfl ma_ ?_
        refine (ours_c NY5.out.nc bk bs).mono ?_
        rintro e v6w ⟨rfl, hb⟩
        refine ⟨_, rfl, ?_⟩
        have HX6 := Aside0.mk (HX5.out.next hb)
        have HY6 := Aside0.mk (HY5.out.next hb)
        have NX6 := Aside0.mk (NX5.out.below hb)
        have NY6 := Aside0.mk (NY5.out.below hb)
        clear hb HX5 HY5 NX5 NY5
        refine hK.out _ _ ⟨HX6.out.x0, HX6.out.x1, HX6.out.x2, HX6.out.x3, HY6.out.x0, HY6.out.x1, HY6.out.x2, HY6.out.x3⟩ (fun hHeld => ?_)
        clear hK K
        refine two_ (i := 4) (j := 8) (Ni := some 25) (Nj := some 6) #[true, true, true, true, true, false, false, false, false, false, false] #[true, true, true, true, false, false, false, false, true, false, false] rfl rfl rfl rfl (two_of HT_.out (by kernel_rfl)) (by decide) (by decide) (fun K hK => ?_) (fun K hK => ?_)
        · refine goes_ Try.func18 (by kernel_rfl) rfl #[.agg #[.int .i64 ak, .int .i64 as_, .slice A2 ai.length c2, .slice A3 ao.length c3], .agg #[.int .i64 bk, .int .i64 bs, .slice B2 bi.length d2, .slice B3 bo.length d3]] (by rfl) rfl rfl ma_ ?_
          refine (merge_nf NX6.out NY6.out ak as_ bk bs (by have := HL.out; omega) (im := ([] : List S44)) (os := ([] : List S46)) 0 0 r HMR.out).mono ?_
          rintro e v7w ⟨XA, xc, YA, yc, rfl, hn, hb⟩
          refine ⟨_, rfl, ?_⟩
          have HX7 := Aside0.mk (HX6.out.next hb)
          have HY7 := Aside0.mk (HY6.out.next hb)
          have NX7 := Aside0.mk (NX6.out.below hb)
          have NY7 := Aside0.mk (NY6.out.below hb)
          clear hb HX6 HY6 NX6 NY6
          have NNew7 := Aside0.mk hn
          refine hK.out _ _ ⟨HX7.out.x0, HX7.out.x1, HX7.out.x2, HX7.out.x3, HY7.out.x0, HY7.out.x1, HY7.out.x2, HY7.out.x3⟩ (fun hHeld => ?_)
          clear hK K
          refine pz_ 5 20 HT_ ?_
          refine pz_ 6 26 HT_ ?_
          refine pz_ 7 27 HT_ ?_
          refine oz_ 8 6 HT_ (fun K hK => ?_)
          refine value_ (by rfl) rfl (v := .pointer (some ⟨v7w.heap.size, 0, none⟩)) (w1 := v7w.alloc (.cells #[.int .i64 0, .int .i64 0, .slice none 0 0, .slice none 0 0] 27)) (by first | (go_simp; done) | (go_simp; rfl)) ?_
          have hb : Below v7w.heap.size v7w (v7w.alloc (.cells #[.int .i64 0, .int .i64 0, .slice none 0 0, .slice none 0 0] 27)) := (Below.refl _ _).alloc (Nat.le_refl _) _
          have hx := blk_new v7w (.cells #[.int .i64 0, .int .i64 0, .slice none 0 0, .slice none 0 0] 27)
          have hl0 := blk_lt HX7.out.at_
          have hl1 := blk_lt HY7.out.at_
          obtain ⟨bM, hbM⟩ : ∃ bM, v7w.heap.size = bM := ⟨_, rfl⟩
          rw [hbM] at hx hl0 hl1
          rw [hbM]
          have hle := Nat.le_of_eq hbM
          clear hbM
          generalize v7w.alloc (.cells #[.int .i64 0, .int .i64 0, .slice none 0 0, .slice none 0 0] 27) = v8w at *
          have LT := Aside0.mk (show b < bM ∧ b + 1 < bM from ⟨hl0, hl1⟩)
          clear hl0 hl1
          have HX8 := Aside0.mk (HX7.out.next hb)
          have HY8 := Aside0.mk (HY7.out.next hb)
          have NX8 := Aside0.mk ((NF.ap NX7.out (b := bM) hle).below hb)
          have NY8 := Aside0.mk ((NF.ap NY7.out (b := bM) hle).below hb)
          have NNew8 := Aside0.mk ((NF.ap NNew7.out (b := bM) hle).below hb)
          clear hb HX7 HY7 NX7 NY7 hle
          have TT8 := Aside0.mk hx
          refine hK.out _ _ ⟨HX8.out.x0, HX8.out.x1, HX8.out.x2, HX8.out.x3, HY8.out.x0, HY8.out.x1, HY8.out.x2, HY8.out.x3⟩ (fun hHeld => ?_)
          clear hK K
          exact norm_ pu_ (JNN.out ((XA, xc), (YA, yc), bM) _ ⟨HX8, HY8, NX8, NY8, NNew8, TT8, LT⟩)
        · refine value_ (by rfl) rfl (v := .pointer (some ⟨v6w.heap.size, 0, none⟩)) (w1 := v6w.alloc (.cells #[.int .i64 0, .int .i64 0, .slice none 0 0, .slice none 0 0] 27)) (by first | (go_simp; done) | (go_simp; rfl)) ?_
          have hb : Below v6w.heap.size v6w (v6w.alloc (.cells #[.int .i64 0, .int .i64 0, .slice none 0 0, .slice none 0 0] 27)) := (Below.refl _ _).alloc (Nat.le_refl _) _
          have hx := blk_new v6w (.cells #[.int .i64 0, .int .i64 0, .slice none 0 0, .slice none 0 0] 27)
          have hl0 := blk_lt HX6.out.at_
          have hl1 := blk_lt HY6.out.at_
          obtain ⟨bM, hbM⟩ : ∃ bM, v6w.heap.size = bM := ⟨_, rfl⟩
          rw [hbM] at hx hl0 hl1
          rw [hbM]
          have hle := Nat.le_of_eq hbM
          clear hbM
          generalize v6w.alloc (.cells #[.int .i64 0, .int .i64 0, .slice none 0 0, .slice none 0 0] 27) = v9w at *
          have LT := Aside0.mk (show b < bM ∧ b + 1 < bM from ⟨hl0, hl1⟩)
          clear hl0 hl1
          have HX7 := Aside0.mk (HX6.out.next hb)
          have HY7 := Aside0.mk (HY6.out.next hb)
          have NX7 := Aside0.mk ((NF.ap NX6.out (b := bM) hle).below hb)
          have NY7 := Aside0.mk ((NF.ap NY6.out (b := bM) hle).below hb)
          clear hb HX6 HY6 NX6 NY6 hle
          have TT7 := Aside0.mk hx
          refine hK.out _ _ ⟨HX7.out.x0, HX7.out.x1, HX7.out.x2, HX7.out.x3, HY7.out.x0, HY7.out.x1, HY7.out.x2, HY7.out.x3⟩ (fun hHeld => ?_)
          clear hK K
          refine oz_ 4 25 HT_ (fun K hK => ?_)
          refine goes_ Try.func18 (by kernel_rfl) rfl #[.agg #[.int .i64 ak, .int .i64 as_, .slice A2 ai.length c2, .slice A3 ao.length c3], .agg #[.int .i64 bk, .int .i64 bs, .slice B2 bi.length d2, .slice B3 bo.length d3]] (by rfl) rfl rfl ma_ ?_
          refine (merge_ap NX7.out NY7.out (blk_lt TT7.out) ak as_ bk bs (by have := HL.out; omega) (im := ([] : List S44)) (os := ([] : List S46)) 0 0 r HMR.out).mono ?_
          rintro e v10w ⟨XA, xc, YA, yc, rfl, hn, hb⟩
          refine ⟨_, rfl, ?_⟩
          have HX8 := Aside0.mk (HX7.out.next hb)
          have HY8 := Aside0.mk (HY7.out.next hb)
          have NX8 := Aside0.mk (NX7.out.below hb)
          have NY8 := Aside0.mk (NY7.out.below hb)
          have TT8 := Aside0.mk (blk_below TT7.out hb)
          clear hb HX7 HY7 NX7 NY7
          have NNew8 := Aside0.mk hn
          refine hK.out _ _ ⟨HX8.out.x0, HX8.out.x1, HX8.out.x2, HX8.out.x3, HY8.out.x0, HY8.out.x1, HY8.out.x2, HY8.out.x3⟩ (fun hHeld => ?_)
          clear hK K
          refine pz_ 5 20 HT_ ?_
          refine pz_ 6 26 HT_ ?_
          refine pz_ 7 27 HT_ ?_
          exact norm_ pu_ (JNN.out ((XA, xc), (YA, yc), bM) _ ⟨HX8, HY8, NX8, NY8, NNew8, TT8, LT⟩)
      · refine value_ (by rfl) rfl (v := .pointer (some ⟨v5w.heap.size, 0, none⟩)) (w1 := v5w.alloc (.cells #[.int .i64 0, .int .i64 0, .slice none 0 0, .slice none 0 0] 27)) (by first | (go_simp; done) | (go_simp; rfl)) ?_
        have hb : Below v5w.heap.size v5w (v5w.alloc (.cells #[.int .i64 0, .int .i64 0, .slice none 0 0, .slice none 0 0] 27)) := (Below.refl _ _).alloc (Nat.le_refl _) _
        have hx := blk_new v5w (.cells #[.int .i64 0, .int .i64 0, .slice none 0 0, .slice none 0 0] 27)
        have hl0 := blk_lt HX5.out.at_
        have hl1 := blk_lt HY5.out.at_
        obtain ⟨bM, hbM⟩ : ∃ bM, v5w.heap.size = bM := ⟨_, rfl⟩
        rw [hbM] at hx hl0 hl1
        rw [hbM]
        have hle := Nat.le_of_eq hbM
        clear hbM
        generalize v5w.alloc (.cells #[.int .i64 0, .int .i64 0, .slice none 0 0, .slice none 0 0] 27) = v11w at *
        have LT := Aside0.mk (show b < bM ∧ b + 1 < bM from ⟨hl0, hl1⟩)
        clear hl0 hl1
        have HX6 := Aside0.mk (HX5.out.next hb)
        have HY6 := Aside0.mk (HY5.out.next hb)
        have NX6 := Aside0.mk ((NF.ap NX5.out (b := bM) hle).below hb)
        have NY6 := Aside0.mk ((NF.ap NY5.out (b := bM) hle).below hb)
        clear hb HX5 HY5 NX5 NY5 hle
        have TT6 := Aside0.mk hx
        refine hK.out _ _ ⟨HX6.out.x0, HX6.out.x1, HX6.out.x2, HX6.out.x3, HY6.out.x0, HY6.out.x1, HY6.out.x2, HY6.out.x3⟩ (fun hHeld => ?_)
        clear hK K
        refine oz_ 3 24 HT_ (fun K hK => ?_)
        refine goes_ Try.func16 (by kernel_rfl) rfl #[.agg #[.int .i64 bk, .int .i64 bs, .slice B2 bi.length d2, .slice B3 bo.length d3]] (by rfl) rfl rfl ma_ ?_
        refine (ours_c NY6.out.nc bk bs).mono ?_
        rintro e v12w ⟨rfl, hb⟩
        refine ⟨_, rfl, ?_⟩
        have HX7 := Aside0.mk (HX6.out.next hb)
        have HY7 := Aside0.mk (HY6.out.next hb)
        have NX7 := Aside0.mk (NX6.out.below hb)
        have NY7 := Aside0.mk (NY6.out.below hb)
        have TT7 := Aside0.mk (blk_below TT6.out hb)
        clear hb HX6 HY6 NX6 NY6
        refine hK.out _ _ ⟨HX7.out.x0, HX7.out.x1, HX7.out.x2, HX7.out.x3, HY7.out.x0, HY7.out.x1, HY7.out.x2, HY7.out.x3⟩ (fun hHeld => ?_)
        clear hK K
        refine oz_ 4 25 HT_ (fun K hK => ?_)
        refine goes_ Try.func18 (by kernel_rfl) rfl #[.agg #[.int .i64 ak, .int .i64 as_, .slice A2 ai.length c2, .slice A3 ao.length c3], .agg #[.int .i64 bk, .int .i64 bs, .slice B2 bi.length d2, .slice B3 bo.length d3]] (by rfl) rfl rfl ma_ ?_
        refine (merge_ap NX7.out NY7.out (blk_lt TT7.out) ak as_ bk bs (by have := HL.out; omega) (im := ([] : List S44)) (os := ([] : List S46)) 0 0 r HMR.out).mono ?_
        rintro e v13w ⟨XA, xc, YA, yc, rfl, hn, hb⟩
        refine ⟨_, rfl, ?_⟩
        have HX8 := Aside0.mk (HX7.out.next hb)
        have HY8 := Aside0.mk (HY7.out.next hb)
        have NX8 := Aside0.mk (NX7.out.below hb)
        have NY8 := Aside0.mk (NY7.out.below hb)
        have TT8 := Aside0.mk (blk_below TT7.out hb)
        clear hb HX7 HY7 NX7 NY7
        have NNew8 := Aside0.mk hn
        refine hK.out _ _ ⟨HX8.out.x0, HX8.out.x1, HX8.out.x2, HX8.out.x3, HY8.out.x0, HY8.out.x1, HY8.out.x2, HY8.out.x3⟩ (fun hHeld => ?_)
        clear hK K
        refine pz_ 5 20 HT_ ?_
        refine pz_ 6 26 HT_ ?_
        refine pz_ 7 27 HT_ ?_
        exact norm_ pu_ (JNN.out ((XA, xc), (YA, yc), bM) _ ⟨HX8, HY8, NX8, NY8, NNew8, TT8, LT⟩)
    · refine value_ (by rfl) rfl (v := .pointer (some ⟨w4.heap.size, 0, none⟩)) (w1 := w4.alloc (.cells #[.int .i64 0, .int .i64 0, .slice none 0 0, .slice none 0 0] 27)) (by first | (go_simp; done) | (go_simp; rfl)) ?_
      have hb : Below w4.heap.size w4 (w4.alloc (.cells #[.int .i64 0, .int .i64 0, .slice none 0 0, .slice none 0 0] 27)) := (Below.refl _ _).alloc (Nat.le_refl _) _
      have hx := blk_new w4 (.cells #[.int .i64 0, .int .i64 0, .slice none 0 0, .slice none 0 0] 27)
      have hl0 := blk_lt HX4.out.at_
      have hl1 := blk_lt HY4.out.at_
      obtain ⟨bM, hbM⟩ : ∃ bM, w4.heap.size = bM := ⟨_, rfl⟩
      rw [hbM] at hx hl0 hl1
      rw [hbM]
      have hle := Nat.le_of_eq hbM
      clear hbM
      generalize w4.alloc (.cells #[.int .i64 0, .int .i64 0, .slice none 0 0, .slice none 0 0] 27) = v14w at *
      have LT := Aside0.mk (show b < bM ∧ b + 1 < bM from ⟨hl0, hl1⟩)
      clear hl0 hl1
      have HX5 := Aside0.mk (HX4.out.next hb)
      have HY5 := Aside0.mk (HY4.out.next hb)
      have NX5 := Aside0.mk ((NF.ap NX4.out (b := bM) hle).below hb)
      have NY5 := Aside0.mk ((NF.ap NY4.out (b := bM) hle).below hb)
      clear hb HX4 HY4 NX4 NY4 hle
      have TT5 := Aside0.mk hx
      refine hK.out _ _ ⟨HX5.out.x0, HX5.out.x1, HX5.out.x2, HX5.out.x3, HY5.out.x0, HY5.out.x1, HY5.out.x2, HY5.out.x3⟩ (fun hHeld => ?_)
      clear hK K
      refine oz_ 1 22 HT_ (fun K hK => ?_)
      refine goes_ Try.func16 (by kernel_rfl) rfl #[.agg #[.int .i64 ak, .int .i64 as_, .slice A2 ai.length c2, .slice A3 ao.length c3]] (by rfl) rfl rfl ma_ ?_
      refine (ours_c NX5.out.nc ak as_).mono ?_
      rintro e v15w ⟨rfl, hb⟩
      refine ⟨_, rfl, ?_⟩
      have HX6 := Aside0.mk (HX5.out.next hb)
      have HY6 := Aside0.mk (HY5.out.next hb)
      have NX6 := Aside0.mk (NX5.out.below hb)
      have NY6 := Aside0.mk (NY5.out.below hb)
      have TT6 := Aside0.mk (blk_below TT5.out hb)
      clear hb HX5 HY5 NX5 NY5
      refine hK.out _ _ ⟨HX6.out.x0, HX6.out.x1, HX6.out.x2, HX6.out.x3, HY6.out.x0, HY6.out.x1, HY6.out.x2, HY6.out.x3⟩ (fun hHeld => ?_)
      clear hK K
      refine oz_ 3 24 HT_ (fun K hK => ?_)
      refine goes_ Try.func16 (by kernel_rfl) rfl #[.agg #[.int .i64 bk, .int .i64 bs, .slice B2 bi.length d2, .slice B3 bo.length d3]] (by rfl) rfl rfl ma_ ?_
      refine (ours_c NY6.out.nc bk bs).mono ?_
      rintro e v16w ⟨rfl, hb⟩
      refine ⟨_, rfl, ?_⟩
      have HX7 := Aside0.mk (HX6.out.next hb)
      have HY7 := Aside0.mk (HY6.out.next hb)
      have NX7 := Aside0.mk (NX6.out.below hb)
      have NY7 := Aside0.mk (NY6.out.below hb)
      have TT7 := Aside0.mk (blk_below TT6.out hb)
      clear hb HX6 HY6 NX6 NY6
      refine hK.out _ _ ⟨HX7.out.x0, HX7.out.x1, HX7.out.x2, HX7.out.x3, HY7.out.x0, HY7.out.x1, HY7.out.x2, HY7.out.x3⟩ (fun hHeld => ?_)
      clear hK K
      refine oz_ 4 25 HT_ (fun K hK => ?_)
      refine goes_ Try.func18 (by kernel_rfl) rfl #[.agg #[.int .i64 ak, .int .i64 as_, .slice A2 ai.length c2, .slice A3 ao.length c3], .agg #[.int .i64 bk, .int .i64 bs, .slice B2 bi.length d2, .slice B3 bo.length d3]] (by rfl) rfl rfl ma_ ?_
      refine (merge_ap NX7.out NY7.out (blk_lt TT7.out) ak as_ bk bs (by have := HL.out; omega) (im := ([] : List S44)) (os := ([] : List S46)) 0 0 r HMR.out).mono ?_
      rintro e v17w ⟨XA, xc, YA, yc, rfl, hn, hb⟩
      refine ⟨_, rfl, ?_⟩
      have HX8 := Aside0.mk (HX7.out.next hb)
      have HY8 := Aside0.mk (HY7.out.next hb)
      have NX8 := Aside0.mk (NX7.out.below hb)
      have NY8 := Aside0.mk (NY7.out.below hb)
      have TT8 := Aside0.mk (blk_below TT7.out hb)
      clear hb HX7 HY7 NX7 NY7
      have NNew8 := Aside0.mk hn
      refine hK.out _ _ ⟨HX8.out.x0, HX8.out.x1, HX8.out.x2, HX8.out.x3, HY8.out.x0, HY8.out.x1, HY8.out.x2, HY8.out.x3⟩ (fun hHeld => ?_)
      clear hK K
      refine pz_ 5 20 HT_ ?_
      refine pz_ 6 26 HT_ ?_
      refine pz_ 7 27 HT_ ?_
      exact norm_ pu_ (JNN.out ((XA, xc), (YA, yc), bM) _ ⟨HX8, HY8, NX8, NY8, NNew8, TT8, LT⟩)
  case hcont =>
    rintro ⟨⟨XA, xc⟩, ⟨YA, yc⟩, bM⟩ w24 ⟨HX24, HY24, NX24, NY24, NNew, TT, LT⟩
    simp only at NNew TT LT
    refine norm_ (a' := ?_) ?_ ?_
    rotate_left
    · simp only [putAll, Act.put, List.setIfInBounds_toArray, List.set_cons_zero, List.set_cons_succ]; rfl
    clear HX4 HY4 NX4 NY4
    refine last_ (i := 9) (N := none) #[true, true, true, true, true, true, true, true, true, true, false] rfl rfl (one_of HT_.out (by kernel_rfl)) (by decide) (fun K hK => ?_)
    obtain ⟨z0, f0, z1, f1, z2, f2, z3, f3, k4⟩ := put4c (.int .i64 0) (.int .i64 0) (.slice XA 0 xc) (.slice YA 0 yc) TT.out
    have hge : w.heap.size ≤ bM := by have := HX24.out.ge; have := LT.out; omega
    have HX25 := Aside0.mk (B4.set (B4.set (B4.set (B4.set HX24.out (k := 0) (show b ≠ bM by have := LT.out; omega) hge (.int .i64 0)) (k := 1) (show b ≠ bM by have := LT.out; omega) hge (.int .i64 0)) (k := 2) (show b ≠ bM by have := LT.out; omega) hge (.slice XA 0 xc)) (k := 3) (show b ≠ bM by have := LT.out; omega) hge (.slice YA 0 yc))
    have HY25 := Aside0.mk (B4.set (B4.set (B4.set (B4.set HY24.out (k := 0) (show b + 1 ≠ bM by have := LT.out; omega) hge (.int .i64 0)) (k := 1) (show b + 1 ≠ bM by have := LT.out; omega) hge (.int .i64 0)) (k := 2) (show b + 1 ≠ bM by have := LT.out; omega) hge (.slice XA 0 xc)) (k := 3) (show b + 1 ≠ bM by have := LT.out; omega) hge (.slice YA 0 yc))
    have far : ∀ j, j ≠ bM → ((((w24.setCell ⟨bM, 0, none⟩ (.int .i64 0)).setCell ⟨bM, 1, none⟩ (.int .i64 0)).setCell ⟨bM, 2, none⟩ (.slice XA 0 xc)).setCell ⟨bM, 3, none⟩ (.slice YA 0 yc)).heap[j]? = w24.heap[j]? := fun j hj => far4 hj
    have NX25 := Aside0.mk (AP.far NX24.out far)
    have NY25 := Aside0.mk (AP.far NY24.out far)
    have NM25 := Aside0.mk (AP.far NNew.out far)
    have HM25 := Aside0.mk (show B4 w bM 27 (.int .i64 0) (.int .i64 0) (.slice XA 0 xc) (.slice YA 0 yc) ((((w24.setCell ⟨bM, 0, none⟩ (.int .i64 0)).setCell ⟨bM, 1, none⟩ (.int .i64 0)).setCell ⟨bM, 2, none⟩ (.slice XA 0 xc)).setCell ⟨bM, 3, none⟩ (.slice YA 0 yc)) from ⟨HX25.out.below, k4, hge⟩)
    clear k4 far hge TT LT NNew HX24 HY24 NX24 NY24
    refine skip_ (w1 := (((w24.setCell ⟨bM, 0, none⟩ (.int .i64 0)).setCell ⟨bM, 1, none⟩ (.int .i64 0)).setCell ⟨bM, 2, none⟩ (.slice XA 0 xc)).setCell ⟨bM, 3, none⟩ (.slice YA 0 yc)) (by rfl) rfl (by first | (go_simp; done) | (go_simp; rfl)) ?_
    refine hK.out _ _ ?_
    clear hK K z0 f0 z1 f1 z2 f2 z3 f3
    refine last_ (i := 10) (N := some 7) #[true, true, true, true, true, true, true, true, true, true, true] rfl rfl (one_of HT_.out (by kernel_rfl)) (by decide) (fun K hK => ?_)
    refine value_ (v := .int .i64 r) (w1 := (((w24.setCell ⟨bM, 0, none⟩ (.int .i64 0)).setCell ⟨bM, 1, none⟩ (.int .i64 0)).setCell ⟨bM, 2, none⟩ (.slice XA 0 xc)).setCell ⟨bM, 3, none⟩ (.slice YA 0 yc)) (by rfl) rfl (by first | (go_simp; done) | (go_simp; rfl)) ?_
    refine hK.out _ _ ?_
    clear hK K
    refine done_ (done_of HT_.out (by kernel_rfl)) ?_
    clear HT_ HW_ hHeld
    generalize (((w24.setCell ⟨bM, 0, none⟩ (.int .i64 0)).setCell ⟨bM, 1, none⟩ (.int .i64 0)).setCell ⟨bM, 2, none⟩ (.slice XA 0 xc)).setCell ⟨bM, 3, none⟩ (.slice YA 0 yc) = w25 at *
    have q1 : (r == 0) = false := by simpa using hr
    have q2 : (r != 0) = true := by simpa using hr
    have CS := Aside0.mk (fun W (h : NC W A2 c2 ai A3 c3 ao) => size_c h ak as_ (by have := HL.out; omega) (by have := HL.out; omega))
    have CT := Aside0.mk (fun W (h : NC W B2 d2 bi B3 d3 bo) => size_c h bk bs (by have := HL.out; omega) (by have := HL.out; omega))
    obtain ⟨sx, hsx⟩ : ∃ sx : Int, (if saneN ak as_ ai ao = true then 11 + 33 * (ai.length : Int) + 9 * (ao.length : Int) else 0) = sx := ⟨_, rfl⟩
    obtain ⟨sy, hsy⟩ : ∃ sy : Int, (if saneN bk bs bi bo = true then 11 + 33 * (bi.length : Int) + 9 * (bo.length : Int) else 0) = sy := ⟨_, rfl⟩
    simp only [hsx] at CS
    simp only [hsy] at CT
    clear hsx hsy hr
    have xX0 := HX25.out.x0; have xX1 := HX25.out.x1; have xX2 := HX25.out.x2; have xX3 := HX25.out.x3; have xY0 := HY25.out.x0; have xY1 := HY25.out.x1; have xY2 := HY25.out.x2; have xY3 := HY25.out.x3; have xM0 := HM25.out.x0; have xM1 := HM25.out.x1; have xM2 := HM25.out.x2; have xM3 := HM25.out.x3
    go_wp2_with (first | (go_at_call 16; refine (ours_c NX25.out.nc ak as_).mono ?_; rintro e w26 ⟨rfl, hb⟩; clear xX0 xX1 xX2 xX3 xY0 xY1 xY2 xY3 xM0 xM1 xM2 xM3 ; have HX26 := Aside0.mk (HX25.out.next hb); have HY26 := Aside0.mk (HY25.out.next hb); have HM26 := Aside0.mk (HM25.out.next hb); have NX26 := Aside0.mk (NX25.out.below hb); have NY26 := Aside0.mk (NY25.out.below hb); have NM26 := Aside0.mk (NM25.out.below hb); clear hb HX25 HY25 HM25 NX25 NY25 NM25; have xX0 := HX26.out.x0; have xX1 := HX26.out.x1; have xX2 := HX26.out.x2; have xX3 := HX26.out.x3; have xY0 := HY26.out.x0; have xY1 := HY26.out.x1; have xY2 := HY26.out.x2; have xY3 := HY26.out.x3; have xM0 := HM26.out.x0; have xM1 := HM26.out.x1; have xM2 := HM26.out.x2; have xM3 := HM26.out.x3) | (go_at_call 17; refine (CS.out _ NX26.out.nc).mono ?_; rintro e w27 ⟨rfl, hb⟩; clear xX0 xX1 xX2 xX3 xY0 xY1 xY2 xY3 xM0 xM1 xM2 xM3 CS; have HX27 := Aside0.mk (HX26.out.next hb); have HY27 := Aside0.mk (HY26.out.next hb); have HM27 := Aside0.mk (HM26.out.next hb); have NX27 := Aside0.mk (NX26.out.below hb); have NY27 := Aside0.mk (NY26.out.below hb); have NM27 := Aside0.mk (NM26.out.below hb); clear hb HX26 HY26 HM26 NX26 NY26 NM26; have xX0 := HX27.out.x0; have xX1 := HX27.out.x1; have xX2 := HX27.out.x2; have xX3 := HX27.out.x3; have xY0 := HY27.out.x0; have xY1 := HY27.out.x1; have xY2 := HY27.out.x2; have xY3 := HY27.out.x3; have xM0 := HM27.out.x0; have xM1 := HM27.out.x1; have xM2 := HM27.out.x2; have xM3 := HM27.out.x3) | (go_at_call 16; refine (ours_c NY27.out.nc bk bs).mono ?_; rintro e w28 ⟨rfl, hb⟩; clear xX0 xX1 xX2 xX3 xY0 xY1 xY2 xY3 xM0 xM1 xM2 xM3 ; have HX28 := Aside0.mk (HX27.out.next hb); have HY28 := Aside0.mk (HY27.out.next hb); have HM28 := Aside0.mk (HM27.out.next hb); have NX28 := Aside0.mk (NX27.out.below hb); have NY28 := Aside0.mk (NY27.out.below hb); have NM28 := Aside0.mk (NM27.out.below hb); clear hb HX27 HY27 HM27 NX27 NY27 NM27; have xX0 := HX28.out.x0; have xX1 := HX28.out.x1; have xX2 := HX28.out.x2; have xX3 := HX28.out.x3; have xY0 := HY28.out.x0; have xY1 := HY28.out.x1; have xY2 := HY28.out.x2; have xY3 := HY28.out.x3; have xM0 := HM28.out.x0; have xM1 := HM28.out.x1; have xM2 := HM28.out.x2; have xM3 := HM28.out.x3) | (go_at_call 17; refine (CT.out _ NY28.out.nc).mono ?_; rintro e w29 ⟨rfl, hb⟩; clear xX0 xX1 xX2 xX3 xY0 xY1 xY2 xY3 xM0 xM1 xM2 xM3 CT; have HX29 := Aside0.mk (HX28.out.next hb); have HY29 := Aside0.mk (HY28.out.next hb); have HM29 := Aside0.mk (HM28.out.next hb); have NX29 := Aside0.mk (NX28.out.below hb); have NY29 := Aside0.mk (NY28.out.below hb); have NM29 := Aside0.mk (NM28.out.below hb); clear hb HX28 HY28 HM28 NX28 NY28 NM28; have xX0 := HX29.out.x0; have xX1 := HX29.out.x1; have xX2 := HX29.out.x2; have xX3 := HX29.out.x3; have xY0 := HY29.out.x0; have xY1 := HY29.out.x1; have xY2 := HY29.out.x2; have xY3 := HY29.out.x3; have xM0 := HM29.out.x0; have xM1 := HM29.out.x1; have xM2 := HM29.out.x2; have xM3 := HM29.out.x3))
    go_ret
    exact ⟨rfl, HX29.out.below⟩
set_option maxRecDepth 100000 in
set_option maxHeartbeats 6400000 in
theorem sizes_ok (hna : NC w A2 c2 ai A3 c3 ao) (hnb : NC w B2 d2 bi B3 d3 bo) (hf : fewB 100 ai ao = true) (hg : fewB 100 bi bo = true) (im : List S44) (os : List S46) (hm : mergeR ak as_ ai ao bk bs bi bo = (1, bs, im, os, 0)) (hs : saneN ak as_ ai ao = true) (ht : saneN bk bs bi bo = true) (hu0 : saneN 1 bs im os = true) (hz : ai.length ≤ im.length ∧ bi.length ≤ im.length ∧ im.length ≤ ai.length + bi.length ∧ os.length = ao.length + bo.length) : SizesOk ak as_ A2 c2 ai A3 c3 ao bk bs B2 d2 bi B3 d3 bo w := by
  have hfa := few_parts hf
  have hfb := few_parts hg
  have HL := Aside0.mk (show ai.length ≤ 100 ∧ ao.length ≤ 100 ∧ bi.length ≤ 100 ∧ bo.length ≤ 100 by omega)
  clear hfa hfb
  have HMR := Aside0.mk hm
  clear hm
  have HSZ := Aside0.mk hz
  clear hz
  obtain ⟨w0, hw0⟩ : ∃ w0, (w.alloc (.cells #[.int .i64 ak, .int .i64 as_, .slice A2 ai.length c2, .slice A3 ao.length c3] 32)).alloc (.cells #[.int .i64 bk, .int .i64 bs, .slice B2 bi.length d2, .slice B3 bo.length d3] 32) = w0 := ⟨_, rfl⟩
  obtain ⟨hX, hY⟩ := boxes2 w 32 _ _ _ _ _ _ _ _ w0 hw0
  have NX0 := Aside0.mk (hna.nf.below hX.below)
  have NY0 := Aside0.mk (hnb.nf.below hX.below)
  have hu := Try.underlying32
  have hu2 := Try.underlying27
  unfold SizesOk
  obtain ⟨b, hb⟩ : ∃ b, w.heap.size = b := ⟨_, rfl⟩
  rw [hb] at hX hY
  have HX0 := Aside0.mk hX
  have HY0 := Aside0.mk hY
  clear hX hY hna hnb
  go_enter Try.func8, Try.ntmps8
  go_upto_region 1 with (fail)
  (try rw [hw0])
  clear hw0 hb
  have C9 := Aside0.mk (fun W => awake_c W)
  have FA := Aside0.mk (fun W (h : NC W A2 c2 ai A3 c3 ao) => few_c h ak as_ 100 (by omega))
  have FB := Aside0.mk (fun W (h : NC W B2 d2 bi B3 d3 bo) => few_c h bk bs 100 (by omega))
  simp only [hf, hg] at FA FB
  clear hf  hg
  have xX0 := HX0.out.x0; have xX1 := HX0.out.x1; have xX2 := HX0.out.x2; have xX3 := HX0.out.x3; have xY0 := HY0.out.x0; have xY1 := HY0.out.x1; have xY2 := HY0.out.x2; have xY3 := HY0.out.x3
  go_upto_region 4 with (first | (go_at_call 9; refine (C9.out _).mono ?_; rintro e w1 ⟨rfl, hb⟩; clear xX0 xX1 xX2 xX3 xY0 xY1 xY2 xY3 C9; have HX1 := Aside0.mk (HX0.out.next hb); have HY1 := Aside0.mk (HY0.out.next hb); have NX1 := Aside0.mk (NX0.out.below hb); have NY1 := Aside0.mk (NY0.out.below hb); clear hb HX0 HY0 NX0 NY0; have xX0 := HX1.out.x0; have xX1 := HX1.out.x1; have xX2 := HX1.out.x2; have xX3 := HX1.out.x3; have xY0 := HY1.out.x0; have xY1 := HY1.out.x1; have xY2 := HY1.out.x2; have xY3 := HY1.out.x3) | (go_at_call 15; refine (FA.out _ NX1.out.nc).mono ?_; rintro e w2 ⟨rfl, hb⟩; clear xX0 xX1 xX2 xX3 xY0 xY1 xY2 xY3 FA; have HX2 := Aside0.mk (HX1.out.next hb); have HY2 := Aside0.mk (HY1.out.next hb); have NX2 := Aside0.mk (NX1.out.below hb); have NY2 := Aside0.mk (NY1.out.below hb); clear hb HX1 HY1 NX1 NY1; have xX0 := HX2.out.x0; have xX1 := HX2.out.x1; have xX2 := HX2.out.x2; have xX3 := HX2.out.x3; have xY0 := HY2.out.x0; have xY1 := HY2.out.x1; have xY2 := HY2.out.x2; have xY3 := HY2.out.x3) | (go_at_call 15; refine (FB.out _ NY2.out.nc).mono ?_; rintro e w3 ⟨rfl, hb⟩; clear xX0 xX1 xX2 xX3 xY0 xY1 xY2 xY3 FB; have HX3 := Aside0.mk (HX2.out.next hb); have HY3 := Aside0.mk (HY2.out.next hb); have NX3 := Aside0.mk (NX2.out.below hb); have NY3 := Aside0.mk (NY2.out.below hb); clear hb HX2 HY2 NX2 NY2; have xX0 := HX3.out.x0; have xX1 := HX3.out.x1; have xX2 := HX3.out.x2; have xX3 := HX3.out.x3; have xY0 := HY3.out.x0; have xY1 := HY3.out.x1; have xY2 := HY3.out.x2; have xY3 := HY3.out.x3))
  have hb : Below w3.heap.size w3 w3.drew := (Below.refl _ _).drew
  clear xX0 xX1 xX2 xX3 xY0 xY1 xY2 xY3
  have HX4 := Aside0.mk (HX3.out.next hb)
  have HY4 := Aside0.mk (HY3.out.next hb)
  have NX4 := Aside0.mk (NX3.out.below hb)
  have NY4 := Aside0.mk (NY3.out.below hb)
  clear hb HX3 HY3 NX3 NY3
  refine start_ (n := 11) (S := fun w' => w'.cell? ⟨b, 0, none⟩ = some (.int .i64 ak) ∧ w'.cell? ⟨b, 1, none⟩ = some (.int .i64 as_) ∧ w'.cell? ⟨b, 2, none⟩ = some (.slice A2 ai.length c2) ∧ w'.cell? ⟨b, 3, none⟩ = some (.slice A3 ao.length c3) ∧ w'.cell? ⟨b + 1, 0, none⟩ = some (.int .i64 bk) ∧ w'.cell? ⟨b + 1, 1, none⟩ = some (.int .i64 bs) ∧ w'.cell? ⟨b + 1, 2, none⟩ = some (.slice B2 bi.length d2) ∧ w'.cell? ⟨b + 1, 3, none⟩ = some (.slice B3 bo.length d3)) (ds := [9, 10]) #[false, false, false, false, false, false, false, false, false, false, false] rfl rfl rfl ⟨HX4.out.x0, HX4.out.x1, HX4.out.x2, HX4.out.x3, HY4.out.x0, HY4.out.x1, HY4.out.x2, HY4.out.x3⟩ (fun hHeld => ?_)
  refine with_tabW regS4.tab regS4.bits (fun HT_ HW_ => ?_)
  generalize w3.drew = w4 at *
  clear w3
  refine tz_ 0 21 HT_ HW_ hHeld ?_
  refine tz_ 2 23 HT_ HW_ hHeld ?_
  refine join_ (σ := (Option Addr × Nat) × (Option Addr × Nat) × Nat) 2 #[true, true, true, true, true, true, true, true, true, false, false] (fun q => [(22, .agg #[.int .i64 ak, .int .i64 as_, .slice A2 ai.length c2, .slice A3 ao.length c3]), (24, .agg #[.int .i64 bk, .int .i64 bs, .slice B2 bi.length d2, .slice B3 bo.length d3]), (25, .tuple #[.agg #[.int .i64 1, .int .i64 bs, .slice q.1.1 im.length q.1.2, .slice q.2.1.1 os.length q.2.1.2], .int .i64 0]), (20, .tuple #[.agg #[.int .i64 1, .int .i64 bs, .slice q.1.1 im.length q.1.2, .slice q.2.1.1 os.length q.2.1.2], .int .i64 0]), (26, .agg #[.int .i64 1, .int .i64 bs, .slice q.1.1 im.length q.1.2, .slice q.2.1.1 os.length q.2.1.2]), (27, .int .i64 0), (6, .pointer (some ⟨q.2.2, 0, none⟩))]) (fun q w' => Aside0 (B4 w (b) 32 (.int .i64 ak) (.int .i64 as_) (.slice A2 ai.length c2) (.slice A3 ao.length c3) w') ∧ Aside0 (B4 w (b + 1) 32 (.int .i64 bk) (.int .i64 bs) (.slice B2 bi.length d2) (.slice B3 bo.length d3) w') ∧ Aside0 (AP q.2.2 w' A2 c2 ai A3 c3 ao) ∧ Aside0 (AP q.2.2 w' B2 d2 bi B3 d3 bo) ∧ Aside0 (AP q.2.2 w' q.1.1 q.1.2 im q.2.1.1 q.2.1.2 os) ∧ Aside0 (w'.heap[q.2.2]? = some (.cells #[.int .i64 0, .int .i64 0, .slice none 0 0, .slice none 0 0] 27 (0, 0))) ∧ Aside0 (b < q.2.2 ∧ b + 1 < q.2.2)) ?hcont ?hord
  case hord =>
    intro JN
    have JNN := Aside0.mk JN
    clear JN
    refine two_ (i := 1) (j := 8) (Ni := some 22) (Nj := some 6) #[true, true, true, false, false, false, false, false, false, false, false] #[true, false, true, false, false, false, false, false, true, false, false] rfl rfl rfl rfl (two_of HT_.out (by kernel_rfl)) (by decide) (by decide) (fun K hK => ?_) (fun K hK => ?_)
    · refine goes_ Try.func16 (by kernel_rfl) rfl #[.agg #[.int .i64 ak, .int .i64 as_, .slice A2 ai.length c2, .slice A3 ao.length c3]] (by rfl) rfl rfl ma_ ?_
      refine (ours_c NX4.out.nc ak as_).mono ?_
      rintro e v5w ⟨rfl, hb⟩
      refine ⟨_, rfl, ?_⟩
      have HX5 := Aside0.mk (HX4.out.next hb)
      have HY5 := Aside0.mk (HY4.out.next hb)
      have NX5 := Aside0.mk (NX4.out.below hb)
      have NY5 := Aside0.mk (NY4.out.below hb)
      clear hb HX4 HY4 NX4 NY4
      refine hK.out _ _ ⟨HX5.out.x0, HX5.out.x1, HX5.out.x2, HX5.out.x3, HY5.out.x0, HY5.out.x1, HY5.out.x2, HY5.out.x3⟩ (fun hHeld => ?_)
      clear hK K
      refine two_ (i := 3) (j := 8) (Ni := some 24) (Nj := some 6) #[true, true, true, true, false, false, false, false, false, false, false] #[true, true, true, false, false, false, false, false, true, false, false] rfl rfl rfl rfl (two_of HT_.out (by kernel_rfl)) (by decide) (by decide) (fun K hK => ?_) (fun K hK => ?_)
      · refine goes_ Try.func16 (by kernel_rfl) rfl #[.agg #[.int .i64 bk, .int .i64 bs, .slice B2 bi.length d2, .slice B3 bo.length d3]] (by rfl) rfl rfl ma_ ?_
        refine (ours_c NY5.out.nc bk bs).mono ?_
        rintro e v6w ⟨rfl, hb⟩
        refine ⟨_, rfl, ?_⟩
        have HX6 := Aside0.mk (HX5.out.next hb)
        have HY6 := Aside0.mk (HY5.out.next hb)
        have NX6 := Aside0.mk (NX5.out.below hb)
        have NY6 := Aside0.mk (NY5.out.below hb)
        clear hb HX5 HY5 NX5 NY5
        refine hK.out _ _ ⟨HX6.out.x0, HX6.out.x1, HX6.out.x2, HX6.out.x3, HY6.out.x0, HY6.out.x1, HY6.out.x2, HY6.out.x3⟩ (fun hHeld => ?_)
        clear hK K
        refine two_ (i := 4) (j := 8) (Ni := some 25) (Nj := some 6) #[true, true, true, true, true, false, false, false, false, false, false] #[true, true, true, true, false, false, false, false, true, false, false] rfl rfl rfl rfl (two_of HT_.out (by kernel_rfl)) (by decide) (by decide) (fun K hK => ?_) (fun K hK => ?_)
        · refine goes_ Try.func18 (by kernel_rfl) rfl #[.agg #[.int .i64 ak, .int .i64 as_, .slice A2 ai.length c2, .slice A3 ao.length c3], .agg #[.int .i64 bk, .int .i64 bs, .slice B2 bi.length d2, .slice B3 bo.length d3]] (by rfl) rfl rfl ma_ ?_
          refine (merge_nf NX6.out NY6.out ak as_ bk bs (by have := HL.out; omega) (im := im) (os := os) 1 bs 0 HMR.out).mono ?_
          rintro e v7w ⟨XA, xc, YA, yc, rfl, hn, hb⟩
          refine ⟨_, rfl, ?_⟩
          have HX7 := Aside0.mk (HX6.out.next hb)
          have HY7 := Aside0.mk (HY6.out.next hb)
          have NX7 := Aside0.mk (NX6.out.below hb)
          have NY7 := Aside0.mk (NY6.out.below hb)
          clear hb HX6 HY6 NX6 NY6
          have NNew7 := Aside0.mk hn
          refine hK.out _ _ ⟨HX7.out.x0, HX7.out.x1, HX7.out.x2, HX7.out.x3, HY7.out.x0, HY7.out.x1, HY7.out.x2, HY7.out.x3⟩ (fun hHeld => ?_)
          clear hK K
          refine pz_ 5 20 HT_ ?_
          refine pz_ 6 26 HT_ ?_
          refine pz_ 7 27 HT_ ?_
          refine oz_ 8 6 HT_ (fun K hK => ?_)
          refine value_ (by rfl) rfl (v := .pointer (some ⟨v7w.heap.size, 0, none⟩)) (w1 := v7w.alloc (.cells #[.int .i64 0, .int .i64 0, .slice none 0 0, .slice none 0 0] 27)) (by first | (go_simp; done) | (go_simp; rfl)) ?_
          have hb : Below v7w.heap.size v7w (v7w.alloc (.cells #[.int .i64 0, .int .i64 0, .slice none 0 0, .slice none 0 0] 27)) := (Below.refl _ _).alloc (Nat.le_refl _) _
          have hx := blk_new v7w (.cells #[.int .i64 0, .int .i64 0, .slice none 0 0, .slice none 0 0] 27)
          have hl0 := blk_lt HX7.out.at_
          have hl1 := blk_lt HY7.out.at_
          obtain ⟨bM, hbM⟩ : ∃ bM, v7w.heap.size = bM := ⟨_, rfl⟩
          rw [hbM] at hx hl0 hl1
          rw [hbM]
          have hle := Nat.le_of_eq hbM
          clear hbM
          generalize v7w.alloc (.cells #[.int .i64 0, .int .i64 0, .slice none 0 0, .slice none 0 0] 27) = v8w at *
          have LT := Aside0.mk (show b < bM ∧ b + 1 < bM from ⟨hl0, hl1⟩)
          clear hl0 hl1
          have HX8 := Aside0.mk (HX7.out.next hb)
          have HY8 := Aside0.mk (HY7.out.next hb)
          have NX8 := Aside0.mk ((NF.ap NX7.out (b := bM) hle).below hb)
          have NY8 := Aside0.mk ((NF.ap NY7.out (b := bM) hle).below hb)
          have NNew8 := Aside0.mk ((NF.ap NNew7.out (b := bM) hle).below hb)
          clear hb HX7 HY7 NX7 NY7 hle
          have TT8 := Aside0.mk hx
          refine hK.out _ _ ⟨HX8.out.x0, HX8.out.x1, HX8.out.x2, HX8.out.x3, HY8.out.x0, HY8.out.x1, HY8.out.x2, HY8.out.x3⟩ (fun hHeld => ?_)
          clear hK K
          exact norm_ pu_ (JNN.out ((XA, xc), (YA, yc), bM) _ ⟨HX8, HY8, NX8, NY8, NNew8, TT8, LT⟩)
        · refine value_ (by rfl) rfl (v := .pointer (some ⟨v6w.heap.size, 0, none⟩)) (w1 := v6w.alloc (.cells #[.int .i64 0, .int .i64 0, .slice none 0 0, .slice none 0 0] 27)) (by first | (go_simp; done) | (go_simp; rfl)) ?_
          have hb : Below v6w.heap.size v6w (v6w.alloc (.cells #[.int .i64 0, .int .i64 0, .slice none 0 0, .slice none 0 0] 27)) := (Below.refl _ _).alloc (Nat.le_refl _) _
          have hx := blk_new v6w (.cells #[.int .i64 0, .int .i64 0, .slice none 0 0, .slice none 0 0] 27)
          have hl0 := blk_lt HX6.out.at_
          have hl1 := blk_lt HY6.out.at_
          obtain ⟨bM, hbM⟩ : ∃ bM, v6w.heap.size = bM := ⟨_, rfl⟩
          rw [hbM] at hx hl0 hl1
          rw [hbM]
          have hle := Nat.le_of_eq hbM
          clear hbM
          generalize v6w.alloc (.cells #[.int .i64 0, .int .i64 0, .slice none 0 0, .slice none 0 0] 27) = v9w at *
          have LT := Aside0.mk (show b < bM ∧ b + 1 < bM from ⟨hl0, hl1⟩)
          clear hl0 hl1
          have HX7 := Aside0.mk (HX6.out.next hb)
          have HY7 := Aside0.mk (HY6.out.next hb)
          have NX7 := Aside0.mk ((NF.ap NX6.out (b := bM) hle).below hb)
          have NY7 := Aside0.mk ((NF.ap NY6.out (b := bM) hle).below hb)
          clear hb HX6 HY6 NX6 NY6 hle
          have TT7 := Aside0.mk hx
          refine hK.out _ _ ⟨HX7.out.x0, HX7.out.x1, HX7.out.x2, HX7.out.x3, HY7.out.x0, HY7.out.x1, HY7.out.x2, HY7.out.x3⟩ (fun hHeld => ?_)
          clear hK K
          refine oz_ 4 25 HT_ (fun K hK => ?_)
          refine goes_ Try.func18 (by kernel_rfl) rfl #[.agg #[.int .i64 ak, .int .i64 as_, .slice A2 ai.length c2, .slice A3 ao.length c3], .agg #[.int .i64 bk, .int .i64 bs, .slice B2 bi.length d2, .slice B3 bo.length d3]] (by rfl) rfl rfl ma_ ?_
          refine (merge_ap NX7.out NY7.out (blk_lt TT7.out) ak as_ bk bs (by have := HL.out; omega) (im := im) (os := os) 1 bs 0 HMR.out).mono ?_
          rintro e v10w ⟨XA, xc, YA, yc, rfl, hn, hb⟩
          refine ⟨_, rfl, ?_⟩
          have HX8 := Aside0.mk (HX7.out.next hb)
          have HY8 := Aside0.mk (HY7.out.next hb)
          have NX8 := Aside0.mk (NX7.out.below hb)
          have NY8 := Aside0.mk (NY7.out.below hb)
          have TT8 := Aside0.mk (blk_below TT7.out hb)
          clear hb HX7 HY7 NX7 NY7
          have NNew8 := Aside0.mk hn
          refine hK.out _ _ ⟨HX8.out.x0, HX8.out.x1, HX8.out.x2, HX8.out.x3, HY8.out.x0, HY8.out.x1, HY8.out.x2, HY8.out.x3⟩ (fun hHeld => ?_)
          clear hK K
          refine pz_ 5 20 HT_ ?_
          refine pz_ 6 26 HT_ ?_
          refine pz_ 7 27 HT_ ?_
          exact norm_ pu_ (JNN.out ((XA, xc), (YA, yc), bM) _ ⟨HX8, HY8, NX8, NY8, NNew8, TT8, LT⟩)
      · refine value_ (by rfl) rfl (v := .pointer (some ⟨v5w.heap.size, 0, none⟩)) (w1 := v5w.alloc (.cells #[.int .i64 0, .int .i64 0, .slice none 0 0, .slice none 0 0] 27)) (by first | (go_simp; done) | (go_simp; rfl)) ?_
        have hb : Below v5w.heap.size v5w (v5w.alloc (.cells #[.int .i64 0, .int .i64 0, .slice none 0 0, .slice none 0 0] 27)) := (Below.refl _ _).alloc (Nat.le_refl _) _
        have hx := blk_new v5w (.cells #[.int .i64 0, .int .i64 0, .slice none 0 0, .slice none 0 0] 27)
        have hl0 := blk_lt HX5.out.at_
        have hl1 := blk_lt HY5.out.at_
        obtain ⟨bM, hbM⟩ : ∃ bM, v5w.heap.size = bM := ⟨_, rfl⟩
        rw [hbM] at hx hl0 hl1
        rw [hbM]
        have hle := Nat.le_of_eq hbM
        clear hbM
        generalize v5w.alloc (.cells #[.int .i64 0, .int .i64 0, .slice none 0 0, .slice none 0 0] 27) = v11w at *
        have LT := Aside0.mk (show b < bM ∧ b + 1 < bM from ⟨hl0, hl1⟩)
        clear hl0 hl1
        have HX6 := Aside0.mk (HX5.out.next hb)
        have HY6 := Aside0.mk (HY5.out.next hb)
        have NX6 := Aside0.mk ((NF.ap NX5.out (b := bM) hle).below hb)
        have NY6 := Aside0.mk ((NF.ap NY5.out (b := bM) hle).below hb)
        clear hb HX5 HY5 NX5 NY5 hle
        have TT6 := Aside0.mk hx
        refine hK.out _ _ ⟨HX6.out.x0, HX6.out.x1, HX6.out.x2, HX6.out.x3, HY6.out.x0, HY6.out.x1, HY6.out.x2, HY6.out.x3⟩ (fun hHeld => ?_)
        clear hK K
        refine oz_ 3 24 HT_ (fun K hK => ?_)
        refine goes_ Try.func16 (by kernel_rfl) rfl #[.agg #[.int .i64 bk, .int .i64 bs, .slice B2 bi.length d2, .slice B3 bo.length d3]] (by rfl) rfl rfl ma_ ?_
        refine (ours_c NY6.out.nc bk bs).mono ?_
        rintro e v12w ⟨rfl, hb⟩
        refine ⟨_, rfl, ?_⟩
        have HX7 := Aside0.mk (HX6.out.next hb)
        have HY7 := Aside0.mk (HY6.out.next hb)
        have NX7 := Aside0.mk (NX6.out.below hb)
        have NY7 := Aside0.mk (NY6.out.below hb)
        have TT7 := Aside0.mk (blk_below TT6.out hb)
        clear hb HX6 HY6 NX6 NY6
        refine hK.out _ _ ⟨HX7.out.x0, HX7.out.x1, HX7.out.x2, HX7.out.x3, HY7.out.x0, HY7.out.x1, HY7.out.x2, HY7.out.x3⟩ (fun hHeld => ?_)
        clear hK K
        refine oz_ 4 25 HT_ (fun K hK => ?_)
        refine goes_ Try.func18 (by kernel_rfl) rfl #[.agg #[.int .i64 ak, .int .i64 as_, .slice A2 ai.length c2, .slice A3 ao.length c3], .agg #[.int .i64 bk, .int .i64 bs, .slice B2 bi.length d2, .slice B3 bo.length d3]] (by rfl) rfl rfl ma_ ?_
        refine (merge_ap NX7.out NY7.out (blk_lt TT7.out) ak as_ bk bs (by have := HL.out; omega) (im := im) (os := os) 1 bs 0 HMR.out).mono ?_
        rintro e v13w ⟨XA, xc, YA, yc, rfl, hn, hb⟩
        refine ⟨_, rfl, ?_⟩
        have HX8 := Aside0.mk (HX7.out.next hb)
        have HY8 := Aside0.mk (HY7.out.next hb)
        have NX8 := Aside0.mk (NX7.out.below hb)
        have NY8 := Aside0.mk (NY7.out.below hb)
        have TT8 := Aside0.mk (blk_below TT7.out hb)
        clear hb HX7 HY7 NX7 NY7
        have NNew8 := Aside0.mk hn
        refine hK.out _ _ ⟨HX8.out.x0, HX8.out.x1, HX8.out.x2, HX8.out.x3, HY8.out.x0, HY8.out.x1, HY8.out.x2, HY8.out.x3⟩ (fun hHeld => ?_)
        clear hK K
        refine pz_ 5 20 HT_ ?_
        refine pz_ 6 26 HT_ ?_
        refine pz_ 7 27 HT_ ?_
        exact norm_ pu_ (JNN.out ((XA, xc), (YA, yc), bM) _ ⟨HX8, HY8, NX8, NY8, NNew8, TT8, LT⟩)
    · refine value_ (by rfl) rfl (v := .pointer (some ⟨w4.heap.size, 0, none⟩)) (w1 := w4.alloc (.cells #[.int .i64 0, .int .i64 0, .slice none 0 0, .slice none 0 0] 27)) (by first | (go_simp; done) | (go_simp; rfl)) ?_
      have hb : Below w4.heap.size w4 (w4.alloc (.cells #[.int .i64 0, .int .i64 0, .slice none 0 0, .slice none 0 0] 27)) := (Below.refl _ _).alloc (Nat.le_refl _) _
      have hx := blk_new w4 (.cells #[.int .i64 0, .int .i64 0, .slice none 0 0, .slice none 0 0] 27)
      have hl0 := blk_lt HX4.out.at_
      have hl1 := blk_lt HY4.out.at_
      obtain ⟨bM, hbM⟩ : ∃ bM, w4.heap.size = bM := ⟨_, rfl⟩
      rw [hbM] at hx hl0 hl1
      rw [hbM]
      have hle := Nat.le_of_eq hbM
      clear hbM
      generalize w4.alloc (.cells #[.int .i64 0, .int .i64 0, .slice none 0 0, .slice none 0 0] 27) = v14w at *
      have LT := Aside0.mk (show b < bM ∧ b + 1 < bM from ⟨hl0, hl1⟩)
      clear hl0 hl1
      have HX5 := Aside0.mk (HX4.out.next hb)
      have HY5 := Aside0.mk (HY4.out.next hb)
      have NX5 := Aside0.mk ((NF.ap NX4.out (b := bM) hle).below hb)
      have NY5 := Aside0.mk ((NF.ap NY4.out (b := bM) hle).below hb)
      clear hb HX4 HY4 NX4 NY4 hle
      have TT5 := Aside0.mk hx
      refine hK.out _ _ ⟨HX5.out.x0, HX5.out.x1, HX5.out.x2, HX5.out.x3, HY5.out.x0, HY5.out.x1, HY5.out.x2, HY5.out.x3⟩ (fun hHeld => ?_)
      clear hK K
      refine oz_ 1 22 HT_ (fun K hK => ?_)
      refine goes_ Try.func16 (by kernel_rfl) rfl #[.agg #[.int .i64 ak, .int .i64 as_, .slice A2 ai.length c2, .slice A3 ao.length c3]] (by rfl) rfl rfl ma_ ?_
      refine (ours_c NX5.out.nc ak as_).mono ?_
      rintro e v15w ⟨rfl, hb⟩
      refine ⟨_, rfl, ?_⟩
      have HX6 := Aside0.mk (HX5.out.next hb)
      have HY6 := Aside0.mk (HY5.out.next hb)
      have NX6 := Aside0.mk (NX5.out.below hb)
      have NY6 := Aside0.mk (NY5.out.below hb)
      have TT6 := Aside0.mk (blk_below TT5.out hb)
      clear hb HX5 HY5 NX5 NY5
      refine hK.out _ _ ⟨HX6.out.x0, HX6.out.x1, HX6.out.x2, HX6.out.x3, HY6.out.x0, HY6.out.x1, HY6.out.x2, HY6.out.x3⟩ (fun hHeld => ?_)
      clear hK K
      refine oz_ 3 24 HT_ (fun K hK => ?_)
      refine goes_ Try.func16 (by kernel_rfl) rfl #[.agg #[.int .i64 bk, .int .i64 bs, .slice B2 bi.length d2, .slice B3 bo.length d3]] (by rfl) rfl rfl ma_ ?_
      refine (ours_c NY6.out.nc bk bs).mono ?_
      rintro e v16w ⟨rfl, hb⟩
      refine ⟨_, rfl, ?_⟩
      have HX7 := Aside0.mk (HX6.out.next hb)
      have HY7 := Aside0.mk (HY6.out.next hb)
      have NX7 := Aside0.mk (NX6.out.below hb)
      have NY7 := Aside0.mk (NY6.out.below hb)
      have TT7 := Aside0.mk (blk_below TT6.out hb)
      clear hb HX6 HY6 NX6 NY6
      refine hK.out _ _ ⟨HX7.out.x0, HX7.out.x1, HX7.out.x2, HX7.out.x3, HY7.out.x0, HY7.out.x1, HY7.out.x2, HY7.out.x3⟩ (fun hHeld => ?_)
      clear hK K
      refine oz_ 4 25 HT_ (fun K hK => ?_)
      refine goes_ Try.func18 (by kernel_rfl) rfl #[.agg #[.int .i64 ak, .int .i64 as_, .slice A2 ai.length c2, .slice A3 ao.length c3], .agg #[.int .i64 bk, .int .i64 bs, .slice B2 bi.length d2, .slice B3 bo.length d3]] (by rfl) rfl rfl ma_ ?_
      refine (merge_ap NX7.out NY7.out (blk_lt TT7.out) ak as_ bk bs (by have := HL.out; omega) (im := im) (os := os) 1 bs 0 HMR.out).mono ?_
      rintro e v17w ⟨XA, xc, YA, yc, rfl, hn, hb⟩
      refine ⟨_, rfl, ?_⟩
      have HX8 := Aside0.mk (HX7.out.next hb)
      have HY8 := Aside0.mk (HY7.out.next hb)
      have NX8 := Aside0.mk (NX7.out.below hb)
      have NY8 := Aside0.mk (NY7.out.below hb)
      have TT8 := Aside0.mk (blk_below TT7.out hb)
      clear hb HX7 HY7 NX7 NY7
      have NNew8 := Aside0.mk hn
      refine hK.out _ _ ⟨HX8.out.x0, HX8.out.x1, HX8.out.x2, HX8.out.x3, HY8.out.x0, HY8.out.x1, HY8.out.x2, HY8.out.x3⟩ (fun hHeld => ?_)
      clear hK K
      refine pz_ 5 20 HT_ ?_
      refine pz_ 6 26 HT_ ?_
      refine pz_ 7 27 HT_ ?_
      exact norm_ pu_ (JNN.out ((XA, xc), (YA, yc), bM) _ ⟨HX8, HY8, NX8, NY8, NNew8, TT8, LT⟩)
  case hcont =>
    rintro ⟨⟨XA, xc⟩, ⟨YA, yc⟩, bM⟩ w24 ⟨HX24, HY24, NX24, NY24, NNew, TT, LT⟩
    simp only at NNew TT LT
    refine norm_ (a' := ?_) ?_ ?_
    rotate_left
    · simp only [putAll, Act.put, List.setIfInBounds_toArray, List.set_cons_zero, List.set_cons_succ]; rfl
    clear HX4 HY4 NX4 NY4
    refine last_ (i := 9) (N := none) #[true, true, true, true, true, true, true, true, true, true, false] rfl rfl (one_of HT_.out (by kernel_rfl)) (by decide) (fun K hK => ?_)
    obtain ⟨z0, f0, z1, f1, z2, f2, z3, f3, k4⟩ := put4c (.int .i64 1) (.int .i64 bs) (.slice XA im.length xc) (.slice YA os.length yc) TT.out
    have hge : w.heap.size ≤ bM := by have := HX24.out.ge; have := LT.out; omega
    have HX25 := Aside0.mk (B4.set (B4.set (B4.set (B4.set HX24.out (k := 0) (show b ≠ bM by have := LT.out; omega) hge (.int .i64 1)) (k := 1) (show b ≠ bM by have := LT.out; omega) hge (.int .i64 bs)) (k := 2) (show b ≠ bM by have := LT.out; omega) hge (.slice XA im.length xc)) (k := 3) (show b ≠ bM by have := LT.out; omega) hge (.slice YA os.length yc))
    have HY25 := Aside0.mk (B4.set (B4.set (B4.set (B4.set HY24.out (k := 0) (show b + 1 ≠ bM by have := LT.out; omega) hge (.int .i64 1)) (k := 1) (show b + 1 ≠ bM by have := LT.out; omega) hge (.int .i64 bs)) (k := 2) (show b + 1 ≠ bM by have := LT.out; omega) hge (.slice XA im.length xc)) (k := 3) (show b + 1 ≠ bM by have := LT.out; omega) hge (.slice YA os.length yc))
    have far : ∀ j, j ≠ bM → ((((w24.setCell ⟨bM, 0, none⟩ (.int .i64 1)).setCell ⟨bM, 1, none⟩ (.int .i64 bs)).setCell ⟨bM, 2, none⟩ (.slice XA im.length xc)).setCell ⟨bM, 3, none⟩ (.slice YA os.length yc)).heap[j]? = w24.heap[j]? := fun j hj => far4 hj
    have NX25 := Aside0.mk (AP.far NX24.out far)
    have NY25 := Aside0.mk (AP.far NY24.out far)
    have NM25 := Aside0.mk (AP.far NNew.out far)
    have HM25 := Aside0.mk (show B4 w bM 27 (.int .i64 1) (.int .i64 bs) (.slice XA im.length xc) (.slice YA os.length yc) ((((w24.setCell ⟨bM, 0, none⟩ (.int .i64 1)).setCell ⟨bM, 1, none⟩ (.int .i64 bs)).setCell ⟨bM, 2, none⟩ (.slice XA im.length xc)).setCell ⟨bM, 3, none⟩ (.slice YA os.length yc)) from ⟨HX25.out.below, k4, hge⟩)
    clear k4 far hge TT LT NNew HX24 HY24 NX24 NY24
    refine skip_ (w1 := (((w24.setCell ⟨bM, 0, none⟩ (.int .i64 1)).setCell ⟨bM, 1, none⟩ (.int .i64 bs)).setCell ⟨bM, 2, none⟩ (.slice XA im.length xc)).setCell ⟨bM, 3, none⟩ (.slice YA os.length yc)) (by rfl) rfl (by first | (go_simp; done) | (go_simp; rfl)) ?_
    refine hK.out _ _ ?_
    clear hK K z0 f0 z1 f1 z2 f2 z3 f3
    refine last_ (i := 10) (N := some 7) #[true, true, true, true, true, true, true, true, true, true, true] rfl rfl (one_of HT_.out (by kernel_rfl)) (by decide) (fun K hK => ?_)
    refine value_ (v := .int .i64 0) (w1 := (((w24.setCell ⟨bM, 0, none⟩ (.int .i64 1)).setCell ⟨bM, 1, none⟩ (.int .i64 bs)).setCell ⟨bM, 2, none⟩ (.slice XA im.length xc)).setCell ⟨bM, 3, none⟩ (.slice YA os.length yc)) (by rfl) rfl (by first | (go_simp; done) | (go_simp; rfl)) ?_
    refine hK.out _ _ ?_
    clear hK K
    refine done_ (done_of HT_.out (by kernel_rfl)) ?_
    clear HT_ HW_ hHeld
    generalize (((w24.setCell ⟨bM, 0, none⟩ (.int .i64 1)).setCell ⟨bM, 1, none⟩ (.int .i64 bs)).setCell ⟨bM, 2, none⟩ (.slice XA im.length xc)).setCell ⟨bM, 3, none⟩ (.slice YA os.length yc) = w25 at *
    have hzz := HSZ.out
    have hll := HL.out
    have CS := Aside0.mk (fun W (h : NC W A2 c2 ai A3 c3 ao) => size_c h ak as_ (by omega) (by omega))
    have CT := Aside0.mk (fun W (h : NC W B2 d2 bi B3 d3 bo) => size_c h bk bs (by omega) (by omega))
    have CM := Aside0.mk (fun W (h : NC W XA xc im YA yc os) => size_c h 1 bs (by omega) (by omega))
    simp only [hs] at CS
    simp only [ht] at CT
    simp only [hu0] at CM
    simp only [if_pos] at CS
    obtain ⟨sx, hsx⟩ : ∃ sx : Int, 11 + 33 * (ai.length : Int) + 9 * (ao.length : Int) = sx := ⟨_, rfl⟩
    simp only [hsx] at CS
    simp only [if_pos] at CT
    obtain ⟨sy, hsy⟩ : ∃ sy : Int, 11 + 33 * (bi.length : Int) + 9 * (bo.length : Int) = sy := ⟨_, rfl⟩
    simp only [hsy] at CT
    simp only [if_pos] at CM
    obtain ⟨sm, hsm⟩ : ∃ sm : Int, 11 + 33 * (im.length : Int) + 9 * (os.length : Int) = sm := ⟨_, rfl⟩
    simp only [hsm] at CM
    have HFIN := Aside0.mk (show wrap64 (wrap64 (11 + wrap64 (33 * (ai.length : Int))) + wrap64 (9 * (ao.length : Int))) = sx by rw [w64_of (x := 33 * (ai.length : Int)) (by omega) (by omega), w64_of (x := 9 * (ao.length : Int)) (by omega) (by omega), w64_of (x := 11 + 33 * (ai.length : Int)) (by omega) (by omega), w64_of (by omega) (by omega)]; omega)
    have HRNG := Aside0.mk (show 0 ≤ sx ∧ 0 ≤ sy ∧ 0 ≤ sm ∧ sx ≤ 1000000 ∧ sy ≤ 1000000 ∧ sm ≤ sx + sy - 11 ∧ sx ≤ sm ∧ sy ≤ sm by omega)
    clear hsx hsy hsm hzz hll hs ht hu0
    have hfin := HFIN.out
    have hr := HRNG.out
    have v1 : wrap64 (sx + sy) = sx + sy := by rw [w64_of (by omega) (by omega)]
    have v2 : wrap64 (sx + sy - 11) = sx + sy - 11 := by rw [w64_of (by omega) (by omega)]
    have v3 : (sm ≤ sx + sy - 11) = True := eq_true (by omega)
    have v4 : (sx ≤ sm) = True := eq_true (by omega)
    have v5 : (sy ≤ sm) = True := eq_true (by omega)
    clear hr HFIN HRNG
    have xX0 := HX25.out.x0; have xX1 := HX25.out.x1; have xX2 := HX25.out.x2; have xX3 := HX25.out.x3; have xY0 := HY25.out.x0; have xY1 := HY25.out.x1; have xY2 := HY25.out.x2; have xY3 := HY25.out.x3; have xM0 := HM25.out.x0; have xM1 := HM25.out.x1; have xM2 := HM25.out.x2; have xM3 := HM25.out.x3
    go_wp2_with (first | (go_at_call 16; refine (ours_c NX25.out.nc ak as_).mono ?_; rintro e w26 ⟨rfl, hb⟩; clear xX0 xX1 xX2 xX3 xY0 xY1 xY2 xY3 xM0 xM1 xM2 xM3 ; have HX26 := Aside0.mk (HX25.out.next hb); have HY26 := Aside0.mk (HY25.out.next hb); have HM26 := Aside0.mk (HM25.out.next hb); have NX26 := Aside0.mk (NX25.out.below hb); have NY26 := Aside0.mk (NY25.out.below hb); have NM26 := Aside0.mk (NM25.out.below hb); clear hb HX25 HY25 HM25 NX25 NY25 NM25; have xX0 := HX26.out.x0; have xX1 := HX26.out.x1; have xX2 := HX26.out.x2; have xX3 := HX26.out.x3; have xY0 := HY26.out.x0; have xY1 := HY26.out.x1; have xY2 := HY26.out.x2; have xY3 := HY26.out.x3; have xM0 := HM26.out.x0; have xM1 := HM26.out.x1; have xM2 := HM26.out.x2; have xM3 := HM26.out.x3) | (go_at_call 17; refine (CS.out _ NX26.out.nc).mono ?_; rintro e w27 ⟨rfl, hb⟩; clear xX0 xX1 xX2 xX3 xY0 xY1 xY2 xY3 xM0 xM1 xM2 xM3 CS; have HX27 := Aside0.mk (HX26.out.next hb); have HY27 := Aside0.mk (HY26.out.next hb); have HM27 := Aside0.mk (HM26.out.next hb); have NX27 := Aside0.mk (NX26.out.below hb); have NY27 := Aside0.mk (NY26.out.below hb); have NM27 := Aside0.mk (NM26.out.below hb); clear hb HX26 HY26 HM26 NX26 NY26 NM26; have xX0 := HX27.out.x0; have xX1 := HX27.out.x1; have xX2 := HX27.out.x2; have xX3 := HX27.out.x3; have xY0 := HY27.out.x0; have xY1 := HY27.out.x1; have xY2 := HY27.out.x2; have xY3 := HY27.out.x3; have xM0 := HM27.out.x0; have xM1 := HM27.out.x1; have xM2 := HM27.out.x2; have xM3 := HM27.out.x3) | (go_at_call 16; refine (ours_c NY27.out.nc bk bs).mono ?_; rintro e w28 ⟨rfl, hb⟩; clear xX0 xX1 xX2 xX3 xY0 xY1 xY2 xY3 xM0 xM1 xM2 xM3 ; have HX28 := Aside0.mk (HX27.out.next hb); have HY28 := Aside0.mk (HY27.out.next hb); have HM28 := Aside0.mk (HM27.out.next hb); have NX28 := Aside0.mk (NX27.out.below hb); have NY28 := Aside0.mk (NY27.out.below hb); have NM28 := Aside0.mk (NM27.out.below hb); clear hb HX27 HY27 HM27 NX27 NY27 NM27; have xX0 := HX28.out.x0; have xX1 := HX28.out.x1; have xX2 := HX28.out.x2; have xX3 := HX28.out.x3; have xY0 := HY28.out.x0; have xY1 := HY28.out.x1; have xY2 := HY28.out.x2; have xY3 := HY28.out.x3; have xM0 := HM28.out.x0; have xM1 := HM28.out.x1; have xM2 := HM28.out.x2; have xM3 := HM28.out.x3) | (go_at_call 17; refine (CT.out _ NY28.out.nc).mono ?_; rintro e w29 ⟨rfl, hb⟩; clear xX0 xX1 xX2 xX3 xY0 xY1 xY2 xY3 xM0 xM1 xM2 xM3 CT; have HX29 := Aside0.mk (HX28.out.next hb); have HY29 := Aside0.mk (HY28.out.next hb); have HM29 := Aside0.mk (HM28.out.next hb); have NX29 := Aside0.mk (NX28.out.below hb); have NY29 := Aside0.mk (NY28.out.below hb); have NM29 := Aside0.mk (NM28.out.below hb); clear hb HX28 HY28 HM28 NX28 NY28 NM28; have xX0 := HX29.out.x0; have xX1 := HX29.out.x1; have xX2 := HX29.out.x2; have xX3 := HX29.out.x3; have xY0 := HY29.out.x0; have xY1 := HY29.out.x1; have xY2 := HY29.out.x2; have xY3 := HY29.out.x3; have xM0 := HM29.out.x0; have xM1 := HM29.out.x1; have xM2 := HM29.out.x2; have xM3 := HM29.out.x3) | (go_at_call 17; refine (CM.out _ NM29.out.nc).mono ?_; rintro e w30 ⟨rfl, hb⟩; clear xX0 xX1 xX2 xX3 xY0 xY1 xY2 xY3 xM0 xM1 xM2 xM3 ; have HX30 := Aside0.mk (HX29.out.next hb); have HY30 := Aside0.mk (HY29.out.next hb); have HM30 := Aside0.mk (HM29.out.next hb); have NX30 := Aside0.mk (NX29.out.below hb); have NY30 := Aside0.mk (NY29.out.below hb); have NM30 := Aside0.mk (NM29.out.below hb); clear hb HX29 HY29 HM29 NX29 NY29 NM29; have xX0 := HX30.out.x0; have xX1 := HX30.out.x1; have xX2 := HX30.out.x2; have xX3 := HX30.out.x3; have xY0 := HY30.out.x0; have xY1 := HY30.out.x1; have xY2 := HY30.out.x2; have xY3 := HY30.out.x3; have xM0 := HM30.out.x0; have xM1 := HM30.out.x1; have xM2 := HM30.out.x2; have xM3 := HM30.out.x3) | (go_at_call 17; refine (CM.out _ NM30.out.nc).mono ?_; rintro e w31 ⟨rfl, hb⟩; clear xX0 xX1 xX2 xX3 xY0 xY1 xY2 xY3 xM0 xM1 xM2 xM3 ; have HX31 := Aside0.mk (HX30.out.next hb); have HY31 := Aside0.mk (HY30.out.next hb); have HM31 := Aside0.mk (HM30.out.next hb); have NX31 := Aside0.mk (NX30.out.below hb); have NY31 := Aside0.mk (NY30.out.below hb); have NM31 := Aside0.mk (NM30.out.below hb); clear hb HX30 HY30 HM30 NX30 NY30 NM30; have xX0 := HX31.out.x0; have xX1 := HX31.out.x1; have xX2 := HX31.out.x2; have xX3 := HX31.out.x3; have xY0 := HY31.out.x0; have xY1 := HY31.out.x1; have xY2 := HY31.out.x2; have xY3 := HY31.out.x3; have xM0 := HM31.out.x0; have xM1 := HM31.out.x1; have xM2 := HM31.out.x2; have xM3 := HM31.out.x3))
    all_goals go_ret
    all_goals exact ⟨by rfl, HX31.out.below⟩
end
end Go.Proofs.Ythcikbbglpdjhaa.Q
