/- NoteMerges: the walk. No condition. -/
import Derived.Test.YthcikbbglpdjhaaMC
import Derived.Test.YthcikbbglpdjhaaQ1
import Derived.Test.YthcikbbglpdjhaaFNoteMerges
namespace Go.Proofs.Ythcikbbglpdjhaa.Q
open Go.RowKit Go.Proofs.YthcikbbglpdjhaaW Go.Proofs.YthcikbbglpdjhaaW.PrintWords Go.Proofs.YthcikbbglpdjhaaW.PrintLast Go.Proofs.YthcikbbglpdjhaaW.PrintMore
attribute [local go_sem high] eqA46
attribute [local go_sem] max2_int min2_int max_two min_two
set_option linter.unusedVariables false
set_option linter.unusedSimpArgs false

def regP4.T : Bool × List (List Nat × List Nat) := (true, [([], []), ([0], [0]), ([], []), ([2, 1], [2]), ([1, 3, 3], [1, 3]), ([4], [4]), ([5], [5]), ([5], [5]), ([], []), ([8, 6, 4, 0, 1, 2, 3, 4, 5, 6, 8], [6, 8]), ([7, 9, 0, 1, 2, 3, 4, 5, 6, 7, 8, 9], [7])])
def regP4.B : List Nat := [0, 1, 0, 7, 15, 31, 63, 63, 0, 383, 1023]
theorem regP4.tab : rtab .any (opsOf Try.f5 4) = regP4.T := by kernel_rfl
theorem regP4.bits : waitsOk regP4.T.2 regP4.B = true := by kernel_rfl

def regP24.T : Bool × List (List Nat × List Nat) := (true, [([], []), ([0], [0]), ([], []), ([2], [2]), ([3], [3]), ([1, 4, 1], [1, 4]), ([5], [5]), ([6], [6]), ([6], [6]), ([], []), ([9, 7, 5, 0, 1, 2, 3, 4, 5, 6, 7, 9], [7, 9]), ([8, 10, 0, 1, 2, 3, 4, 5, 6, 7, 8, 9, 10], [8])])
def regP24.B : List Nat := [0, 1, 0, 4, 12, 31, 63, 127, 127, 0, 767, 2047]
theorem regP24.tab : rtab .any (opsOf Try.f5 24) = regP24.T := by kernel_rfl
theorem regP24.bits : waitsOk regP24.T.2 regP24.B = true := by kernel_rfl

def regP25.T : Bool × List (List Nat × List Nat) := (true, [([], []), ([0], [0]), ([1], [1]), ([], []), ([3], [3]), ([4], [4]), ([], []), ([6], [6]), ([7], [7]), ([5, 8], [5, 8]), ([2, 9], [2, 9]), ([10], [10]), ([11], [11]), ([12, 11], [11, 12]), ([11, 13], [11, 13]), ([14, 11], [14]), ([15], [15]), ([16, 15, 15], [15, 16]), ([15], [15]), ([17, 18, 17, 15], [15, 17, 18]), ([19, 15], [15, 19]), ([15, 20], [15, 20])])
def regP25.B : List Nat := [0, 1, 3, 0, 8, 24, 0, 64, 192, 504, 1023, 2047, 4095, 8191, 16383, 32767, 65535, 131071, 65535, 524287, 1048575, 2097151]
theorem regP25.tab : rtab .any (opsOf Try.f5 25) = regP25.T := by kernel_rfl
theorem regP25.bits : waitsOk regP25.T.2 regP25.B = true := by kernel_rfl

theorem boxes2m (w : World) (t : Nat) (a0 a1 a2 a3 b0 b1 b2 b3 : Value) (W : World) (hW : (w.alloc (.cells #[a0, a1, a2, a3] t)).alloc (.cells #[b0, b1, b2, b3] t) = W) :
    B4 w w.heap.size t a0 a1 a2 a3 W ∧ B4 w (w.heap.size + 1) t b0 b1 b2 b3 W := by
  have h1 := B4.new w t a0 a1 a2 a3 (Below.refl w.heap.size w)
  have h2 := B4.new w t b0 b1 b2 b3 h1.below
  have s1 : (w.alloc (.cells #[a0, a1, a2, a3] t)).heap.size = w.heap.size + 1 := by simp
  rw [s1] at h2
  subst hW
  have al : ∀ (X : World) (o : Obj), Below X.heap.size X (X.alloc o) := fun X o => (Below.refl _ _).alloc (Nat.le_refl _) _
  exact ⟨h1.next (al _ _), h2⟩
theorem nxt_ (i : Nat) (h : i < 1000000) : (Value.int .i64 (wrap64 ((i : Int) + 1))) = .int .i64 ((i + 1 : Nat) : Int) := by rw [w64_of (by omega) (by omega)]; rfl
/-- The last of a block's data. -/
def wantF (blk : Int) (acc : ByteArray) (l : List S44) : ByteArray := l.foldl (fun acc x => if x.f0 = blk then strOfNums x.f1 else acc) acc
theorem wantF_yes {blk : Int} {acc : ByteArray} {l : List S44} {i : Nat} {x : S44} (hi : i < l.length) (hx : l[i] = x) (h : x.f0 = blk) : wantF blk acc (l.take (i + 1)) = strOfNums x.f1 := by
  unfold wantF; rw [List.take_succ_eq_append_getElem hi, List.foldl_append, hx]; exact if_pos h
theorem wantF_no {blk : Int} {acc : ByteArray} {l : List S44} {i : Nat} {x : S44} (hi : i < l.length) (hx : l[i] = x) (h : ¬ x.f0 = blk) : wantF blk acc (l.take (i + 1)) = wantF blk acc (l.take i) := by
  unfold wantF; rw [List.take_succ_eq_append_getElem hi, List.foldl_append, hx]; exact if_neg h
section
variable (ak as_ : Int) (A2 : Option Addr) (c2 : Nat) (ai : List S44) (A3 : Option Addr) (c3 : Nat) (ao : List S46) (bk bs : Int) (B2 : Option Addr) (d2 : Nat) (bi : List S44) (B3 : Option Addr) (d3 : Nat) (bo : List S46) (blk : Int) (w : World)
def MergesOk : Prop := Calls Try.prog 5 #[.agg #[.int .i64 ak, .int .i64 as_, .slice A2 ai.length c2, .slice A3 ao.length c3], .agg #[.int .i64 bk, .int .i64 bs, .slice B2 bi.length d2, .slice B3 bo.length d3], .int .i64 blk] w fun e w' => e = .returned (.bool true) ∧ Below w.heap.size w w'

set_option maxRecDepth 100000 in
set_option maxHeartbeats 12800000 in
theorem merges_few1 (hna : NC w A2 c2 ai A3 c3 ao) (hnb : NC w B2 d2 bi B3 d3 bo) (hf : fewB 100 ai ao = false) : MergesOk ak as_ A2 c2 ai A3 c3 ao bk bs B2 d2 bi B3 d3 bo blk w := by
  obtain ⟨w0, hw0⟩ : ∃ w0, (w.alloc (.cells #[.int .i64 ak, .int .i64 as_, .slice A2 ai.length c2, .slice A3 ao.length c3] 32)).alloc (.cells #[.int .i64 bk, .int .i64 bs, .slice B2 bi.length d2, .slice B3 bo.length d3] 32) = w0 := ⟨_, rfl⟩
  obtain ⟨hX, hY⟩ := boxes2m w 32 _ _ _ _ _ _ _ _ w0 hw0
  have NX0 := Aside0.mk (hna.nf.below hX.below)
  have NY0 := Aside0.mk (hnb.nf.below hX.below)
  have hu := Try.underlying32
  have hu2 := Try.underlying27
  have hu3 := Try.underlying44
  unfold MergesOk
  obtain ⟨b, hb⟩ : ∃ b, w.heap.size = b := ⟨_, rfl⟩
  rw [hb] at hX hY
  have HX0 := Aside0.mk hX
  have HY0 := Aside0.mk hY
  clear hX hY hna hnb
  go_enter Try.func5, Try.ntmps5
  go_upto_region 1 with (fail)
  (try rw [hw0])
  clear hw0 hb
  have C9 := Aside0.mk (fun W => awake_c W)
  have FA := Aside0.mk (fun W (h : NC W A2 c2 ai A3 c3 ao) => few_c h ak as_ 100 (by omega))
  have FB := Aside0.mk (fun W (h : NC W B2 d2 bi B3 d3 bo) => few_c h bk bs 100 (by omega))
  simp only [hf] at FA FB
  clear hf
  have xX0 := HX0.out.x0; have xX1 := HX0.out.x1; have xX2 := HX0.out.x2; have xX3 := HX0.out.x3; have xY0 := HY0.out.x0; have xY1 := HY0.out.x1; have xY2 := HY0.out.x2; have xY3 := HY0.out.x3
  go_wp2_with (first | (go_at_call 9; refine (C9.out _).mono ?_; rintro e w1 ⟨rfl, hb⟩; clear xX0 xX1 xX2 xX3 xY0 xY1 xY2 xY3 C9; have HX1 := Aside0.mk (HX0.out.next hb); have HY1 := Aside0.mk (HY0.out.next hb); have NX1 := Aside0.mk (NX0.out.below hb); have NY1 := Aside0.mk (NY0.out.below hb); clear hb HX0 HY0 NX0 NY0; have xX0 := HX1.out.x0; have xX1 := HX1.out.x1; have xX2 := HX1.out.x2; have xX3 := HX1.out.x3; have xY0 := HY1.out.x0; have xY1 := HY1.out.x1; have xY2 := HY1.out.x2; have xY3 := HY1.out.x3) | (go_at_call 15; refine (FA.out _ NX1.out.nc).mono ?_; rintro e w2 ⟨rfl, hb⟩; clear xX0 xX1 xX2 xX3 xY0 xY1 xY2 xY3 FA; have HX2 := Aside0.mk (HX1.out.next hb); have HY2 := Aside0.mk (HY1.out.next hb); have NX2 := Aside0.mk (NX1.out.below hb); have NY2 := Aside0.mk (NY1.out.below hb); clear hb HX1 HY1 NX1 NY1; have xX0 := HX2.out.x0; have xX1 := HX2.out.x1; have xX2 := HX2.out.x2; have xX3 := HX2.out.x3; have xY0 := HY2.out.x0; have xY1 := HY2.out.x1; have xY2 := HY2.out.x2; have xY3 := HY2.out.x3))
  go_ret
  exact ⟨rfl, HX2.out.below⟩
set_option maxRecDepth 100000 in
set_option maxHeartbeats 12800000 in
theorem merges_few2 (hna : NC w A2 c2 ai A3 c3 ao) (hnb : NC w B2 d2 bi B3 d3 bo) (hf : fewB 100 ai ao = true) (hg : fewB 100 bi bo = false) : MergesOk ak as_ A2 c2 ai A3 c3 ao bk bs B2 d2 bi B3 d3 bo blk w := by
  obtain ⟨w0, hw0⟩ : ∃ w0, (w.alloc (.cells #[.int .i64 ak, .int .i64 as_, .slice A2 ai.length c2, .slice A3 ao.length c3] 32)).alloc (.cells #[.int .i64 bk, .int .i64 bs, .slice B2 bi.length d2, .slice B3 bo.length d3] 32) = w0 := ⟨_, rfl⟩
  obtain ⟨hX, hY⟩ := boxes2m w 32 _ _ _ _ _ _ _ _ w0 hw0
  have NX0 := Aside0.mk (hna.nf.below hX.below)
  have NY0 := Aside0.mk (hnb.nf.below hX.below)
  have hu := Try.underlying32
  have hu2 := Try.underlying27
  have hu3 := Try.underlying44
  unfold MergesOk
  obtain ⟨b, hb⟩ : ∃ b, w.heap.size = b := ⟨_, rfl⟩
  rw [hb] at hX hY
  have HX0 := Aside0.mk hX
  have HY0 := Aside0.mk hY
  clear hX hY hna hnb
  go_enter Try.func5, Try.ntmps5
  go_upto_region 1 with (fail)
  (try rw [hw0])
  clear hw0 hb
  have C9 := Aside0.mk (fun W => awake_c W)
  have FA := Aside0.mk (fun W (h : NC W A2 c2 ai A3 c3 ao) => few_c h ak as_ 100 (by omega))
  have FB := Aside0.mk (fun W (h : NC W B2 d2 bi B3 d3 bo) => few_c h bk bs 100 (by omega))
  simp only [hf, hg] at FA FB
  clear hf  hg
  have xX0 := HX0.out.x0; have xX1 := HX0.out.x1; have xX2 := HX0.out.x2; have xX3 := HX0.out.x3; have xY0 := HY0.out.x0; have xY1 := HY0.out.x1; have xY2 := HY0.out.x2; have xY3 := HY0.out.x3
  go_wp2_with (first | (go_at_call 9; refine (C9.out _).mono ?_; rintro e w1 ⟨rfl, hb⟩; clear xX0 xX1 xX2 xX3 xY0 xY1 xY2 xY3 C9; have HX1 := Aside0.mk (HX0.out.next hb); have HY1 := Aside0.mk (HY0.out.next hb); have NX1 := Aside0.mk (NX0.out.below hb); have NY1 := Aside0.mk (NY0.out.below hb); clear hb HX0 HY0 NX0 NY0; have xX0 := HX1.out.x0; have xX1 := HX1.out.x1; have xX2 := HX1.out.x2; have xX3 := HX1.out.x3; have xY0 := HY1.out.x0; have xY1 := HY1.out.x1; have xY2 := HY1.out.x2; have xY3 := HY1.out.x3) | (go_at_call 15; refine (FA.out _ NX1.out.nc).mono ?_; rintro e w2 ⟨rfl, hb⟩; clear xX0 xX1 xX2 xX3 xY0 xY1 xY2 xY3 FA; have HX2 := Aside0.mk (HX1.out.next hb); have HY2 := Aside0.mk (HY1.out.next hb); have NX2 := Aside0.mk (NX1.out.below hb); have NY2 := Aside0.mk (NY1.out.below hb); clear hb HX1 HY1 NX1 NY1; have xX0 := HX2.out.x0; have xX1 := HX2.out.x1; have xX2 := HX2.out.x2; have xX3 := HX2.out.x3; have xY0 := HY2.out.x0; have xY1 := HY2.out.x1; have xY2 := HY2.out.x2; have xY3 := HY2.out.x3) | (go_at_call 15; refine (FB.out _ NY2.out.nc).mono ?_; rintro e w3 ⟨rfl, hb⟩; clear xX0 xX1 xX2 xX3 xY0 xY1 xY2 xY3 FB; have HX3 := Aside0.mk (HX2.out.next hb); have HY3 := Aside0.mk (HY2.out.next hb); have NX3 := Aside0.mk (NX2.out.below hb); have NY3 := Aside0.mk (NY2.out.below hb); clear hb HX2 HY2 NX2 NY2; have xX0 := HX3.out.x0; have xX1 := HX3.out.x1; have xX2 := HX3.out.x2; have xX3 := HX3.out.x3; have xY0 := HY3.out.x0; have xY1 := HY3.out.x1; have xY2 := HY3.out.x2; have xY3 := HY3.out.x3))
  go_ret
  exact ⟨rfl, HX3.out.below⟩
set_option maxRecDepth 100000 in
set_option maxHeartbeats 12800000 in
theorem merges_bad1 (hna : NC w A2 c2 ai A3 c3 ao) (hnb : NC w B2 d2 bi B3 d3 bo) (hf : fewB 100 ai ao = true) (hg : fewB 100 bi bo = true) (hm : mergeR ak as_ ai ao bk bs bi bo = (0, 0, [], [], 1)) : MergesOk ak as_ A2 c2 ai A3 c3 ao bk bs B2 d2 bi B3 d3 bo blk w := by
  have hfa := few_parts hf
  have hfb := few_parts hg
  have HL := Aside0.mk (show ai.length ≤ 100 ∧ ao.length ≤ 100 ∧ bi.length ≤ 100 ∧ bo.length ≤ 100 by omega)
  clear hfa hfb
  have HM0 := Aside0.mk hm
  clear hm
  obtain ⟨w0, hw0⟩ : ∃ w0, (w.alloc (.cells #[.int .i64 ak, .int .i64 as_, .slice A2 ai.length c2, .slice A3 ao.length c3] 32)).alloc (.cells #[.int .i64 bk, .int .i64 bs, .slice B2 bi.length d2, .slice B3 bo.length d3] 32) = w0 := ⟨_, rfl⟩
  obtain ⟨hX, hY⟩ := boxes2m w 32 _ _ _ _ _ _ _ _ w0 hw0
  have NX0 := Aside0.mk (hna.nf.below hX.below)
  have NY0 := Aside0.mk (hnb.nf.below hX.below)
  have hu := Try.underlying32
  have hu2 := Try.underlying27
  have hu3 := Try.underlying44
  unfold MergesOk
  obtain ⟨b, hb⟩ : ∃ b, w.heap.size = b := ⟨_, rfl⟩
  rw [hb] at hX hY
  have HX0 := Aside0.mk hX
  have HY0 := Aside0.mk hY
  clear hX hY hna hnb
  go_enter Try.func5, Try.ntmps5
  go_upto_region 1 with (fail)
  (try rw [hw0])
  clear hw0 hb
  have C9 := Aside0.mk (fun W => awake_c W)
  have FA := Aside0.mk (fun W (h : NC W A2 c2 ai A3 c3 ao) => few_c h ak as_ 100 (by omega))
  have FB := Aside0.mk (fun W (h : NC W B2 d2 bi B3 d3 bo) => few_c h bk bs 100 (by omega))
  simp only [hf, hg] at FA FB
  clear hf  hg
  have xX0 := HX0.out.x0; have xX1 := HX0.out.x1; have xX2 := HX0.out.x2; have xX3 := HX0.out.x3; have xY0 := HY0.out.x0; have xY1 := HY0.out.x1; have xY2 := HY0.out.x2; have xY3 := HY0.out.x3
  go_upto_region 4 with (first | (go_at_call 9; refine (C9.out _).mono ?_; rintro e w1 ⟨rfl, hb⟩; clear xX0 xX1 xX2 xX3 xY0 xY1 xY2 xY3 C9; have HX1 := Aside0.mk (HX0.out.next hb); have HY1 := Aside0.mk (HY0.out.next hb); have NX1 := Aside0.mk (NX0.out.below hb); have NY1 := Aside0.mk (NY0.out.below hb); clear hb HX0 HY0 NX0 NY0; have xX0 := HX1.out.x0; have xX1 := HX1.out.x1; have xX2 := HX1.out.x2; have xX3 := HX1.out.x3; have xY0 := HY1.out.x0; have xY1 := HY1.out.x1; have xY2 := HY1.out.x2; have xY3 := HY1.out.x3) | (go_at_call 15; refine (FA.out _ NX1.out.nc).mono ?_; rintro e w2 ⟨rfl, hb⟩; clear xX0 xX1 xX2 xX3 xY0 xY1 xY2 xY3 FA; have HX2 := Aside0.mk (HX1.out.next hb); have HY2 := Aside0.mk (HY1.out.next hb); have NX2 := Aside0.mk (NX1.out.below hb); have NY2 := Aside0.mk (NY1.out.below hb); clear hb HX1 HY1 NX1 NY1; have xX0 := HX2.out.x0; have xX1 := HX2.out.x1; have xX2 := HX2.out.x2; have xX3 := HX2.out.x3; have xY0 := HY2.out.x0; have xY1 := HY2.out.x1; have xY2 := HY2.out.x2; have xY3 := HY2.out.x3) | (go_at_call 15; refine (FB.out _ NY2.out.nc).mono ?_; rintro e w3 ⟨rfl, hb⟩; clear xX0 xX1 xX2 xX3 xY0 xY1 xY2 xY3 FB; have HX3 := Aside0.mk (HX2.out.next hb); have HY3 := Aside0.mk (HY2.out.next hb); have NX3 := Aside0.mk (NX2.out.below hb); have NY3 := Aside0.mk (NY2.out.below hb); clear hb HX2 HY2 NX2 NY2; have xX0 := HX3.out.x0; have xX1 := HX3.out.x1; have xX2 := HX3.out.x2; have xX3 := HX3.out.x3; have xY0 := HY3.out.x0; have xY1 := HY3.out.x1; have xY2 := HY3.out.x2; have xY3 := HY3.out.x3))
  have hb : Below w3.heap.size w3 w3.drew := (Below.refl _ _).drew
  clear xX0 xX1 xX2 xX3 xY0 xY1 xY2 xY3
  have HX4 := Aside0.mk (HX3.out.next hb)
  have HY4 := Aside0.mk (HY3.out.next hb)
  have NX4 := Aside0.mk (NX3.out.below hb)
  have NY4 := Aside0.mk (NY3.out.below hb)
  clear hb HX3 HY3 NX3 NY3
  refine start_ (n := 11) (S := fun w' => w'.cell? ⟨b, 0, none⟩ = some (.int .i64 ak) ∧ w'.cell? ⟨b, 1, none⟩ = some (.int .i64 as_) ∧ w'.cell? ⟨b, 2, none⟩ = some (.slice A2 ai.length c2) ∧ w'.cell? ⟨b, 3, none⟩ = some (.slice A3 ao.length c3) ∧ w'.cell? ⟨b + 1, 0, none⟩ = some (.int .i64 bk) ∧ w'.cell? ⟨b + 1, 1, none⟩ = some (.int .i64 bs) ∧ w'.cell? ⟨b + 1, 2, none⟩ = some (.slice B2 bi.length d2) ∧ w'.cell? ⟨b + 1, 3, none⟩ = some (.slice B3 bo.length d3)) (ds := [9, 10]) #[false, false, false, false, false, false, false, false, false, false, false] rfl rfl rfl ⟨HX4.out.x0, HX4.out.x1, HX4.out.x2, HX4.out.x3, HY4.out.x0, HY4.out.x1, HY4.out.x2, HY4.out.x3⟩ (fun hHeld => ?_)
  refine with_tabW regP4.tab regP4.bits (fun HT_ HW_ => ?_)
  generalize w3.drew = w4 at *
  try clear w3
  refine tz_ 0 29 HT_ HW_ hHeld ?_
  refine tz_ 2 31 HT_ HW_ hHeld ?_
  refine join_ (σ := (Option Addr × Nat) × (Option Addr × Nat) × Nat) 2 #[true, true, true, true, true, true, true, true, true, false, false] (fun q => [(30, .agg #[.int .i64 ak, .int .i64 as_, .slice A2 ai.length c2, .slice A3 ao.length c3]), (32, .agg #[.int .i64 bk, .int .i64 bs, .slice B2 bi.length d2, .slice B3 bo.length d3]), (33, .tuple #[.agg #[.int .i64 0, .int .i64 0, .slice q.1.1 0 q.1.2, .slice q.2.1.1 0 q.2.1.2], .int .i64 1]), (28, .tuple #[.agg #[.int .i64 0, .int .i64 0, .slice q.1.1 0 q.1.2, .slice q.2.1.1 0 q.2.1.2], .int .i64 1]), (34, .agg #[.int .i64 0, .int .i64 0, .slice q.1.1 0 q.1.2, .slice q.2.1.1 0 q.2.1.2]), (35, .int .i64 1), (8, .pointer (some ⟨q.2.2, 0, none⟩))]) (fun q w' => Aside0 (B4 w (b) 32 (.int .i64 ak) (.int .i64 as_) (.slice A2 ai.length c2) (.slice A3 ao.length c3) w') ∧ Aside0 (B4 w (b + 1) 32 (.int .i64 bk) (.int .i64 bs) (.slice B2 bi.length d2) (.slice B3 bo.length d3) w') ∧ Aside0 (AP q.2.2 w' A2 c2 ai A3 c3 ao) ∧ Aside0 (AP q.2.2 w' B2 d2 bi B3 d3 bo) ∧ Aside0 (AP q.2.2 w' q.1.1 q.1.2 ([] : List S44) q.2.1.1 q.2.1.2 ([] : List S46)) ∧ Aside0 (w'.heap[q.2.2]? = some (.cells #[.int .i64 0, .int .i64 0, .slice none 0 0, .slice none 0 0] 27 (0, 0))) ∧ Aside0 (b < q.2.2 ∧ b + 1 < q.2.2)) ?hcont ?hord
  case hord =>
    intro JN
    have JNN := Aside0.mk JN
    clear JN
    refine two_ (i := 1) (j := 8) (Ni := some 30) (Nj := some 8) #[true, true, true, false, false, false, false, false, false, false, false] #[true, false, true, false, false, false, false, false, true, false, false] rfl rfl rfl rfl (two_of HT_.out (by kernel_rfl)) (by decide) (by decide) (fun K hK => ?_) (fun K hK => ?_)
    · refine goes_ Try.func16 (by kernel_rfl) rfl #[.agg #[.int .i64 ak, .int .i64 as_, .slice A2 ai.length c2, .slice A3 ao.length c3]] (by rfl) rfl rfl ma_ ?_
      refine (ours_c NX4.out.nc ak as_).mono ?_
      rintro e v5w ⟨rfl, hb⟩
      refine ⟨_, rfl, ?_⟩
      have HX5 := Aside0.mk (HX4.out.next hb)
      have HY5 := Aside0.mk (HY4.out.next hb)
      have NX5 := Aside0.mk (NX4.out.below hb)
      have NY5 := Aside0.mk (NY4.out.below hb)
      clear hb HX4 HY4 NX4 NY4
      refine hK.out _ _ ⟨HX5.out.x0, HX5.out.x1, HX5.out.x2, HX5.out.x3, HY5.out.x0, HY5.out.x1, HY5.out.x2, HY5.out.x3⟩ (fun hHeld => ?_)
      clear hK K
      refine two_ (i := 3) (j := 8) (Ni := some 32) (Nj := some 8) #[true, true, true, true, false, false, false, false, false, false, false] #[true, true, true, false, false, false, false, false, true, false, false] rfl rfl rfl rfl (two_of HT_.out (by kernel_rfl)) (by decide) (by decide) (fun K hK => ?_) (fun K hK => ?_)
      · refine goes_ Try.func16 (by kernel_rfl) rfl #[.agg #[.int .i64 bk, .int .i64 bs, .slice B2 bi.length d2, .slice B3 bo.length d3]] (by rfl) rfl rfl ma_ ?_
        refine (ours_c NY5.out.nc bk bs).mono ?_
        rintro e v6w ⟨rfl, hb⟩
        refine ⟨_, rfl, ?_⟩
        have HX6 := Aside0.mk (HX5.out.next hb)
        have HY6 := Aside0.mk (HY5.out.next hb)
        have NX6 := Aside0.mk (NX5.out.below hb)
        have NY6 := Aside0.mk (NY5.out.below hb)
        clear hb HX5 HY5 NX5 NY5
        refine hK.out _ _ ⟨HX6.out.x0, HX6.out.x1, HX6.out.x2, HX6.out.x3, HY6.out.x0, HY6.out.x1, HY6.out.x2, HY6.out.x3⟩ (fun hHeld => ?_)
        clear hK K
        refine two_ (i := 4) (j := 8) (Ni := some 33) (Nj := some 8) #[true, true, true, true, true, false, false, false, false, false, false] #[true, true, true, true, false, false, false, false, true, false, false] rfl rfl rfl rfl (two_of HT_.out (by kernel_rfl)) (by decide) (by decide) (fun K hK => ?_) (fun K hK => ?_)
        · refine goes_ Try.func18 (by kernel_rfl) rfl #[.agg #[.int .i64 ak, .int .i64 as_, .slice A2 ai.length c2, .slice A3 ao.length c3], .agg #[.int .i64 bk, .int .i64 bs, .slice B2 bi.length d2, .slice B3 bo.length d3]] (by rfl) rfl rfl ma_ ?_
          refine (merge_nf NX6.out NY6.out ak as_ bk bs (by have := HL.out; omega) (im := ([] : List S44)) (os := ([] : List S46)) 0 0 1 HM0.out).mono ?_
          rintro e v7w ⟨XA, xc, YA, yc, rfl, hn, hb⟩
          refine ⟨_, rfl, ?_⟩
          have HX7 := Aside0.mk (HX6.out.next hb)
          have HY7 := Aside0.mk (HY6.out.next hb)
          have NX7 := Aside0.mk (NX6.out.below hb)
          have NY7 := Aside0.mk (NY6.out.below hb)
          clear hb HX6 HY6 NX6 NY6
          have NNew7 := Aside0.mk hn
          refine hK.out _ _ ⟨HX7.out.x0, HX7.out.x1, HX7.out.x2, HX7.out.x3, HY7.out.x0, HY7.out.x1, HY7.out.x2, HY7.out.x3⟩ (fun hHeld => ?_)
          clear hK K
          refine pz_ 5 28 HT_ ?_
          refine pz_ 6 34 HT_ ?_
          refine pz_ 7 35 HT_ ?_
          refine oz_ 8 8 HT_ (fun K hK => ?_)
          refine value_ (by rfl) rfl (v := .pointer (some ⟨v7w.heap.size, 0, none⟩)) (w1 := v7w.alloc (.cells #[.int .i64 0, .int .i64 0, .slice none 0 0, .slice none 0 0] 27)) (by first | (go_simp; done) | (go_simp; rfl)) ?_
          have hb : Below v7w.heap.size v7w (v7w.alloc (.cells #[.int .i64 0, .int .i64 0, .slice none 0 0, .slice none 0 0] 27)) := (Below.refl _ _).alloc (Nat.le_refl _) _
          have hx := blk_new v7w (.cells #[.int .i64 0, .int .i64 0, .slice none 0 0, .slice none 0 0] 27)
          have hl0 := blk_lt HX7.out.at_
          have hl1 := blk_lt HY7.out.at_
          obtain ⟨bM, hbM⟩ : ∃ bM, v7w.heap.size = bM := ⟨_, rfl⟩
          rw [hbM] at hx hl0 hl1
          rw [hbM]
          have hle := Nat.le_of_eq hbM
          clear hbM
          generalize v7w.alloc (.cells #[.int .i64 0, .int .i64 0, .slice none 0 0, .slice none 0 0] 27) = v8w at *
          have LT := Aside0.mk (show b < bM ∧ b + 1 < bM from ⟨hl0, hl1⟩)
          clear hl0 hl1
          have HX8 := Aside0.mk (HX7.out.next hb)
          have HY8 := Aside0.mk (HY7.out.next hb)
          have NX8 := Aside0.mk ((NF.ap NX7.out (b := bM) hle).below hb)
          have NY8 := Aside0.mk ((NF.ap NY7.out (b := bM) hle).below hb)
          have NNew8 := Aside0.mk ((NF.ap NNew7.out (b := bM) hle).below hb)
          clear hb HX7 HY7 NX7 NY7 hle
          have TT8 := Aside0.mk hx
          refine hK.out _ _ ⟨HX8.out.x0, HX8.out.x1, HX8.out.x2, HX8.out.x3, HY8.out.x0, HY8.out.x1, HY8.out.x2, HY8.out.x3⟩ (fun hHeld => ?_)
          clear hK K
          exact norm_ pu_ (JNN.out ((XA, xc), (YA, yc), bM) _ ⟨HX8, HY8, NX8, NY8, NNew8, TT8, LT⟩)
        · refine value_ (by rfl) rfl (v := .pointer (some ⟨v6w.heap.size, 0, none⟩)) (w1 := v6w.alloc (.cells #[.int .i64 0, .int .i64 0, .slice none 0 0, .slice none 0 0] 27)) (by first | (go_simp; done) | (go_simp; rfl)) ?_
          have hb : Below v6w.heap.size v6w (v6w.alloc (.cells #[.int .i64 0, .int .i64 0, .slice none 0 0, .slice none 0 0] 27)) := (Below.refl _ _).alloc (Nat.le_refl _) _
          have hx := blk_new v6w (.cells #[.int .i64 0, .int .i64 0, .slice none 0 0, .slice none 0 0] 27)
          have hl0 := blk_lt HX6.out.at_
          have hl1 := blk_lt HY6.out.at_
          obtain ⟨bM, hbM⟩ : ∃ bM, v6w.heap.size = bM := ⟨_, rfl⟩
          rw [hbM] at hx hl0 hl1
          rw [hbM]
          have hle := Nat.le_of_eq hbM
          clear hbM
          generalize v6w.alloc (.cells #[.int .i64 0, .int .i64 0, .slice none 0 0, .slice none 0 0] 27) = v9w at *
          have LT := Aside0.mk (show b < bM ∧ b + 1 < bM from ⟨hl0, hl1⟩)
          clear hl0 hl1
          have HX7 := Aside0.mk (HX6.out.next hb)
          have HY7 := Aside0.mk (HY6.out.next hb)
          have NX7 := Aside0.mk ((NF.ap NX6.out (b := bM) hle).below hb)
          have NY7 := Aside0.mk ((NF.ap NY6.out (b := bM) hle).below hb)
          clear hb HX6 HY6 NX6 NY6 hle
          have TT7 := Aside0.mk hx
          refine hK.out _ _ ⟨HX7.out.x0, HX7.out.x1, HX7.out.x2, HX7.out.x3, HY7.out.x0, HY7.out.x1, HY7.out.x2, HY7.out.x3⟩ (fun hHeld => ?_)
          clear hK K
          refine oz_ 4 33 HT_ (fun K hK => ?_)
          refine goes_ Try.func18 (by kernel_rfl) rfl #[.agg #[.int .i64 ak, .int .i64 as_, .slice A2 ai.length c2, .slice A3 ao.length c3], .agg #[.int .i64 bk, .int .i64 bs, .slice B2 bi.length d2, .slice B3 bo.length d3]] (by rfl) rfl rfl ma_ ?_
          refine (merge_ap NX7.out NY7.out (blk_lt TT7.out) ak as_ bk bs (by have := HL.out; omega) (im := ([] : List S44)) (os := ([] : List S46)) 0 0 1 HM0.out).mono ?_
          rintro e v10w ⟨XA, xc, YA, yc, rfl, hn, hb⟩
          refine ⟨_, rfl, ?_⟩
          have HX8 := Aside0.mk (HX7.out.next hb)
          have HY8 := Aside0.mk (HY7.out.next hb)
          have NX8 := Aside0.mk (NX7.out.below hb)
          have NY8 := Aside0.mk (NY7.out.below hb)
          have TT8 := Aside0.mk (blk_below TT7.out hb)
          clear hb HX7 HY7 NX7 NY7
          have NNew8 := Aside0.mk hn
          refine hK.out _ _ ⟨HX8.out.x0, HX8.out.x1, HX8.out.x2, HX8.out.x3, HY8.out.x0, HY8.out.x1, HY8.out.x2, HY8.out.x3⟩ (fun hHeld => ?_)
          clear hK K
          refine pz_ 5 28 HT_ ?_
          refine pz_ 6 34 HT_ ?_
          refine pz_ 7 35 HT_ ?_
          exact norm_ pu_ (JNN.out ((XA, xc), (YA, yc), bM) _ ⟨HX8, HY8, NX8, NY8, NNew8, TT8, LT⟩)
      · refine value_ (by rfl) rfl (v := .pointer (some ⟨v5w.heap.size, 0, none⟩)) (w1 := v5w.alloc (.cells #[.int .i64 0, .int .i64 0, .slice none 0 0, .slice none 0 0] 27)) (by first | (go_simp; done) | (go_simp; rfl)) ?_
        have hb : Below v5w.heap.size v5w (v5w.alloc (.cells #[.int .i64 0, .int .i64 0, .slice none 0 0, .slice none 0 0] 27)) := (Below.refl _ _).alloc (Nat.le_refl _) _
        have hx := blk_new v5w (.cells #[.int .i64 0, .int .i64 0, .slice none 0 0, .slice none 0 0] 27)
        have hl0 := blk_lt HX5.out.at_
        have hl1 := blk_lt HY5.out.at_
        obtain ⟨bM, hbM⟩ : ∃ bM, v5w.heap.size = bM := ⟨_, rfl⟩
        rw [hbM] at hx hl0 hl1
        rw [hbM]
        have hle := Nat.le_of_eq hbM
        clear hbM
        generalize v5w.alloc (.cells #[.int .i64 0, .int .i64 0, .slice none 0 0, .slice none 0 0] 27) = v11w at *
        have LT := Aside0.mk (show b < bM ∧ b + 1 < bM from ⟨hl0, hl1⟩)
        clear hl0 hl1
        have HX6 := Aside0.mk (HX5.out.next hb)
        have HY6 := Aside0.mk (HY5.out.next hb)
        have NX6 := Aside0.mk ((NF.ap NX5.out (b := bM) hle).below hb)
        have NY6 := Aside0.mk ((NF.ap NY5.out (b := bM) hle).below hb)
        clear hb HX5 HY5 NX5 NY5 hle
        have TT6 := Aside0.mk hx
        refine hK.out _ _ ⟨HX6.out.x0, HX6.out.x1, HX6.out.x2, HX6.out.x3, HY6.out.x0, HY6.out.x1, HY6.out.x2, HY6.out.x3⟩ (fun hHeld => ?_)
        clear hK K
        refine oz_ 3 32 HT_ (fun K hK => ?_)
        refine goes_ Try.func16 (by kernel_rfl) rfl #[.agg #[.int .i64 bk, .int .i64 bs, .slice B2 bi.length d2, .slice B3 bo.length d3]] (by rfl) rfl rfl ma_ ?_
        refine (ours_c NY6.out.nc bk bs).mono ?_
        rintro e v12w ⟨rfl, hb⟩
        refine ⟨_, rfl, ?_⟩
        have HX7 := Aside0.mk (HX6.out.next hb)
        have HY7 := Aside0.mk (HY6.out.next hb)
        have NX7 := Aside0.mk (NX6.out.below hb)
        have NY7 := Aside0.mk (NY6.out.below hb)
        have TT7 := Aside0.mk (blk_below TT6.out hb)
        clear hb HX6 HY6 NX6 NY6
        refine hK.out _ _ ⟨HX7.out.x0, HX7.out.x1, HX7.out.x2, HX7.out.x3, HY7.out.x0, HY7.out.x1, HY7.out.x2, HY7.out.x3⟩ (fun hHeld => ?_)
        clear hK K
        refine oz_ 4 33 HT_ (fun K hK => ?_)
        refine goes_ Try.func18 (by kernel_rfl) rfl #[.agg #[.int .i64 ak, .int .i64 as_, .slice A2 ai.length c2, .slice A3 ao.length c3], .agg #[.int .i64 bk, .int .i64 bs, .slice B2 bi.length d2, .slice B3 bo.length d3]] (by rfl) rfl rfl ma_ ?_
        refine (merge_ap NX7.out NY7.out (blk_lt TT7.out) ak as_ bk bs (by have := HL.out; omega) (im := ([] : List S44)) (os := ([] : List S46)) 0 0 1 HM0.out).mono ?_
        rintro e v13w ⟨XA, xc, YA, yc, rfl, hn, hb⟩
        refine ⟨_, rfl, ?_⟩
        have HX8 := Aside0.mk (HX7.out.next hb)
        have HY8 := Aside0.mk (HY7.out.next hb)
        have NX8 := Aside0.mk (NX7.out.below hb)
        have NY8 := Aside0.mk (NY7.out.below hb)
        have TT8 := Aside0.mk (blk_below TT7.out hb)
        clear hb HX7 HY7 NX7 NY7
        have NNew8 := Aside0.mk hn
        refine hK.out _ _ ⟨HX8.out.x0, HX8.out.x1, HX8.out.x2, HX8.out.x3, HY8.out.x0, HY8.out.x1, HY8.out.x2, HY8.out.x3⟩ (fun hHeld => ?_)
        clear hK K
        refine pz_ 5 28 HT_ ?_
        refine pz_ 6 34 HT_ ?_
        refine pz_ 7 35 HT_ ?_
        exact norm_ pu_ (JNN.out ((XA, xc), (YA, yc), bM) _ ⟨HX8, HY8, NX8, NY8, NNew8, TT8, LT⟩)
    · refine value_ (by rfl) rfl (v := .pointer (some ⟨w4.heap.size, 0, none⟩)) (w1 := w4.alloc (.cells #[.int .i64 0, .int .i64 0, .slice none 0 0, .slice none 0 0] 27)) (by first | (go_simp; done) | (go_simp; rfl)) ?_
      have hb : Below w4.heap.size w4 (w4.alloc (.cells #[.int .i64 0, .int .i64 0, .slice none 0 0, .slice none 0 0] 27)) := (Below.refl _ _).alloc (Nat.le_refl _) _
      have hx := blk_new w4 (.cells #[.int .i64 0, .int .i64 0, .slice none 0 0, .slice none 0 0] 27)
      have hl0 := blk_lt HX4.out.at_
      have hl1 := blk_lt HY4.out.at_
      obtain ⟨bM, hbM⟩ : ∃ bM, w4.heap.size = bM := ⟨_, rfl⟩
      rw [hbM] at hx hl0 hl1
      rw [hbM]
      have hle := Nat.le_of_eq hbM
      clear hbM
      generalize w4.alloc (.cells #[.int .i64 0, .int .i64 0, .slice none 0 0, .slice none 0 0] 27) = v14w at *
      have LT := Aside0.mk (show b < bM ∧ b + 1 < bM from ⟨hl0, hl1⟩)
      clear hl0 hl1
      have HX5 := Aside0.mk (HX4.out.next hb)
      have HY5 := Aside0.mk (HY4.out.next hb)
      have NX5 := Aside0.mk ((NF.ap NX4.out (b := bM) hle).below hb)
      have NY5 := Aside0.mk ((NF.ap NY4.out (b := bM) hle).below hb)
      clear hb HX4 HY4 NX4 NY4 hle
      have TT5 := Aside0.mk hx
      refine hK.out _ _ ⟨HX5.out.x0, HX5.out.x1, HX5.out.x2, HX5.out.x3, HY5.out.x0, HY5.out.x1, HY5.out.x2, HY5.out.x3⟩ (fun hHeld => ?_)
      clear hK K
      refine oz_ 1 30 HT_ (fun K hK => ?_)
      refine goes_ Try.func16 (by kernel_rfl) rfl #[.agg #[.int .i64 ak, .int .i64 as_, .slice A2 ai.length c2, .slice A3 ao.length c3]] (by rfl) rfl rfl ma_ ?_
      refine (ours_c NX5.out.nc ak as_).mono ?_
      rintro e v15w ⟨rfl, hb⟩
      refine ⟨_, rfl, ?_⟩
      have HX6 := Aside0.mk (HX5.out.next hb)
      have HY6 := Aside0.mk (HY5.out.next hb)
      have NX6 := Aside0.mk (NX5.out.below hb)
      have NY6 := Aside0.mk (NY5.out.below hb)
      have TT6 := Aside0.mk (blk_below TT5.out hb)
      clear hb HX5 HY5 NX5 NY5
      refine hK.out _ _ ⟨HX6.out.x0, HX6.out.x1, HX6.out.x2, HX6.out.x3, HY6.out.x0, HY6.out.x1, HY6.out.x2, HY6.out.x3⟩ (fun hHeld => ?_)
      clear hK K
      refine oz_ 3 32 HT_ (fun K hK => ?_)
      refine goes_ Try.func16 (by kernel_rfl) rfl #[.agg #[.int .i64 bk, .int .i64 bs, .slice B2 bi.length d2, .slice B3 bo.length d3]] (by rfl) rfl rfl ma_ ?_
      refine (ours_c NY6.out.nc bk bs).mono ?_
      rintro e v16w ⟨rfl, hb⟩
      refine ⟨_, rfl, ?_⟩
      have HX7 := Aside0.mk (HX6.out.next hb)
      have HY7 := Aside0.mk (HY6.out.next hb)
      have NX7 := Aside0.mk (NX6.out.below hb)
      have NY7 := Aside0.mk (NY6.out.below hb)
      have TT7 := Aside0.mk (blk_below TT6.out hb)
      clear hb HX6 HY6 NX6 NY6
      refine hK.out _ _ ⟨HX7.out.x0, HX7.out.x1, HX7.out.x2, HX7.out.x3, HY7.out.x0, HY7.out.x1, HY7.out.x2, HY7.out.x3⟩ (fun hHeld => ?_)
      clear hK K
      refine oz_ 4 33 HT_ (fun K hK => ?_)
      refine goes_ Try.func18 (by kernel_rfl) rfl #[.agg #[.int .i64 ak, .int .i64 as_, .slice A2 ai.length c2, .slice A3 ao.length c3], .agg #[.int .i64 bk, .int .i64 bs, .slice B2 bi.length d2, .slice B3 bo.length d3]] (by rfl) rfl rfl ma_ ?_
      refine (merge_ap NX7.out NY7.out (blk_lt TT7.out) ak as_ bk bs (by have := HL.out; omega) (im := ([] : List S44)) (os := ([] : List S46)) 0 0 1 HM0.out).mono ?_
      rintro e v17w ⟨XA, xc, YA, yc, rfl, hn, hb⟩
      refine ⟨_, rfl, ?_⟩
      have HX8 := Aside0.mk (HX7.out.next hb)
      have HY8 := Aside0.mk (HY7.out.next hb)
      have NX8 := Aside0.mk (NX7.out.below hb)
      have NY8 := Aside0.mk (NY7.out.below hb)
      have TT8 := Aside0.mk (blk_below TT7.out hb)
      clear hb HX7 HY7 NX7 NY7
      have NNew8 := Aside0.mk hn
      refine hK.out _ _ ⟨HX8.out.x0, HX8.out.x1, HX8.out.x2, HX8.out.x3, HY8.out.x0, HY8.out.x1, HY8.out.x2, HY8.out.x3⟩ (fun hHeld => ?_)
      clear hK K
      refine pz_ 5 28 HT_ ?_
      refine pz_ 6 34 HT_ ?_
      refine pz_ 7 35 HT_ ?_
      exact norm_ pu_ (JNN.out ((XA, xc), (YA, yc), bM) _ ⟨HX8, HY8, NX8, NY8, NNew8, TT8, LT⟩)
  case hcont =>
    rintro ⟨⟨X0A, x0c⟩, ⟨Y0A, y0c⟩, b0M⟩ w24 ⟨HX24, HY24, NX24, NY24, NNew, TT, LT⟩
    simp only at NNew TT LT
    refine norm_ (a' := ?_) ?_ ?_
    rotate_left
    · simp only [putAll, Act.put, List.setIfInBounds_toArray, List.set_cons_zero, List.set_cons_succ]; rfl
    clear HX4 HY4 NX4 NY4
    refine last_ (i := 9) (N := none) #[true, true, true, true, true, true, true, true, true, true, false] rfl rfl (one_of HT_.out (by kernel_rfl)) (by decide) (fun K hK => ?_)
    obtain ⟨z0, f0, z1, f1, z2, f2, z3, f3, k4⟩ := put4c (.int .i64 0) (.int .i64 0) (.slice X0A 0 x0c) (.slice Y0A 0 y0c) TT.out
    have hge : w.heap.size ≤ b0M := by have := HX24.out.ge; have := LT.out; omega
    have HX25 := Aside0.mk (B4.set (B4.set (B4.set (B4.set HX24.out (k := 0) (show b ≠ b0M by have := LT.out; omega) hge (.int .i64 0)) (k := 1) (show b ≠ b0M by have := LT.out; omega) hge (.int .i64 0)) (k := 2) (show b ≠ b0M by have := LT.out; omega) hge (.slice X0A 0 x0c)) (k := 3) (show b ≠ b0M by have := LT.out; omega) hge (.slice Y0A 0 y0c))
    have HY25 := Aside0.mk (B4.set (B4.set (B4.set (B4.set HY24.out (k := 0) (show b + 1 ≠ b0M by have := LT.out; omega) hge (.int .i64 0)) (k := 1) (show b + 1 ≠ b0M by have := LT.out; omega) hge (.int .i64 0)) (k := 2) (show b + 1 ≠ b0M by have := LT.out; omega) hge (.slice X0A 0 x0c)) (k := 3) (show b + 1 ≠ b0M by have := LT.out; omega) hge (.slice Y0A 0 y0c))
    have far : ∀ j, j ≠ b0M → ((((w24.setCell ⟨b0M, 0, none⟩ (.int .i64 0)).setCell ⟨b0M, 1, none⟩ (.int .i64 0)).setCell ⟨b0M, 2, none⟩ (.slice X0A 0 x0c)).setCell ⟨b0M, 3, none⟩ (.slice Y0A 0 y0c)).heap[j]? = w24.heap[j]? := fun j hj => far4 hj
    have NX25 := Aside0.mk (AP.far NX24.out far)
    have NY25 := Aside0.mk (AP.far NY24.out far)
    have NM25 := Aside0.mk (AP.far NNew.out far)
    have HM25 := Aside0.mk (show B4 w b0M 27 (.int .i64 0) (.int .i64 0) (.slice X0A 0 x0c) (.slice Y0A 0 y0c) ((((w24.setCell ⟨b0M, 0, none⟩ (.int .i64 0)).setCell ⟨b0M, 1, none⟩ (.int .i64 0)).setCell ⟨b0M, 2, none⟩ (.slice X0A 0 x0c)).setCell ⟨b0M, 3, none⟩ (.slice Y0A 0 y0c)) from ⟨HX25.out.below, k4, hge⟩)
    clear k4 far hge TT LT NNew HX24 HY24 NX24 NY24
    refine skip_ (w1 := (((w24.setCell ⟨b0M, 0, none⟩ (.int .i64 0)).setCell ⟨b0M, 1, none⟩ (.int .i64 0)).setCell ⟨b0M, 2, none⟩ (.slice X0A 0 x0c)).setCell ⟨b0M, 3, none⟩ (.slice Y0A 0 y0c)) (by rfl) rfl (by first | (go_simp; done) | (go_simp; rfl)) ?_
    refine hK.out _ _ ?_
    clear hK K z0 f0 z1 f1 z2 f2 z3 f3
    refine last_ (i := 10) (N := some 9) #[true, true, true, true, true, true, true, true, true, true, true] rfl rfl (one_of HT_.out (by kernel_rfl)) (by decide) (fun K hK => ?_)
    refine value_ (v := .int .i64 1) (w1 := (((w24.setCell ⟨b0M, 0, none⟩ (.int .i64 0)).setCell ⟨b0M, 1, none⟩ (.int .i64 0)).setCell ⟨b0M, 2, none⟩ (.slice X0A 0 x0c)).setCell ⟨b0M, 3, none⟩ (.slice Y0A 0 y0c)) (by rfl) rfl (by first | (go_simp; done) | (go_simp; rfl)) ?_
    refine hK.out _ _ ?_
    clear hK K
    refine done_ (done_of HT_.out (by kernel_rfl)) ?_
    clear HT_ HW_ hHeld
    generalize (((w24.setCell ⟨b0M, 0, none⟩ (.int .i64 0)).setCell ⟨b0M, 1, none⟩ (.int .i64 0)).setCell ⟨b0M, 2, none⟩ (.slice X0A 0 x0c)).setCell ⟨b0M, 3, none⟩ (.slice Y0A 0 y0c) = w25 at *
    have xX0 := HX25.out.x0; have xX1 := HX25.out.x1; have xX2 := HX25.out.x2; have xX3 := HX25.out.x3; have xY0 := HY25.out.x0; have xY1 := HY25.out.x1; have xY2 := HY25.out.x2; have xY3 := HY25.out.x3; have xM0 := HM25.out.x0; have xM1 := HM25.out.x1; have xM2 := HM25.out.x2; have xM3 := HM25.out.x3
    go_wp2
    go_ret
    exact ⟨rfl, HX25.out.below⟩
set_option maxRecDepth 100000 in
set_option maxHeartbeats 12800000 in
theorem merges_bad13 (hna : NC w A2 c2 ai A3 c3 ao) (hnb : NC w B2 d2 bi B3 d3 bo) (hf : fewB 100 ai ao = true) (hg : fewB 100 bi bo = true) (hm : mergeR ak as_ ai ao bk bs bi bo = (0, 0, [], [], 13)) (ho : 256 < ao.length + bo.length) : MergesOk ak as_ A2 c2 ai A3 c3 ao bk bs B2 d2 bi B3 d3 bo blk w := by
  have hfa := few_parts hf
  have hfb := few_parts hg
  have HL := Aside0.mk (show ai.length ≤ 100 ∧ ao.length ≤ 100 ∧ bi.length ≤ 100 ∧ bo.length ≤ 100 by omega)
  clear hfa hfb
  have HM0 := Aside0.mk hm
  clear hm
  have HO := Aside0.mk ho
  clear ho
  obtain ⟨w0, hw0⟩ : ∃ w0, (w.alloc (.cells #[.int .i64 ak, .int .i64 as_, .slice A2 ai.length c2, .slice A3 ao.length c3] 32)).alloc (.cells #[.int .i64 bk, .int .i64 bs, .slice B2 bi.length d2, .slice B3 bo.length d3] 32) = w0 := ⟨_, rfl⟩
  obtain ⟨hX, hY⟩ := boxes2m w 32 _ _ _ _ _ _ _ _ w0 hw0
  have NX0 := Aside0.mk (hna.nf.below hX.below)
  have NY0 := Aside0.mk (hnb.nf.below hX.below)
  have hu := Try.underlying32
  have hu2 := Try.underlying27
  have hu3 := Try.underlying44
  unfold MergesOk
  obtain ⟨b, hb⟩ : ∃ b, w.heap.size = b := ⟨_, rfl⟩
  rw [hb] at hX hY
  have HX0 := Aside0.mk hX
  have HY0 := Aside0.mk hY
  clear hX hY hna hnb
  go_enter Try.func5, Try.ntmps5
  go_upto_region 1 with (fail)
  (try rw [hw0])
  clear hw0 hb
  have C9 := Aside0.mk (fun W => awake_c W)
  have FA := Aside0.mk (fun W (h : NC W A2 c2 ai A3 c3 ao) => few_c h ak as_ 100 (by omega))
  have FB := Aside0.mk (fun W (h : NC W B2 d2 bi B3 d3 bo) => few_c h bk bs 100 (by omega))
  simp only [hf, hg] at FA FB
  clear hf  hg
  have xX0 := HX0.out.x0; have xX1 := HX0.out.x1; have xX2 := HX0.out.x2; have xX3 := HX0.out.x3; have xY0 := HY0.out.x0; have xY1 := HY0.out.x1; have xY2 := HY0.out.x2; have xY3 := HY0.out.x3
  go_upto_region 4 with (first | (go_at_call 9; refine (C9.out _).mono ?_; rintro e w1 ⟨rfl, hb⟩; clear xX0 xX1 xX2 xX3 xY0 xY1 xY2 xY3 C9; have HX1 := Aside0.mk (HX0.out.next hb); have HY1 := Aside0.mk (HY0.out.next hb); have NX1 := Aside0.mk (NX0.out.below hb); have NY1 := Aside0.mk (NY0.out.below hb); clear hb HX0 HY0 NX0 NY0; have xX0 := HX1.out.x0; have xX1 := HX1.out.x1; have xX2 := HX1.out.x2; have xX3 := HX1.out.x3; have xY0 := HY1.out.x0; have xY1 := HY1.out.x1; have xY2 := HY1.out.x2; have xY3 := HY1.out.x3) | (go_at_call 15; refine (FA.out _ NX1.out.nc).mono ?_; rintro e w2 ⟨rfl, hb⟩; clear xX0 xX1 xX2 xX3 xY0 xY1 xY2 xY3 FA; have HX2 := Aside0.mk (HX1.out.next hb); have HY2 := Aside0.mk (HY1.out.next hb); have NX2 := Aside0.mk (NX1.out.below hb); have NY2 := Aside0.mk (NY1.out.below hb); clear hb HX1 HY1 NX1 NY1; have xX0 := HX2.out.x0; have xX1 := HX2.out.x1; have xX2 := HX2.out.x2; have xX3 := HX2.out.x3; have xY0 := HY2.out.x0; have xY1 := HY2.out.x1; have xY2 := HY2.out.x2; have xY3 := HY2.out.x3) | (go_at_call 15; refine (FB.out _ NY2.out.nc).mono ?_; rintro e w3 ⟨rfl, hb⟩; clear xX0 xX1 xX2 xX3 xY0 xY1 xY2 xY3 FB; have HX3 := Aside0.mk (HX2.out.next hb); have HY3 := Aside0.mk (HY2.out.next hb); have NX3 := Aside0.mk (NX2.out.below hb); have NY3 := Aside0.mk (NY2.out.below hb); clear hb HX2 HY2 NX2 NY2; have xX0 := HX3.out.x0; have xX1 := HX3.out.x1; have xX2 := HX3.out.x2; have xX3 := HX3.out.x3; have xY0 := HY3.out.x0; have xY1 := HY3.out.x1; have xY2 := HY3.out.x2; have xY3 := HY3.out.x3))
  have hb : Below w3.heap.size w3 w3.drew := (Below.refl _ _).drew
  clear xX0 xX1 xX2 xX3 xY0 xY1 xY2 xY3
  have HX4 := Aside0.mk (HX3.out.next hb)
  have HY4 := Aside0.mk (HY3.out.next hb)
  have NX4 := Aside0.mk (NX3.out.below hb)
  have NY4 := Aside0.mk (NY3.out.below hb)
  clear hb HX3 HY3 NX3 NY3
  refine start_ (n := 11) (S := fun w' => w'.cell? ⟨b, 0, none⟩ = some (.int .i64 ak) ∧ w'.cell? ⟨b, 1, none⟩ = some (.int .i64 as_) ∧ w'.cell? ⟨b, 2, none⟩ = some (.slice A2 ai.length c2) ∧ w'.cell? ⟨b, 3, none⟩ = some (.slice A3 ao.length c3) ∧ w'.cell? ⟨b + 1, 0, none⟩ = some (.int .i64 bk) ∧ w'.cell? ⟨b + 1, 1, none⟩ = some (.int .i64 bs) ∧ w'.cell? ⟨b + 1, 2, none⟩ = some (.slice B2 bi.length d2) ∧ w'.cell? ⟨b + 1, 3, none⟩ = some (.slice B3 bo.length d3)) (ds := [9, 10]) #[false, false, false, false, false, false, false, false, false, false, false] rfl rfl rfl ⟨HX4.out.x0, HX4.out.x1, HX4.out.x2, HX4.out.x3, HY4.out.x0, HY4.out.x1, HY4.out.x2, HY4.out.x3⟩ (fun hHeld => ?_)
  refine with_tabW regP4.tab regP4.bits (fun HT_ HW_ => ?_)
  generalize w3.drew = w4 at *
  try clear w3
  refine tz_ 0 29 HT_ HW_ hHeld ?_
  refine tz_ 2 31 HT_ HW_ hHeld ?_
  refine join_ (σ := (Option Addr × Nat) × (Option Addr × Nat) × Nat) 2 #[true, true, true, true, true, true, true, true, true, false, false] (fun q => [(30, .agg #[.int .i64 ak, .int .i64 as_, .slice A2 ai.length c2, .slice A3 ao.length c3]), (32, .agg #[.int .i64 bk, .int .i64 bs, .slice B2 bi.length d2, .slice B3 bo.length d3]), (33, .tuple #[.agg #[.int .i64 0, .int .i64 0, .slice q.1.1 0 q.1.2, .slice q.2.1.1 0 q.2.1.2], .int .i64 13]), (28, .tuple #[.agg #[.int .i64 0, .int .i64 0, .slice q.1.1 0 q.1.2, .slice q.2.1.1 0 q.2.1.2], .int .i64 13]), (34, .agg #[.int .i64 0, .int .i64 0, .slice q.1.1 0 q.1.2, .slice q.2.1.1 0 q.2.1.2]), (35, .int .i64 13), (8, .pointer (some ⟨q.2.2, 0, none⟩))]) (fun q w' => Aside0 (B4 w (b) 32 (.int .i64 ak) (.int .i64 as_) (.slice A2 ai.length c2) (.slice A3 ao.length c3) w') ∧ Aside0 (B4 w (b + 1) 32 (.int .i64 bk) (.int .i64 bs) (.slice B2 bi.length d2) (.slice B3 bo.length d3) w') ∧ Aside0 (AP q.2.2 w' A2 c2 ai A3 c3 ao) ∧ Aside0 (AP q.2.2 w' B2 d2 bi B3 d3 bo) ∧ Aside0 (AP q.2.2 w' q.1.1 q.1.2 ([] : List S44) q.2.1.1 q.2.1.2 ([] : List S46)) ∧ Aside0 (w'.heap[q.2.2]? = some (.cells #[.int .i64 0, .int .i64 0, .slice none 0 0, .slice none 0 0] 27 (0, 0))) ∧ Aside0 (b < q.2.2 ∧ b + 1 < q.2.2)) ?hcont ?hord
  case hord =>
    intro JN
    have JNN := Aside0.mk JN
    clear JN
    refine two_ (i := 1) (j := 8) (Ni := some 30) (Nj := some 8) #[true, true, true, false, false, false, false, false, false, false, false] #[true, false, true, false, false, false, false, false, true, false, false] rfl rfl rfl rfl (two_of HT_.out (by kernel_rfl)) (by decide) (by decide) (fun K hK => ?_) (fun K hK => ?_)
    · refine goes_ Try.func16 (by kernel_rfl) rfl #[.agg #[.int .i64 ak, .int .i64 as_, .slice A2 ai.length c2, .slice A3 ao.length c3]] (by rfl) rfl rfl ma_ ?_
      refine (ours_c NX4.out.nc ak as_).mono ?_
      rintro e v5w ⟨rfl, hb⟩
      refine ⟨_, rfl, ?_⟩
      have HX5 := Aside0.mk (HX4.out.next hb)
      have HY5 := Aside0.mk (HY4.out.next hb)
      have NX5 := Aside0.mk (NX4.out.below hb)
      have NY5 := Aside0.mk (NY4.out.below hb)
      clear hb HX4 HY4 NX4 NY4
      refine hK.out _ _ ⟨HX5.out.x0, HX5.out.x1, HX5.out.x2, HX5.out.x3, HY5.out.x0, HY5.out.x1, HY5.out.x2, HY5.out.x3⟩ (fun hHeld => ?_)
      clear hK K
      refine two_ (i := 3) (j := 8) (Ni := some 32) (Nj := some 8) #[true, true, true, true, false, false, false, false, false, false, false] #[true, true, true, false, false, false, false, false, true, false, false] rfl rfl rfl rfl (two_of HT_.out (by kernel_rfl)) (by decide) (by decide) (fun K hK => ?_) (fun K hK => ?_)
      · refine goes_ Try.func16 (by kernel_rfl) rfl #[.agg #[.int .i64 bk, .int .i64 bs, .slice B2 bi.length d2, .slice B3 bo.length d3]] (by rfl) rfl rfl ma_ ?_
        refine (ours_c NY5.out.nc bk bs).mono ?_
        rintro e v6w ⟨rfl, hb⟩
        refine ⟨_, rfl, ?_⟩
        have HX6 := Aside0.mk (HX5.out.next hb)
        have HY6 := Aside0.mk (HY5.out.next hb)
        have NX6 := Aside0.mk (NX5.out.below hb)
        have NY6 := Aside0.mk (NY5.out.below hb)
        clear hb HX5 HY5 NX5 NY5
        refine hK.out _ _ ⟨HX6.out.x0, HX6.out.x1, HX6.out.x2, HX6.out.x3, HY6.out.x0, HY6.out.x1, HY6.out.x2, HY6.out.x3⟩ (fun hHeld => ?_)
        clear hK K
        refine two_ (i := 4) (j := 8) (Ni := some 33) (Nj := some 8) #[true, true, true, true, true, false, false, false, false, false, false] #[true, true, true, true, false, false, false, false, true, false, false] rfl rfl rfl rfl (two_of HT_.out (by kernel_rfl)) (by decide) (by decide) (fun K hK => ?_) (fun K hK => ?_)
        · refine goes_ Try.func18 (by kernel_rfl) rfl #[.agg #[.int .i64 ak, .int .i64 as_, .slice A2 ai.length c2, .slice A3 ao.length c3], .agg #[.int .i64 bk, .int .i64 bs, .slice B2 bi.length d2, .slice B3 bo.length d3]] (by rfl) rfl rfl ma_ ?_
          refine (merge_nf NX6.out NY6.out ak as_ bk bs (by have := HL.out; omega) (im := ([] : List S44)) (os := ([] : List S46)) 0 0 13 HM0.out).mono ?_
          rintro e v7w ⟨XA, xc, YA, yc, rfl, hn, hb⟩
          refine ⟨_, rfl, ?_⟩
          have HX7 := Aside0.mk (HX6.out.next hb)
          have HY7 := Aside0.mk (HY6.out.next hb)
          have NX7 := Aside0.mk (NX6.out.below hb)
          have NY7 := Aside0.mk (NY6.out.below hb)
          clear hb HX6 HY6 NX6 NY6
          have NNew7 := Aside0.mk hn
          refine hK.out _ _ ⟨HX7.out.x0, HX7.out.x1, HX7.out.x2, HX7.out.x3, HY7.out.x0, HY7.out.x1, HY7.out.x2, HY7.out.x3⟩ (fun hHeld => ?_)
          clear hK K
          refine pz_ 5 28 HT_ ?_
          refine pz_ 6 34 HT_ ?_
          refine pz_ 7 35 HT_ ?_
          refine oz_ 8 8 HT_ (fun K hK => ?_)
          refine value_ (by rfl) rfl (v := .pointer (some ⟨v7w.heap.size, 0, none⟩)) (w1 := v7w.alloc (.cells #[.int .i64 0, .int .i64 0, .slice none 0 0, .slice none 0 0] 27)) (by first | (go_simp; done) | (go_simp; rfl)) ?_
          have hb : Below v7w.heap.size v7w (v7w.alloc (.cells #[.int .i64 0, .int .i64 0, .slice none 0 0, .slice none 0 0] 27)) := (Below.refl _ _).alloc (Nat.le_refl _) _
          have hx := blk_new v7w (.cells #[.int .i64 0, .int .i64 0, .slice none 0 0, .slice none 0 0] 27)
          have hl0 := blk_lt HX7.out.at_
          have hl1 := blk_lt HY7.out.at_
          obtain ⟨bM, hbM⟩ : ∃ bM, v7w.heap.size = bM := ⟨_, rfl⟩
          rw [hbM] at hx hl0 hl1
          rw [hbM]
          have hle := Nat.le_of_eq hbM
          clear hbM
          generalize v7w.alloc (.cells #[.int .i64 0, .int .i64 0, .slice none 0 0, .slice none 0 0] 27) = v8w at *
          have LT := Aside0.mk (show b < bM ∧ b + 1 < bM from ⟨hl0, hl1⟩)
          clear hl0 hl1
          have HX8 := Aside0.mk (HX7.out.next hb)
          have HY8 := Aside0.mk (HY7.out.next hb)
          have NX8 := Aside0.mk ((NF.ap NX7.out (b := bM) hle).below hb)
          have NY8 := Aside0.mk ((NF.ap NY7.out (b := bM) hle).below hb)
          have NNew8 := Aside0.mk ((NF.ap NNew7.out (b := bM) hle).below hb)
          clear hb HX7 HY7 NX7 NY7 hle
          have TT8 := Aside0.mk hx
          refine hK.out _ _ ⟨HX8.out.x0, HX8.out.x1, HX8.out.x2, HX8.out.x3, HY8.out.x0, HY8.out.x1, HY8.out.x2, HY8.out.x3⟩ (fun hHeld => ?_)
          clear hK K
          exact norm_ pu_ (JNN.out ((XA, xc), (YA, yc), bM) _ ⟨HX8, HY8, NX8, NY8, NNew8, TT8, LT⟩)
        · refine value_ (by rfl) rfl (v := .pointer (some ⟨v6w.heap.size, 0, none⟩)) (w1 := v6w.alloc (.cells #[.int .i64 0, .int .i64 0, .slice none 0 0, .slice none 0 0] 27)) (by first | (go_simp; done) | (go_simp; rfl)) ?_
          have hb : Below v6w.heap.size v6w (v6w.alloc (.cells #[.int .i64 0, .int .i64 0, .slice none 0 0, .slice none 0 0] 27)) := (Below.refl _ _).alloc (Nat.le_refl _) _
          have hx := blk_new v6w (.cells #[.int .i64 0, .int .i64 0, .slice none 0 0, .slice none 0 0] 27)
          have hl0 := blk_lt HX6.out.at_
          have hl1 := blk_lt HY6.out.at_
          obtain ⟨bM, hbM⟩ : ∃ bM, v6w.heap.size = bM := ⟨_, rfl⟩
          rw [hbM] at hx hl0 hl1
          rw [hbM]
          have hle := Nat.le_of_eq hbM
          clear hbM
          generalize v6w.alloc (.cells #[.int .i64 0, .int .i64 0, .slice none 0 0, .slice none 0 0] 27) = v9w at *
          have LT := Aside0.mk (show b < bM ∧ b + 1 < bM from ⟨hl0, hl1⟩)
          clear hl0 hl1
          have HX7 := Aside0.mk (HX6.out.next hb)
          have HY7 := Aside0.mk (HY6.out.next hb)
          have NX7 := Aside0.mk ((NF.ap NX6.out (b := bM) hle).below hb)
          have NY7 := Aside0.mk ((NF.ap NY6.out (b := bM) hle).below hb)
          clear hb HX6 HY6 NX6 NY6 hle
          have TT7 := Aside0.mk hx
          refine hK.out _ _ ⟨HX7.out.x0, HX7.out.x1, HX7.out.x2, HX7.out.x3, HY7.out.x0, HY7.out.x1, HY7.out.x2, HY7.out.x3⟩ (fun hHeld => ?_)
          clear hK K
          refine oz_ 4 33 HT_ (fun K hK => ?_)
          refine goes_ Try.func18 (by kernel_rfl) rfl #[.agg #[.int .i64 ak, .int .i64 as_, .slice A2 ai.length c2, .slice A3 ao.length c3], .agg #[.int .i64 bk, .int .i64 bs, .slice B2 bi.length d2, .slice B3 bo.length d3]] (by rfl) rfl rfl ma_ ?_
          refine (merge_ap NX7.out NY7.out (blk_lt TT7.out) ak as_ bk bs (by have := HL.out; omega) (im := ([] : List S44)) (os := ([] : List S46)) 0 0 13 HM0.out).mono ?_
          rintro e v10w ⟨XA, xc, YA, yc, rfl, hn, hb⟩
          refine ⟨_, rfl, ?_⟩
          have HX8 := Aside0.mk (HX7.out.next hb)
          have HY8 := Aside0.mk (HY7.out.next hb)
          have NX8 := Aside0.mk (NX7.out.below hb)
          have NY8 := Aside0.mk (NY7.out.below hb)
          have TT8 := Aside0.mk (blk_below TT7.out hb)
          clear hb HX7 HY7 NX7 NY7
          have NNew8 := Aside0.mk hn
          refine hK.out _ _ ⟨HX8.out.x0, HX8.out.x1, HX8.out.x2, HX8.out.x3, HY8.out.x0, HY8.out.x1, HY8.out.x2, HY8.out.x3⟩ (fun hHeld => ?_)
          clear hK K
          refine pz_ 5 28 HT_ ?_
          refine pz_ 6 34 HT_ ?_
          refine pz_ 7 35 HT_ ?_
          exact norm_ pu_ (JNN.out ((XA, xc), (YA, yc), bM) _ ⟨HX8, HY8, NX8, NY8, NNew8, TT8, LT⟩)
      · refine value_ (by rfl) rfl (v := .pointer (some ⟨v5w.heap.size, 0, none⟩)) (w1 := v5w.alloc (.cells #[.int .i64 0, .int .i64 0, .slice none 0 0, .slice none 0 0] 27)) (by first | (go_simp; done) | (go_simp; rfl)) ?_
        have hb : Below v5w.heap.size v5w (v5w.alloc (.cells #[.int .i64 0, .int .i64 0, .slice none 0 0, .slice none 0 0] 27)) := (Below.refl _ _).alloc (Nat.le_refl _) _
        have hx := blk_new v5w (.cells #[.int .i64 0, .int .i64 0, .slice none 0 0, .slice none 0 0] 27)
        have hl0 := blk_lt HX5.out.at_
        have hl1 := blk_lt HY5.out.at_
        obtain ⟨bM, hbM⟩ : ∃ bM, v5w.heap.size = bM := ⟨_, rfl⟩
        rw [hbM] at hx hl0 hl1
        rw [hbM]
        have hle := Nat.le_of_eq hbM
        clear hbM
        generalize v5w.alloc (.cells #[.int .i64 0, .int .i64 0, .slice none 0 0, .slice none 0 0] 27) = v11w at *
        have LT := Aside0.mk (show b < bM ∧ b + 1 < bM from ⟨hl0, hl1⟩)
        clear hl0 hl1
        have HX6 := Aside0.mk (HX5.out.next hb)
        have HY6 := Aside0.mk (HY5.out.next hb)
        have NX6 := Aside0.mk ((NF.ap NX5.out (b := bM) hle).below hb)
        have NY6 := Aside0.mk ((NF.ap NY5.out (b := bM) hle).below hb)
        clear hb HX5 HY5 NX5 NY5 hle
        have TT6 := Aside0.mk hx
        refine hK.out _ _ ⟨HX6.out.x0, HX6.out.x1, HX6.out.x2, HX6.out.x3, HY6.out.x0, HY6.out.x1, HY6.out.x2, HY6.out.x3⟩ (fun hHeld => ?_)
        clear hK K
        refine oz_ 3 32 HT_ (fun K hK => ?_)
        refine goes_ Try.func16 (by kernel_rfl) rfl #[.agg #[.int .i64 bk, .int .i64 bs, .slice B2 bi.length d2, .slice B3 bo.length d3]] (by rfl) rfl rfl ma_ ?_
        refine (ours_c NY6.out.nc bk bs).mono ?_
        rintro e v12w ⟨rfl, hb⟩
        refine ⟨_, rfl, ?_⟩
        have HX7 := Aside0.mk (HX6.out.next hb)
        have HY7 := Aside0.mk (HY6.out.next hb)
        have NX7 := Aside0.mk (NX6.out.below hb)
        have NY7 := Aside0.mk (NY6.out.below hb)
        have TT7 := Aside0.mk (blk_below TT6.out hb)
        clear hb HX6 HY6 NX6 NY6
        refine hK.out _ _ ⟨HX7.out.x0, HX7.out.x1, HX7.out.x2, HX7.out.x3, HY7.out.x0, HY7.out.x1, HY7.out.x2, HY7.out.x3⟩ (fun hHeld => ?_)
        clear hK K
        refine oz_ 4 33 HT_ (fun K hK => ?_)
        refine goes_ Try.func18 (by kernel_rfl) rfl #[.agg #[.int .i64 ak, .int .i64 as_, .slice A2 ai.length c2, .slice A3 ao.length c3], .agg #[.int .i64 bk, .int .i64 bs, .slice B2 bi.length d2, .slice B3 bo.length d3]] (by rfl) rfl rfl ma_ ?_
        refine (merge_ap NX7.out NY7.out (blk_lt TT7.out) ak as_ bk bs (by have := HL.out; omega) (im := ([] : List S44)) (os := ([] : List S46)) 0 0 13 HM0.out).mono ?_
        rintro e v13w ⟨XA, xc, YA, yc, rfl, hn, hb⟩
        refine ⟨_, rfl, ?_⟩
        have HX8 := Aside0.mk (HX7.out.next hb)
        have HY8 := Aside0.mk (HY7.out.next hb)
        have NX8 := Aside0.mk (NX7.out.below hb)
        have NY8 := Aside0.mk (NY7.out.below hb)
        have TT8 := Aside0.mk (blk_below TT7.out hb)
        clear hb HX7 HY7 NX7 NY7
        have NNew8 := Aside0.mk hn
        refine hK.out _ _ ⟨HX8.out.x0, HX8.out.x1, HX8.out.x2, HX8.out.x3, HY8.out.x0, HY8.out.x1, HY8.out.x2, HY8.out.x3⟩ (fun hHeld => ?_)
        clear hK K
        refine pz_ 5 28 HT_ ?_
        refine pz_ 6 34 HT_ ?_
        refine pz_ 7 35 HT_ ?_
        exact norm_ pu_ (JNN.out ((XA, xc), (YA, yc), bM) _ ⟨HX8, HY8, NX8, NY8, NNew8, TT8, LT⟩)
    · refine value_ (by rfl) rfl (v := .pointer (some ⟨w4.heap.size, 0, none⟩)) (w1 := w4.alloc (.cells #[.int .i64 0, .int .i64 0, .slice none 0 0, .slice none 0 0] 27)) (by first | (go_simp; done) | (go_simp; rfl)) ?_
      have hb : Below w4.heap.size w4 (w4.alloc (.cells #[.int .i64 0, .int .i64 0, .slice none 0 0, .slice none 0 0] 27)) := (Below.refl _ _).alloc (Nat.le_refl _) _
      have hx := blk_new w4 (.cells #[.int .i64 0, .int .i64 0, .slice none 0 0, .slice none 0 0] 27)
      have hl0 := blk_lt HX4.out.at_
      have hl1 := blk_lt HY4.out.at_
      obtain ⟨bM, hbM⟩ : ∃ bM, w4.heap.size = bM := ⟨_, rfl⟩
      rw [hbM] at hx hl0 hl1
      rw [hbM]
      have hle := Nat.le_of_eq hbM
      clear hbM
      generalize w4.alloc (.cells #[.int .i64 0, .int .i64 0, .slice none 0 0, .slice none 0 0] 27) = v14w at *
      have LT := Aside0.mk (show b < bM ∧ b + 1 < bM from ⟨hl0, hl1⟩)
      clear hl0 hl1
      have HX5 := Aside0.mk (HX4.out.next hb)
      have HY5 := Aside0.mk (HY4.out.next hb)
      have NX5 := Aside0.mk ((NF.ap NX4.out (b := bM) hle).below hb)
      have NY5 := Aside0.mk ((NF.ap NY4.out (b := bM) hle).below hb)
      clear hb HX4 HY4 NX4 NY4 hle
      have TT5 := Aside0.mk hx
      refine hK.out _ _ ⟨HX5.out.x0, HX5.out.x1, HX5.out.x2, HX5.out.x3, HY5.out.x0, HY5.out.x1, HY5.out.x2, HY5.out.x3⟩ (fun hHeld => ?_)
      clear hK K
      refine oz_ 1 30 HT_ (fun K hK => ?_)
      refine goes_ Try.func16 (by kernel_rfl) rfl #[.agg #[.int .i64 ak, .int .i64 as_, .slice A2 ai.length c2, .slice A3 ao.length c3]] (by rfl) rfl rfl ma_ ?_
      refine (ours_c NX5.out.nc ak as_).mono ?_
      rintro e v15w ⟨rfl, hb⟩
      refine ⟨_, rfl, ?_⟩
      have HX6 := Aside0.mk (HX5.out.next hb)
      have HY6 := Aside0.mk (HY5.out.next hb)
      have NX6 := Aside0.mk (NX5.out.below hb)
      have NY6 := Aside0.mk (NY5.out.below hb)
      have TT6 := Aside0.mk (blk_below TT5.out hb)
      clear hb HX5 HY5 NX5 NY5
      refine hK.out _ _ ⟨HX6.out.x0, HX6.out.x1, HX6.out.x2, HX6.out.x3, HY6.out.x0, HY6.out.x1, HY6.out.x2, HY6.out.x3⟩ (fun hHeld => ?_)
      clear hK K
      refine oz_ 3 32 HT_ (fun K hK => ?_)
      refine goes_ Try.func16 (by kernel_rfl) rfl #[.agg #[.int .i64 bk, .int .i64 bs, .slice B2 bi.length d2, .slice B3 bo.length d3]] (by rfl) rfl rfl ma_ ?_
      refine (ours_c NY6.out.nc bk bs).mono ?_
      rintro e v16w ⟨rfl, hb⟩
      refine ⟨_, rfl, ?_⟩
      have HX7 := Aside0.mk (HX6.out.next hb)
      have HY7 := Aside0.mk (HY6.out.next hb)
      have NX7 := Aside0.mk (NX6.out.below hb)
      have NY7 := Aside0.mk (NY6.out.below hb)
      have TT7 := Aside0.mk (blk_below TT6.out hb)
      clear hb HX6 HY6 NX6 NY6
      refine hK.out _ _ ⟨HX7.out.x0, HX7.out.x1, HX7.out.x2, HX7.out.x3, HY7.out.x0, HY7.out.x1, HY7.out.x2, HY7.out.x3⟩ (fun hHeld => ?_)
      clear hK K
      refine oz_ 4 33 HT_ (fun K hK => ?_)
      refine goes_ Try.func18 (by kernel_rfl) rfl #[.agg #[.int .i64 ak, .int .i64 as_, .slice A2 ai.length c2, .slice A3 ao.length c3], .agg #[.int .i64 bk, .int .i64 bs, .slice B2 bi.length d2, .slice B3 bo.length d3]] (by rfl) rfl rfl ma_ ?_
      refine (merge_ap NX7.out NY7.out (blk_lt TT7.out) ak as_ bk bs (by have := HL.out; omega) (im := ([] : List S44)) (os := ([] : List S46)) 0 0 13 HM0.out).mono ?_
      rintro e v17w ⟨XA, xc, YA, yc, rfl, hn, hb⟩
      refine ⟨_, rfl, ?_⟩
      have HX8 := Aside0.mk (HX7.out.next hb)
      have HY8 := Aside0.mk (HY7.out.next hb)
      have NX8 := Aside0.mk (NX7.out.below hb)
      have NY8 := Aside0.mk (NY7.out.below hb)
      have TT8 := Aside0.mk (blk_below TT7.out hb)
      clear hb HX7 HY7 NX7 NY7
      have NNew8 := Aside0.mk hn
      refine hK.out _ _ ⟨HX8.out.x0, HX8.out.x1, HX8.out.x2, HX8.out.x3, HY8.out.x0, HY8.out.x1, HY8.out.x2, HY8.out.x3⟩ (fun hHeld => ?_)
      clear hK K
      refine pz_ 5 28 HT_ ?_
      refine pz_ 6 34 HT_ ?_
      refine pz_ 7 35 HT_ ?_
      exact norm_ pu_ (JNN.out ((XA, xc), (YA, yc), bM) _ ⟨HX8, HY8, NX8, NY8, NNew8, TT8, LT⟩)
  case hcont =>
    rintro ⟨⟨X0A, x0c⟩, ⟨Y0A, y0c⟩, b0M⟩ w24 ⟨HX24, HY24, NX24, NY24, NNew, TT, LT⟩
    simp only at NNew TT LT
    refine norm_ (a' := ?_) ?_ ?_
    rotate_left
    · simp only [putAll, Act.put, List.setIfInBounds_toArray, List.set_cons_zero, List.set_cons_succ]; rfl
    clear HX4 HY4 NX4 NY4
    refine last_ (i := 9) (N := none) #[true, true, true, true, true, true, true, true, true, true, false] rfl rfl (one_of HT_.out (by kernel_rfl)) (by decide) (fun K hK => ?_)
    obtain ⟨z0, f0, z1, f1, z2, f2, z3, f3, k4⟩ := put4c (.int .i64 0) (.int .i64 0) (.slice X0A 0 x0c) (.slice Y0A 0 y0c) TT.out
    have hge : w.heap.size ≤ b0M := by have := HX24.out.ge; have := LT.out; omega
    have HX25 := Aside0.mk (B4.set (B4.set (B4.set (B4.set HX24.out (k := 0) (show b ≠ b0M by have := LT.out; omega) hge (.int .i64 0)) (k := 1) (show b ≠ b0M by have := LT.out; omega) hge (.int .i64 0)) (k := 2) (show b ≠ b0M by have := LT.out; omega) hge (.slice X0A 0 x0c)) (k := 3) (show b ≠ b0M by have := LT.out; omega) hge (.slice Y0A 0 y0c))
    have HY25 := Aside0.mk (B4.set (B4.set (B4.set (B4.set HY24.out (k := 0) (show b + 1 ≠ b0M by have := LT.out; omega) hge (.int .i64 0)) (k := 1) (show b + 1 ≠ b0M by have := LT.out; omega) hge (.int .i64 0)) (k := 2) (show b + 1 ≠ b0M by have := LT.out; omega) hge (.slice X0A 0 x0c)) (k := 3) (show b + 1 ≠ b0M by have := LT.out; omega) hge (.slice Y0A 0 y0c))
    have far : ∀ j, j ≠ b0M → ((((w24.setCell ⟨b0M, 0, none⟩ (.int .i64 0)).setCell ⟨b0M, 1, none⟩ (.int .i64 0)).setCell ⟨b0M, 2, none⟩ (.slice X0A 0 x0c)).setCell ⟨b0M, 3, none⟩ (.slice Y0A 0 y0c)).heap[j]? = w24.heap[j]? := fun j hj => far4 hj
    have NX25 := Aside0.mk (AP.far NX24.out far)
    have NY25 := Aside0.mk (AP.far NY24.out far)
    have NM25 := Aside0.mk (AP.far NNew.out far)
    have HM25 := Aside0.mk (show B4 w b0M 27 (.int .i64 0) (.int .i64 0) (.slice X0A 0 x0c) (.slice Y0A 0 y0c) ((((w24.setCell ⟨b0M, 0, none⟩ (.int .i64 0)).setCell ⟨b0M, 1, none⟩ (.int .i64 0)).setCell ⟨b0M, 2, none⟩ (.slice X0A 0 x0c)).setCell ⟨b0M, 3, none⟩ (.slice Y0A 0 y0c)) from ⟨HX25.out.below, k4, hge⟩)
    clear k4 far hge TT LT NNew HX24 HY24 NX24 NY24
    refine skip_ (w1 := (((w24.setCell ⟨b0M, 0, none⟩ (.int .i64 0)).setCell ⟨b0M, 1, none⟩ (.int .i64 0)).setCell ⟨b0M, 2, none⟩ (.slice X0A 0 x0c)).setCell ⟨b0M, 3, none⟩ (.slice Y0A 0 y0c)) (by rfl) rfl (by first | (go_simp; done) | (go_simp; rfl)) ?_
    refine hK.out _ _ ?_
    clear hK K z0 f0 z1 f1 z2 f2 z3 f3
    refine last_ (i := 10) (N := some 9) #[true, true, true, true, true, true, true, true, true, true, true] rfl rfl (one_of HT_.out (by kernel_rfl)) (by decide) (fun K hK => ?_)
    refine value_ (v := .int .i64 13) (w1 := (((w24.setCell ⟨b0M, 0, none⟩ (.int .i64 0)).setCell ⟨b0M, 1, none⟩ (.int .i64 0)).setCell ⟨b0M, 2, none⟩ (.slice X0A 0 x0c)).setCell ⟨b0M, 3, none⟩ (.slice Y0A 0 y0c)) (by rfl) rfl (by first | (go_simp; done) | (go_simp; rfl)) ?_
    refine hK.out _ _ ?_
    clear hK K
    refine done_ (done_of HT_.out (by kernel_rfl)) ?_
    clear HT_ HW_ hHeld
    generalize (((w24.setCell ⟨b0M, 0, none⟩ (.int .i64 0)).setCell ⟨b0M, 1, none⟩ (.int .i64 0)).setCell ⟨b0M, 2, none⟩ (.slice X0A 0 x0c)).setCell ⟨b0M, 3, none⟩ (.slice Y0A 0 y0c) = w25 at *
    have xX0 := HX25.out.x0; have xX1 := HX25.out.x1; have xX2 := HX25.out.x2; have xX3 := HX25.out.x3; have xY0 := HY25.out.x0; have xY1 := HY25.out.x1; have xY2 := HY25.out.x2; have xY3 := HY25.out.x3; have xM0 := HM25.out.x0; have xM1 := HM25.out.x1; have xM2 := HM25.out.x2; have xM3 := HM25.out.x3
    have hl := HL.out
    have ho := HO.out
    have v1 : wrap64 ((ao.length : Int) + (bo.length : Int)) = (ao.length : Int) + (bo.length : Int) := w64_of (by omega) (by omega)
    have v2 : (256 < (ao.length : Int) + (bo.length : Int)) = True := eq_true (by omega)
    clear hl ho
    go_wp2
    go_ret
    exact ⟨rfl, HX25.out.below⟩
set_option maxRecDepth 100000 in
set_option maxHeartbeats 12800000 in
theorem merges_ok (hna : NC w A2 c2 ai A3 c3 ao) (hnb : NC w B2 d2 bi B3 d3 bo) (hf : fewB 100 ai ao = true) (hg : fewB 100 bi bo = true) (im : List S44) (os : List S46) (hos : os = ao ++ bo) (hm : mergeR 1 as_ ai ao bk bs bi bo = (1, bs, im, os, 0)) (hs : saneN 1 bs im os = true) (h2 : mergeR 1 as_ ai ao 1 as_ [] [] = (1, as_, ai, ao, 0)) (hw : wantF blk (wantF blk ByteArray.empty ai) bi = wantF blk ByteArray.empty im) (hil : im.length ≤ 200) : MergesOk 1 as_ A2 c2 ai A3 c3 ao bk bs B2 d2 bi B3 d3 bo blk w := by
  have hfa := few_parts hf
  have hfb := few_parts hg
  have HL := Aside0.mk (show ai.length ≤ 100 ∧ ao.length ≤ 100 ∧ bi.length ≤ 100 ∧ bo.length ≤ 100 by omega)
  clear hfa hfb
  have HM0 := Aside0.mk hm
  clear hm
  have HM2 := Aside0.mk h2
  have HS := Aside0.mk hs
  skip
  have HW := Aside0.mk hw
  have HIL := Aside0.mk hil
  have HOS := Aside0.mk hos
  have HOL := Aside0.mk (show os.length = ao.length + bo.length by rw [hos, List.length_append])
  clear h2 hs hw hil hos
  obtain ⟨w0, hw0⟩ : ∃ w0, (w.alloc (.cells #[.int .i64 1, .int .i64 as_, .slice A2 ai.length c2, .slice A3 ao.length c3] 32)).alloc (.cells #[.int .i64 bk, .int .i64 bs, .slice B2 bi.length d2, .slice B3 bo.length d3] 32) = w0 := ⟨_, rfl⟩
  obtain ⟨hX, hY⟩ := boxes2m w 32 _ _ _ _ _ _ _ _ w0 hw0
  have NX0 := Aside0.mk (hna.nf.below hX.below)
  have NY0 := Aside0.mk (hnb.nf.below hX.below)
  have hu := Try.underlying32
  have hu2 := Try.underlying27
  have hu3 := Try.underlying44
  unfold MergesOk
  obtain ⟨b, hb⟩ : ∃ b, w.heap.size = b := ⟨_, rfl⟩
  rw [hb] at hX hY
  have HX0 := Aside0.mk hX
  have HY0 := Aside0.mk hY
  clear hX hY hna hnb
  go_enter Try.func5, Try.ntmps5
  go_upto_region 1 with (fail)
  (try rw [hw0])
  clear hw0 hb
  have C9 := Aside0.mk (fun W => awake_c W)
  have FA := Aside0.mk (fun W (h : NC W A2 c2 ai A3 c3 ao) => few_c h 1 as_ 100 (by omega))
  have FB := Aside0.mk (fun W (h : NC W B2 d2 bi B3 d3 bo) => few_c h bk bs 100 (by omega))
  simp only [hf, hg] at FA FB
  clear hf  hg
  have xX0 := HX0.out.x0; have xX1 := HX0.out.x1; have xX2 := HX0.out.x2; have xX3 := HX0.out.x3; have xY0 := HY0.out.x0; have xY1 := HY0.out.x1; have xY2 := HY0.out.x2; have xY3 := HY0.out.x3
  go_upto_region 4 with (first | (go_at_call 9; refine (C9.out _).mono ?_; rintro e w1 ⟨rfl, hb⟩; clear xX0 xX1 xX2 xX3 xY0 xY1 xY2 xY3 C9; have HX1 := Aside0.mk (HX0.out.next hb); have HY1 := Aside0.mk (HY0.out.next hb); have NX1 := Aside0.mk (NX0.out.below hb); have NY1 := Aside0.mk (NY0.out.below hb); clear hb HX0 HY0 NX0 NY0; have xX0 := HX1.out.x0; have xX1 := HX1.out.x1; have xX2 := HX1.out.x2; have xX3 := HX1.out.x3; have xY0 := HY1.out.x0; have xY1 := HY1.out.x1; have xY2 := HY1.out.x2; have xY3 := HY1.out.x3) | (go_at_call 15; refine (FA.out _ NX1.out.nc).mono ?_; rintro e w2 ⟨rfl, hb⟩; clear xX0 xX1 xX2 xX3 xY0 xY1 xY2 xY3 FA; have HX2 := Aside0.mk (HX1.out.next hb); have HY2 := Aside0.mk (HY1.out.next hb); have NX2 := Aside0.mk (NX1.out.below hb); have NY2 := Aside0.mk (NY1.out.below hb); clear hb HX1 HY1 NX1 NY1; have xX0 := HX2.out.x0; have xX1 := HX2.out.x1; have xX2 := HX2.out.x2; have xX3 := HX2.out.x3; have xY0 := HY2.out.x0; have xY1 := HY2.out.x1; have xY2 := HY2.out.x2; have xY3 := HY2.out.x3) | (go_at_call 15; refine (FB.out _ NY2.out.nc).mono ?_; rintro e w3 ⟨rfl, hb⟩; clear xX0 xX1 xX2 xX3 xY0 xY1 xY2 xY3 FB; have HX3 := Aside0.mk (HX2.out.next hb); have HY3 := Aside0.mk (HY2.out.next hb); have NX3 := Aside0.mk (NX2.out.below hb); have NY3 := Aside0.mk (NY2.out.below hb); clear hb HX2 HY2 NX2 NY2; have xX0 := HX3.out.x0; have xX1 := HX3.out.x1; have xX2 := HX3.out.x2; have xX3 := HX3.out.x3; have xY0 := HY3.out.x0; have xY1 := HY3.out.x1; have xY2 := HY3.out.x2; have xY3 := HY3.out.x3))
  have hb : Below w3.heap.size w3 w3.drew := (Below.refl _ _).drew
  clear xX0 xX1 xX2 xX3 xY0 xY1 xY2 xY3
  have HX4 := Aside0.mk (HX3.out.next hb)
  have HY4 := Aside0.mk (HY3.out.next hb)
  have NX4 := Aside0.mk (NX3.out.below hb)
  have NY4 := Aside0.mk (NY3.out.below hb)
  clear hb HX3 HY3 NX3 NY3
  refine start_ (n := 11) (S := fun w' => w'.cell? ⟨b, 0, none⟩ = some (.int .i64 1) ∧ w'.cell? ⟨b, 1, none⟩ = some (.int .i64 as_) ∧ w'.cell? ⟨b, 2, none⟩ = some (.slice A2 ai.length c2) ∧ w'.cell? ⟨b, 3, none⟩ = some (.slice A3 ao.length c3) ∧ w'.cell? ⟨b + 1, 0, none⟩ = some (.int .i64 bk) ∧ w'.cell? ⟨b + 1, 1, none⟩ = some (.int .i64 bs) ∧ w'.cell? ⟨b + 1, 2, none⟩ = some (.slice B2 bi.length d2) ∧ w'.cell? ⟨b + 1, 3, none⟩ = some (.slice B3 bo.length d3)) (ds := [9, 10]) #[false, false, false, false, false, false, false, false, false, false, false] rfl rfl rfl ⟨HX4.out.x0, HX4.out.x1, HX4.out.x2, HX4.out.x3, HY4.out.x0, HY4.out.x1, HY4.out.x2, HY4.out.x3⟩ (fun hHeld => ?_)
  refine with_tabW regP4.tab regP4.bits (fun HT_ HW_ => ?_)
  generalize w3.drew = w4 at *
  try clear w3
  refine tz_ 0 29 HT_ HW_ hHeld ?_
  refine tz_ 2 31 HT_ HW_ hHeld ?_
  refine join_ (σ := (Option Addr × Nat) × (Option Addr × Nat) × Nat) 2 #[true, true, true, true, true, true, true, true, true, false, false] (fun q => [(30, .agg #[.int .i64 1, .int .i64 as_, .slice A2 ai.length c2, .slice A3 ao.length c3]), (32, .agg #[.int .i64 bk, .int .i64 bs, .slice B2 bi.length d2, .slice B3 bo.length d3]), (33, .tuple #[.agg #[.int .i64 1, .int .i64 bs, .slice q.1.1 im.length q.1.2, .slice q.2.1.1 os.length q.2.1.2], .int .i64 0]), (28, .tuple #[.agg #[.int .i64 1, .int .i64 bs, .slice q.1.1 im.length q.1.2, .slice q.2.1.1 os.length q.2.1.2], .int .i64 0]), (34, .agg #[.int .i64 1, .int .i64 bs, .slice q.1.1 im.length q.1.2, .slice q.2.1.1 os.length q.2.1.2]), (35, .int .i64 0), (8, .pointer (some ⟨q.2.2, 0, none⟩))]) (fun q w' => Aside0 (B4 w (b) 32 (.int .i64 1) (.int .i64 as_) (.slice A2 ai.length c2) (.slice A3 ao.length c3) w') ∧ Aside0 (B4 w (b + 1) 32 (.int .i64 bk) (.int .i64 bs) (.slice B2 bi.length d2) (.slice B3 bo.length d3) w') ∧ Aside0 (AP q.2.2 w' A2 c2 ai A3 c3 ao) ∧ Aside0 (AP q.2.2 w' B2 d2 bi B3 d3 bo) ∧ Aside0 (AP q.2.2 w' q.1.1 q.1.2 im q.2.1.1 q.2.1.2 os) ∧ Aside0 (w'.heap[q.2.2]? = some (.cells #[.int .i64 0, .int .i64 0, .slice none 0 0, .slice none 0 0] 27 (0, 0))) ∧ Aside0 (b < q.2.2 ∧ b + 1 < q.2.2)) ?hcont ?hord
  case hord =>
    intro JN
    have JNN := Aside0.mk JN
    clear JN
    refine two_ (i := 1) (j := 8) (Ni := some 30) (Nj := some 8) #[true, true, true, false, false, false, false, false, false, false, false] #[true, false, true, false, false, false, false, false, true, false, false] rfl rfl rfl rfl (two_of HT_.out (by kernel_rfl)) (by decide) (by decide) (fun K hK => ?_) (fun K hK => ?_)
    · refine goes_ Try.func16 (by kernel_rfl) rfl #[.agg #[.int .i64 1, .int .i64 as_, .slice A2 ai.length c2, .slice A3 ao.length c3]] (by rfl) rfl rfl ma_ ?_
      refine (ours_c NX4.out.nc 1 as_).mono ?_
      rintro e v5w ⟨rfl, hb⟩
      refine ⟨_, rfl, ?_⟩
      have HX5 := Aside0.mk (HX4.out.next hb)
      have HY5 := Aside0.mk (HY4.out.next hb)
      have NX5 := Aside0.mk (NX4.out.below hb)
      have NY5 := Aside0.mk (NY4.out.below hb)
      clear hb HX4 HY4 NX4 NY4
      refine hK.out _ _ ⟨HX5.out.x0, HX5.out.x1, HX5.out.x2, HX5.out.x3, HY5.out.x0, HY5.out.x1, HY5.out.x2, HY5.out.x3⟩ (fun hHeld => ?_)
      clear hK K
      refine two_ (i := 3) (j := 8) (Ni := some 32) (Nj := some 8) #[true, true, true, true, false, false, false, false, false, false, false] #[true, true, true, false, false, false, false, false, true, false, false] rfl rfl rfl rfl (two_of HT_.out (by kernel_rfl)) (by decide) (by decide) (fun K hK => ?_) (fun K hK => ?_)
      · refine goes_ Try.func16 (by kernel_rfl) rfl #[.agg #[.int .i64 bk, .int .i64 bs, .slice B2 bi.length d2, .slice B3 bo.length d3]] (by rfl) rfl rfl ma_ ?_
        refine (ours_c NY5.out.nc bk bs).mono ?_
        rintro e v6w ⟨rfl, hb⟩
        refine ⟨_, rfl, ?_⟩
        have HX6 := Aside0.mk (HX5.out.next hb)
        have HY6 := Aside0.mk (HY5.out.next hb)
        have NX6 := Aside0.mk (NX5.out.below hb)
        have NY6 := Aside0.mk (NY5.out.below hb)
        clear hb HX5 HY5 NX5 NY5
        refine hK.out _ _ ⟨HX6.out.x0, HX6.out.x1, HX6.out.x2, HX6.out.x3, HY6.out.x0, HY6.out.x1, HY6.out.x2, HY6.out.x3⟩ (fun hHeld => ?_)
        clear hK K
        refine two_ (i := 4) (j := 8) (Ni := some 33) (Nj := some 8) #[true, true, true, true, true, false, false, false, false, false, false] #[true, true, true, true, false, false, false, false, true, false, false] rfl rfl rfl rfl (two_of HT_.out (by kernel_rfl)) (by decide) (by decide) (fun K hK => ?_) (fun K hK => ?_)
        · refine goes_ Try.func18 (by kernel_rfl) rfl #[.agg #[.int .i64 1, .int .i64 as_, .slice A2 ai.length c2, .slice A3 ao.length c3], .agg #[.int .i64 bk, .int .i64 bs, .slice B2 bi.length d2, .slice B3 bo.length d3]] (by rfl) rfl rfl ma_ ?_
          refine (merge_nf NX6.out NY6.out 1 as_ bk bs (by have := HL.out; omega) (im := im) (os := os) 1 bs 0 HM0.out).mono ?_
          rintro e v7w ⟨XA, xc, YA, yc, rfl, hn, hb⟩
          refine ⟨_, rfl, ?_⟩
          have HX7 := Aside0.mk (HX6.out.next hb)
          have HY7 := Aside0.mk (HY6.out.next hb)
          have NX7 := Aside0.mk (NX6.out.below hb)
          have NY7 := Aside0.mk (NY6.out.below hb)
          clear hb HX6 HY6 NX6 NY6
          have NNew7 := Aside0.mk hn
          refine hK.out _ _ ⟨HX7.out.x0, HX7.out.x1, HX7.out.x2, HX7.out.x3, HY7.out.x0, HY7.out.x1, HY7.out.x2, HY7.out.x3⟩ (fun hHeld => ?_)
          clear hK K
          refine pz_ 5 28 HT_ ?_
          refine pz_ 6 34 HT_ ?_
          refine pz_ 7 35 HT_ ?_
          refine oz_ 8 8 HT_ (fun K hK => ?_)
          refine value_ (by rfl) rfl (v := .pointer (some ⟨v7w.heap.size, 0, none⟩)) (w1 := v7w.alloc (.cells #[.int .i64 0, .int .i64 0, .slice none 0 0, .slice none 0 0] 27)) (by first | (go_simp; done) | (go_simp; rfl)) ?_
          have hb : Below v7w.heap.size v7w (v7w.alloc (.cells #[.int .i64 0, .int .i64 0, .slice none 0 0, .slice none 0 0] 27)) := (Below.refl _ _).alloc (Nat.le_refl _) _
          have hx := blk_new v7w (.cells #[.int .i64 0, .int .i64 0, .slice none 0 0, .slice none 0 0] 27)
          have hl0 := blk_lt HX7.out.at_
          have hl1 := blk_lt HY7.out.at_
          obtain ⟨bM, hbM⟩ : ∃ bM, v7w.heap.size = bM := ⟨_, rfl⟩
          rw [hbM] at hx hl0 hl1
          rw [hbM]
          have hle := Nat.le_of_eq hbM
          clear hbM
          generalize v7w.alloc (.cells #[.int .i64 0, .int .i64 0, .slice none 0 0, .slice none 0 0] 27) = v8w at *
          have LT := Aside0.mk (show b < bM ∧ b + 1 < bM from ⟨hl0, hl1⟩)
          clear hl0 hl1
          have HX8 := Aside0.mk (HX7.out.next hb)
          have HY8 := Aside0.mk (HY7.out.next hb)
          have NX8 := Aside0.mk ((NF.ap NX7.out (b := bM) hle).below hb)
          have NY8 := Aside0.mk ((NF.ap NY7.out (b := bM) hle).below hb)
          have NNew8 := Aside0.mk ((NF.ap NNew7.out (b := bM) hle).below hb)
          clear hb HX7 HY7 NX7 NY7 hle
          have TT8 := Aside0.mk hx
          refine hK.out _ _ ⟨HX8.out.x0, HX8.out.x1, HX8.out.x2, HX8.out.x3, HY8.out.x0, HY8.out.x1, HY8.out.x2, HY8.out.x3⟩ (fun hHeld => ?_)
          clear hK K
          exact norm_ pu_ (JNN.out ((XA, xc), (YA, yc), bM) _ ⟨HX8, HY8, NX8, NY8, NNew8, TT8, LT⟩)
        · refine value_ (by rfl) rfl (v := .pointer (some ⟨v6w.heap.size, 0, none⟩)) (w1 := v6w.alloc (.cells #[.int .i64 0, .int .i64 0, .slice none 0 0, .slice none 0 0] 27)) (by first | (go_simp; done) | (go_simp; rfl)) ?_
          have hb : Below v6w.heap.size v6w (v6w.alloc (.cells #[.int .i64 0, .int .i64 0, .slice none 0 0, .slice none 0 0] 27)) := (Below.refl _ _).alloc (Nat.le_refl _) _
          have hx := blk_new v6w (.cells #[.int .i64 0, .int .i64 0, .slice none 0 0, .slice none 0 0] 27)
          have hl0 := blk_lt HX6.out.at_
          have hl1 := blk_lt HY6.out.at_
          obtain ⟨bM, hbM⟩ : ∃ bM, v6w.heap.size = bM := ⟨_, rfl⟩
          rw [hbM] at hx hl0 hl1
          rw [hbM]
          have hle := Nat.le_of_eq hbM
          clear hbM
          generalize v6w.alloc (.cells #[.int .i64 0, .int .i64 0, .slice none 0 0, .slice none 0 0] 27) = v9w at *
          have LT := Aside0.mk (show b < bM ∧ b + 1 < bM from ⟨hl0, hl1⟩)
          clear hl0 hl1
          have HX7 := Aside0.mk (HX6.out.next hb)
          have HY7 := Aside0.mk (HY6.out.next hb)
          have NX7 := Aside0.mk ((NF.ap NX6.out (b := bM) hle).below hb)
          have NY7 := Aside0.mk ((NF.ap NY6.out (b := bM) hle).below hb)
          clear hb HX6 HY6 NX6 NY6 hle
          have TT7 := Aside0.mk hx
          refine hK.out _ _ ⟨HX7.out.x0, HX7.out.x1, HX7.out.x2, HX7.out.x3, HY7.out.x0, HY7.out.x1, HY7.out.x2, HY7.out.x3⟩ (fun hHeld => ?_)
          clear hK K
          refine oz_ 4 33 HT_ (fun K hK => ?_)
          refine goes_ Try.func18 (by kernel_rfl) rfl #[.agg #[.int .i64 1, .int .i64 as_, .slice A2 ai.length c2, .slice A3 ao.length c3], .agg #[.int .i64 bk, .int .i64 bs, .slice B2 bi.length d2, .slice B3 bo.length d3]] (by rfl) rfl rfl ma_ ?_
          refine (merge_ap NX7.out NY7.out (blk_lt TT7.out) 1 as_ bk bs (by have := HL.out; omega) (im := im) (os := os) 1 bs 0 HM0.out).mono ?_
          rintro e v10w ⟨XA, xc, YA, yc, rfl, hn, hb⟩
          refine ⟨_, rfl, ?_⟩
          have HX8 := Aside0.mk (HX7.out.next hb)
          have HY8 := Aside0.mk (HY7.out.next hb)
          have NX8 := Aside0.mk (NX7.out.below hb)
          have NY8 := Aside0.mk (NY7.out.below hb)
          have TT8 := Aside0.mk (blk_below TT7.out hb)
          clear hb HX7 HY7 NX7 NY7
          have NNew8 := Aside0.mk hn
          refine hK.out _ _ ⟨HX8.out.x0, HX8.out.x1, HX8.out.x2, HX8.out.x3, HY8.out.x0, HY8.out.x1, HY8.out.x2, HY8.out.x3⟩ (fun hHeld => ?_)
          clear hK K
          refine pz_ 5 28 HT_ ?_
          refine pz_ 6 34 HT_ ?_
          refine pz_ 7 35 HT_ ?_
          exact norm_ pu_ (JNN.out ((XA, xc), (YA, yc), bM) _ ⟨HX8, HY8, NX8, NY8, NNew8, TT8, LT⟩)
      · refine value_ (by rfl) rfl (v := .pointer (some ⟨v5w.heap.size, 0, none⟩)) (w1 := v5w.alloc (.cells #[.int .i64 0, .int .i64 0, .slice none 0 0, .slice none 0 0] 27)) (by first | (go_simp; done) | (go_simp; rfl)) ?_
        have hb : Below v5w.heap.size v5w (v5w.alloc (.cells #[.int .i64 0, .int .i64 0, .slice none 0 0, .slice none 0 0] 27)) := (Below.refl _ _).alloc (Nat.le_refl _) _
        have hx := blk_new v5w (.cells #[.int .i64 0, .int .i64 0, .slice none 0 0, .slice none 0 0] 27)
        have hl0 := blk_lt HX5.out.at_
        have hl1 := blk_lt HY5.out.at_
        obtain ⟨bM, hbM⟩ : ∃ bM, v5w.heap.size = bM := ⟨_, rfl⟩
        rw [hbM] at hx hl0 hl1
        rw [hbM]
        have hle := Nat.le_of_eq hbM
        clear hbM
        generalize v5w.alloc (.cells #[.int .i64 0, .int .i64 0, .slice none 0 0, .slice none 0 0] 27) = v11w at *
        have LT := Aside0.mk (show b < bM ∧ b + 1 < bM from ⟨hl0, hl1⟩)
        clear hl0 hl1
        have HX6 := Aside0.mk (HX5.out.next hb)
        have HY6 := Aside0.mk (HY5.out.next hb)
        have NX6 := Aside0.mk ((NF.ap NX5.out (b := bM) hle).below hb)
        have NY6 := Aside0.mk ((NF.ap NY5.out (b := bM) hle).below hb)
        clear hb HX5 HY5 NX5 NY5 hle
        have TT6 := Aside0.mk hx
        refine hK.out _ _ ⟨HX6.out.x0, HX6.out.x1, HX6.out.x2, HX6.out.x3, HY6.out.x0, HY6.out.x1, HY6.out.x2, HY6.out.x3⟩ (fun hHeld => ?_)
        clear hK K
        refine oz_ 3 32 HT_ (fun K hK => ?_)
        refine goes_ Try.func16 (by kernel_rfl) rfl #[.agg #[.int .i64 bk, .int .i64 bs, .slice B2 bi.length d2, .slice B3 bo.length d3]] (by rfl) rfl rfl ma_ ?_
        refine (ours_c NY6.out.nc bk bs).mono ?_
        rintro e v12w ⟨rfl, hb⟩
        refine ⟨_, rfl, ?_⟩
        have HX7 := Aside0.mk (HX6.out.next hb)
        have HY7 := Aside0.mk (HY6.out.next hb)
        have NX7 := Aside0.mk (NX6.out.below hb)
        have NY7 := Aside0.mk (NY6.out.below hb)
        have TT7 := Aside0.mk (blk_below TT6.out hb)
        clear hb HX6 HY6 NX6 NY6
        refine hK.out _ _ ⟨HX7.out.x0, HX7.out.x1, HX7.out.x2, HX7.out.x3, HY7.out.x0, HY7.out.x1, HY7.out.x2, HY7.out.x3⟩ (fun hHeld => ?_)
        clear hK K
        refine oz_ 4 33 HT_ (fun K hK => ?_)
        refine goes_ Try.func18 (by kernel_rfl) rfl #[.agg #[.int .i64 1, .int .i64 as_, .slice A2 ai.length c2, .slice A3 ao.length c3], .agg #[.int .i64 bk, .int .i64 bs, .slice B2 bi.length d2, .slice B3 bo.length d3]] (by rfl) rfl rfl ma_ ?_
        refine (merge_ap NX7.out NY7.out (blk_lt TT7.out) 1 as_ bk bs (by have := HL.out; omega) (im := im) (os := os) 1 bs 0 HM0.out).mono ?_
        rintro e v13w ⟨XA, xc, YA, yc, rfl, hn, hb⟩
        refine ⟨_, rfl, ?_⟩
        have HX8 := Aside0.mk (HX7.out.next hb)
        have HY8 := Aside0.mk (HY7.out.next hb)
        have NX8 := Aside0.mk (NX7.out.below hb)
        have NY8 := Aside0.mk (NY7.out.below hb)
        have TT8 := Aside0.mk (blk_below TT7.out hb)
        clear hb HX7 HY7 NX7 NY7
        have NNew8 := Aside0.mk hn
        refine hK.out _ _ ⟨HX8.out.x0, HX8.out.x1, HX8.out.x2, HX8.out.x3, HY8.out.x0, HY8.out.x1, HY8.out.x2, HY8.out.x3⟩ (fun hHeld => ?_)
        clear hK K
        refine pz_ 5 28 HT_ ?_
        refine pz_ 6 34 HT_ ?_
        refine pz_ 7 35 HT_ ?_
        exact norm_ pu_ (JNN.out ((XA, xc), (YA, yc), bM) _ ⟨HX8, HY8, NX8, NY8, NNew8, TT8, LT⟩)
    · refine value_ (by rfl) rfl (v := .pointer (some ⟨w4.heap.size, 0, none⟩)) (w1 := w4.alloc (.cells #[.int .i64 0, .int .i64 0, .slice none 0 0, .slice none 0 0] 27)) (by first | (go_simp; done) | (go_simp; rfl)) ?_
      have hb : Below w4.heap.size w4 (w4.alloc (.cells #[.int .i64 0, .int .i64 0, .slice none 0 0, .slice none 0 0] 27)) := (Below.refl _ _).alloc (Nat.le_refl _) _
      have hx := blk_new w4 (.cells #[.int .i64 0, .int .i64 0, .slice none 0 0, .slice none 0 0] 27)
      have hl0 := blk_lt HX4.out.at_
      have hl1 := blk_lt HY4.out.at_
      obtain ⟨bM, hbM⟩ : ∃ bM, w4.heap.size = bM := ⟨_, rfl⟩
      rw [hbM] at hx hl0 hl1
      rw [hbM]
      have hle := Nat.le_of_eq hbM
      clear hbM
      generalize w4.alloc (.cells #[.int .i64 0, .int .i64 0, .slice none 0 0, .slice none 0 0] 27) = v14w at *
      have LT := Aside0.mk (show b < bM ∧ b + 1 < bM from ⟨hl0, hl1⟩)
      clear hl0 hl1
      have HX5 := Aside0.mk (HX4.out.next hb)
      have HY5 := Aside0.mk (HY4.out.next hb)
      have NX5 := Aside0.mk ((NF.ap NX4.out (b := bM) hle).below hb)
      have NY5 := Aside0.mk ((NF.ap NY4.out (b := bM) hle).below hb)
      clear hb HX4 HY4 NX4 NY4 hle
      have TT5 := Aside0.mk hx
      refine hK.out _ _ ⟨HX5.out.x0, HX5.out.x1, HX5.out.x2, HX5.out.x3, HY5.out.x0, HY5.out.x1, HY5.out.x2, HY5.out.x3⟩ (fun hHeld => ?_)
      clear hK K
      refine oz_ 1 30 HT_ (fun K hK => ?_)
      refine goes_ Try.func16 (by kernel_rfl) rfl #[.agg #[.int .i64 1, .int .i64 as_, .slice A2 ai.length c2, .slice A3 ao.length c3]] (by rfl) rfl rfl ma_ ?_
      refine (ours_c NX5.out.nc 1 as_).mono ?_
      rintro e v15w ⟨rfl, hb⟩
      refine ⟨_, rfl, ?_⟩
      have HX6 := Aside0.mk (HX5.out.next hb)
      have HY6 := Aside0.mk (HY5.out.next hb)
      have NX6 := Aside0.mk (NX5.out.below hb)
      have NY6 := Aside0.mk (NY5.out.below hb)
      have TT6 := Aside0.mk (blk_below TT5.out hb)
      clear hb HX5 HY5 NX5 NY5
      refine hK.out _ _ ⟨HX6.out.x0, HX6.out.x1, HX6.out.x2, HX6.out.x3, HY6.out.x0, HY6.out.x1, HY6.out.x2, HY6.out.x3⟩ (fun hHeld => ?_)
      clear hK K
      refine oz_ 3 32 HT_ (fun K hK => ?_)
      refine goes_ Try.func16 (by kernel_rfl) rfl #[.agg #[.int .i64 bk, .int .i64 bs, .slice B2 bi.length d2, .slice B3 bo.length d3]] (by rfl) rfl rfl ma_ ?_
      refine (ours_c NY6.out.nc bk bs).mono ?_
      rintro e v16w ⟨rfl, hb⟩
      refine ⟨_, rfl, ?_⟩
      have HX7 := Aside0.mk (HX6.out.next hb)
      have HY7 := Aside0.mk (HY6.out.next hb)
      have NX7 := Aside0.mk (NX6.out.below hb)
      have NY7 := Aside0.mk (NY6.out.below hb)
      have TT7 := Aside0.mk (blk_below TT6.out hb)
      clear hb HX6 HY6 NX6 NY6
      refine hK.out _ _ ⟨HX7.out.x0, HX7.out.x1, HX7.out.x2, HX7.out.x3, HY7.out.x0, HY7.out.x1, HY7.out.x2, HY7.out.x3⟩ (fun hHeld => ?_)
      clear hK K
      refine oz_ 4 33 HT_ (fun K hK => ?_)
      refine goes_ Try.func18 (by kernel_rfl) rfl #[.agg #[.int .i64 1, .int .i64 as_, .slice A2 ai.length c2, .slice A3 ao.length c3], .agg #[.int .i64 bk, .int .i64 bs, .slice B2 bi.length d2, .slice B3 bo.length d3]] (by rfl) rfl rfl ma_ ?_
      refine (merge_ap NX7.out NY7.out (blk_lt TT7.out) 1 as_ bk bs (by have := HL.out; omega) (im := im) (os := os) 1 bs 0 HM0.out).mono ?_
      rintro e v17w ⟨XA, xc, YA, yc, rfl, hn, hb⟩
      refine ⟨_, rfl, ?_⟩
      have HX8 := Aside0.mk (HX7.out.next hb)
      have HY8 := Aside0.mk (HY7.out.next hb)
      have NX8 := Aside0.mk (NX7.out.below hb)
      have NY8 := Aside0.mk (NY7.out.below hb)
      have TT8 := Aside0.mk (blk_below TT7.out hb)
      clear hb HX7 HY7 NX7 NY7
      have NNew8 := Aside0.mk hn
      refine hK.out _ _ ⟨HX8.out.x0, HX8.out.x1, HX8.out.x2, HX8.out.x3, HY8.out.x0, HY8.out.x1, HY8.out.x2, HY8.out.x3⟩ (fun hHeld => ?_)
      clear hK K
      refine pz_ 5 28 HT_ ?_
      refine pz_ 6 34 HT_ ?_
      refine pz_ 7 35 HT_ ?_
      exact norm_ pu_ (JNN.out ((XA, xc), (YA, yc), bM) _ ⟨HX8, HY8, NX8, NY8, NNew8, TT8, LT⟩)
  case hcont =>
    rintro ⟨⟨X0A, x0c⟩, ⟨Y0A, y0c⟩, b0M⟩ w24 ⟨HX24, HY24, NX24, NY24, NNew, TT, LT⟩
    simp only at NNew TT LT
    refine norm_ (a' := ?_) ?_ ?_
    rotate_left
    · simp only [putAll, Act.put, List.setIfInBounds_toArray, List.set_cons_zero, List.set_cons_succ]; rfl
    clear HX4 HY4 NX4 NY4
    refine last_ (i := 9) (N := none) #[true, true, true, true, true, true, true, true, true, true, false] rfl rfl (one_of HT_.out (by kernel_rfl)) (by decide) (fun K hK => ?_)
    obtain ⟨z0, f0, z1, f1, z2, f2, z3, f3, k4⟩ := put4c (.int .i64 1) (.int .i64 bs) (.slice X0A im.length x0c) (.slice Y0A os.length y0c) TT.out
    have hge : w.heap.size ≤ b0M := by have := HX24.out.ge; have := LT.out; omega
    have HX25 := Aside0.mk (B4.set (B4.set (B4.set (B4.set HX24.out (k := 0) (show b ≠ b0M by have := LT.out; omega) hge (.int .i64 1)) (k := 1) (show b ≠ b0M by have := LT.out; omega) hge (.int .i64 bs)) (k := 2) (show b ≠ b0M by have := LT.out; omega) hge (.slice X0A im.length x0c)) (k := 3) (show b ≠ b0M by have := LT.out; omega) hge (.slice Y0A os.length y0c))
    have HY25 := Aside0.mk (B4.set (B4.set (B4.set (B4.set HY24.out (k := 0) (show b + 1 ≠ b0M by have := LT.out; omega) hge (.int .i64 1)) (k := 1) (show b + 1 ≠ b0M by have := LT.out; omega) hge (.int .i64 bs)) (k := 2) (show b + 1 ≠ b0M by have := LT.out; omega) hge (.slice X0A im.length x0c)) (k := 3) (show b + 1 ≠ b0M by have := LT.out; omega) hge (.slice Y0A os.length y0c))
    have far : ∀ j, j ≠ b0M → ((((w24.setCell ⟨b0M, 0, none⟩ (.int .i64 1)).setCell ⟨b0M, 1, none⟩ (.int .i64 bs)).setCell ⟨b0M, 2, none⟩ (.slice X0A im.length x0c)).setCell ⟨b0M, 3, none⟩ (.slice Y0A os.length y0c)).heap[j]? = w24.heap[j]? := fun j hj => far4 hj
    have NX25 := Aside0.mk (AP.far NX24.out far)
    have NY25 := Aside0.mk (AP.far NY24.out far)
    have NM25 := Aside0.mk (AP.far NNew.out far)
    have HM25 := Aside0.mk (show B4 w b0M 27 (.int .i64 1) (.int .i64 bs) (.slice X0A im.length x0c) (.slice Y0A os.length y0c) ((((w24.setCell ⟨b0M, 0, none⟩ (.int .i64 1)).setCell ⟨b0M, 1, none⟩ (.int .i64 bs)).setCell ⟨b0M, 2, none⟩ (.slice X0A im.length x0c)).setCell ⟨b0M, 3, none⟩ (.slice Y0A os.length y0c)) from ⟨HX25.out.below, k4, hge⟩)
    clear k4 far hge TT LT NNew HX24 HY24 NX24 NY24
    refine skip_ (w1 := (((w24.setCell ⟨b0M, 0, none⟩ (.int .i64 1)).setCell ⟨b0M, 1, none⟩ (.int .i64 bs)).setCell ⟨b0M, 2, none⟩ (.slice X0A im.length x0c)).setCell ⟨b0M, 3, none⟩ (.slice Y0A os.length y0c)) (by rfl) rfl (by first | (go_simp; done) | (go_simp; rfl)) ?_
    refine hK.out _ _ ?_
    clear hK K z0 f0 z1 f1 z2 f2 z3 f3
    refine last_ (i := 10) (N := some 9) #[true, true, true, true, true, true, true, true, true, true, true] rfl rfl (one_of HT_.out (by kernel_rfl)) (by decide) (fun K hK => ?_)
    refine value_ (v := .int .i64 0) (w1 := (((w24.setCell ⟨b0M, 0, none⟩ (.int .i64 1)).setCell ⟨b0M, 1, none⟩ (.int .i64 bs)).setCell ⟨b0M, 2, none⟩ (.slice X0A im.length x0c)).setCell ⟨b0M, 3, none⟩ (.slice Y0A os.length y0c)) (by rfl) rfl (by first | (go_simp; done) | (go_simp; rfl)) ?_
    refine hK.out _ _ ?_
    clear hK K
    refine done_ (done_of HT_.out (by kernel_rfl)) ?_
    clear HT_ HW_ hHeld
    generalize (((w24.setCell ⟨b0M, 0, none⟩ (.int .i64 1)).setCell ⟨b0M, 1, none⟩ (.int .i64 bs)).setCell ⟨b0M, 2, none⟩ (.slice X0A im.length x0c)).setCell ⟨b0M, 3, none⟩ (.slice Y0A os.length y0c) = w25 at *
    have xX0 := HX25.out.x0; have xX1 := HX25.out.x1; have xX2 := HX25.out.x2; have xX3 := HX25.out.x3; have xY0 := HY25.out.x0; have xY1 := HY25.out.x1; have xY2 := HY25.out.x2; have xY3 := HY25.out.x3; have xM0 := HM25.out.x0; have xM1 := HM25.out.x1; have xM2 := HM25.out.x2; have xM3 := HM25.out.x3
    go_wp2
    go_loopg [11, 10] ai.length (fun gg s1 s2 wr => w25 = wr ∧ ∃ i : Nat, i ≤ ai.length ∧ ai.length - i ≤ gg ∧ s1 = .int .i64 i ∧ s2 = .string (wantF blk (ByteArray.empty) (ai.take i)))
    case atStart => exact ⟨rfl, 0, by omega, by omega, rfl, rfl⟩
    case round =>
      obtain ⟨rfl, i, hi, hgi, rfl, rfl⟩ := hrel
      by_cases hlt : i < ai.length
      · obtain ⟨ad, A1, c1, hA, e1, e2, l1, g1⟩ := at_T44 NX25.out.nc.i (i : Int) (by omega) (by omega)
        rw [rd44_at ai i hlt] at e1 e2 l1 g1
        rw [Int.toNat_natCast] at e1 e2
        subst hA
        obtain ⟨x, hx⟩ : ∃ x, ai[i] = x := ⟨_, rfl⟩
        rw [hx] at e1 e2 l1 g1
        have hcv := Kd.C_string (P := Try.prog) (A := A1) (c := c1) Try.underlying22 Try.underlying5 Try.underlying9 g1
        have HXX := Aside0.mk hx
        have q1 : (0 ≤ (i : Int)) = True := eq_true (by omega)
        have q2 : ((i : Int) < (ai.length : Int)) = True := eq_true (by omega)
        have q3 : (i < ai.length) = True := eq_true hlt
        clear hx
        by_cases hb : x.f0 = blk
        · have v1 : (x.f0 == blk) = true := by simpa using hb
          have HBB := Aside0.mk hb
          clear hb
          go_wp2
          go_roundg (ai.length - (i + 1))
          case measure => omega
          case rel => exact ⟨rfl, i + 1, by omega, by omega, nxt_ i (by have := HL.out; have := HIL.out; omega), by rw [wantF_yes hlt HXX.out HBB.out]⟩
        · have v1 : (x.f0 == blk) = false := by simpa using hb
          have HBB := Aside0.mk hb
          clear hb
          go_wp2
          go_roundg (ai.length - (i + 1))
          case measure => omega
          case rel => exact ⟨rfl, i + 1, by omega, by omega, nxt_ i (by have := HL.out; have := HIL.out; omega), by rw [wantF_no hlt HXX.out HBB.out]⟩
      · obtain rfl : i = ai.length := by omega
        rw [List.take_length]
        have q1 : ((ai.length : Int) < (ai.length : Int)) = False := eq_false (by omega)
        clear hi hgi hlt
        go_wp2
        clear q1
        go_loopg [12, 10] bi.length (fun gg s1 s2 wr => w25 = wr ∧ ∃ i : Nat, i ≤ bi.length ∧ bi.length - i ≤ gg ∧ s1 = .int .i64 i ∧ s2 = .string (wantF blk (wantF blk ByteArray.empty ai) (bi.take i)))
        case atStart => exact ⟨rfl, 0, by omega, by omega, rfl, rfl⟩
        case round =>
          obtain ⟨rfl, i, hi, hgi, rfl, rfl⟩ := hrel
          by_cases hlt : i < bi.length
          · obtain ⟨ad, A1, c1, hA, e1, e2, l1, g1⟩ := at_T44 NY25.out.nc.i (i : Int) (by omega) (by omega)
            rw [rd44_at bi i hlt] at e1 e2 l1 g1
            rw [Int.toNat_natCast] at e1 e2
            subst hA
            obtain ⟨x, hx⟩ : ∃ x, bi[i] = x := ⟨_, rfl⟩
            rw [hx] at e1 e2 l1 g1
            have hcv := Kd.C_string (P := Try.prog) (A := A1) (c := c1) Try.underlying22 Try.underlying5 Try.underlying9 g1
            have HXX := Aside0.mk hx
            have q1 : (0 ≤ (i : Int)) = True := eq_true (by omega)
            have q2 : ((i : Int) < (bi.length : Int)) = True := eq_true (by omega)
            have q3 : (i < bi.length) = True := eq_true hlt
            clear hx
            by_cases hb : x.f0 = blk
            · have v1 : (x.f0 == blk) = true := by simpa using hb
              have HBB := Aside0.mk hb
              clear hb
              go_wp2
              go_roundg (bi.length - (i + 1))
              case measure => omega
              case rel => exact ⟨rfl, i + 1, by omega, by omega, nxt_ i (by have := HL.out; have := HIL.out; omega), by rw [wantF_yes hlt HXX.out HBB.out]⟩
            · have v1 : (x.f0 == blk) = false := by simpa using hb
              have HBB := Aside0.mk hb
              clear hb
              go_wp2
              go_roundg (bi.length - (i + 1))
              case measure => omega
              case rel => exact ⟨rfl, i + 1, by omega, by omega, nxt_ i (by have := HL.out; have := HIL.out; omega), by rw [wantF_no hlt HXX.out HBB.out]⟩
          · obtain rfl : i = bi.length := by omega
            rw [List.take_length]
            have q1 : ((bi.length : Int) < (bi.length : Int)) = False := eq_false (by omega)
            clear hi hgi hlt
            go_wp2
            clear q1
            go_loopg [14, 13] im.length (fun gg s1 s2 wr => w25 = wr ∧ ∃ i : Nat, i ≤ im.length ∧ im.length - i ≤ gg ∧ s1 = .int .i64 i ∧ s2 = .string (wantF blk (ByteArray.empty) (im.take i)))
            case atStart => exact ⟨rfl, 0, by omega, by omega, rfl, rfl⟩
            case round =>
              obtain ⟨rfl, i, hi, hgi, rfl, rfl⟩ := hrel
              by_cases hlt : i < im.length
              · obtain ⟨ad, A1, c1, hA, e1, e2, l1, g1⟩ := at_T44 NM25.out.nc.i (i : Int) (by omega) (by omega)
                rw [rd44_at im i hlt] at e1 e2 l1 g1
                rw [Int.toNat_natCast] at e1 e2
                subst hA
                obtain ⟨x, hx⟩ : ∃ x, im[i] = x := ⟨_, rfl⟩
                rw [hx] at e1 e2 l1 g1
                have hcv := Kd.C_string (P := Try.prog) (A := A1) (c := c1) Try.underlying22 Try.underlying5 Try.underlying9 g1
                have HXX := Aside0.mk hx
                have q1 : (0 ≤ (i : Int)) = True := eq_true (by omega)
                have q2 : ((i : Int) < (im.length : Int)) = True := eq_true (by omega)
                have q3 : (i < im.length) = True := eq_true hlt
                clear hx
                by_cases hb : x.f0 = blk
                · have v1 : (x.f0 == blk) = true := by simpa using hb
                  have HBB := Aside0.mk hb
                  clear hb
                  go_wp2
                  go_roundg (im.length - (i + 1))
                  case measure => omega
                  case rel => exact ⟨rfl, i + 1, by omega, by omega, nxt_ i (by have := HL.out; have := HIL.out; omega), by rw [wantF_yes hlt HXX.out HBB.out]⟩
                · have v1 : (x.f0 == blk) = false := by simpa using hb
                  have HBB := Aside0.mk hb
                  clear hb
                  go_wp2
                  go_roundg (im.length - (i + 1))
                  case measure => omega
                  case rel => exact ⟨rfl, i + 1, by omega, by omega, nxt_ i (by have := HL.out; have := HIL.out; omega), by rw [wantF_no hlt HXX.out HBB.out]⟩
              · obtain rfl : i = im.length := by omega
                rw [List.take_length]
                have q1 : ((im.length : Int) < (im.length : Int)) = False := eq_false (by omega)
                clear hi hgi hlt
                rw [HW.out]
                obtain ⟨want, hwt⟩ : ∃ want, wantF blk ByteArray.empty im = want := ⟨_, rfl⟩
                rw [hwt]
                clear hwt
                go_upto_region 24 with (fail)
                clear q1
                have hb : Below w25.heap.size w25 w25.drew := (Below.refl _ _).drew
                clear xX0 xX1 xX2 xX3 xY0 xY1 xY2 xY3 xM0 xM1 xM2 xM3
                have HX26 := Aside0.mk (HX25.out.next hb)
                have HY26 := Aside0.mk (HY25.out.next hb)
                have HM26 := Aside0.mk (HM25.out.next hb)
                have NX26 := Aside0.mk (NX25.out.below hb)
                have NY26 := Aside0.mk (NY25.out.below hb)
                have NM26 := Aside0.mk (NM25.out.below hb)
                clear hb HX25 HY25 HM25 NX25 NY25 NM25
                refine start_ (n := 12) (S := fun w' => w'.cell? ⟨b, 0, none⟩ = some (.int .i64 1) ∧ w'.cell? ⟨b, 1, none⟩ = some (.int .i64 as_) ∧ w'.cell? ⟨b, 2, none⟩ = some (.slice A2 ai.length c2) ∧ w'.cell? ⟨b, 3, none⟩ = some (.slice A3 ao.length c3)) (ds := [10, 11]) #[false, false, false, false, false, false, false, false, false, false, false, false] rfl rfl rfl ⟨HX26.out.x0, HX26.out.x1, HX26.out.x2, HX26.out.x3⟩ (fun hHeld => ?_)
                refine with_tabW regP24.tab regP24.bits (fun HT_ HW_ => ?_)
                generalize w25.drew = w26 at *
                try clear w25
                refine tz_ 0 120 HT_ HW_ hHeld ?_
                refine pz_ 2 122 HT_ ?_
                refine tz_ 3 123 HT_ HW_ hHeld ?_
                refine pz_ 4 124 HT_ ?_
                refine join_ (σ := (Option Addr × Nat) × (Option Addr × Nat) × Nat) 2 #[true, true, true, true, true, true, true, true, true, true, false, false] (fun q => [(121, .agg #[.int .i64 1, .int .i64 as_, .slice A2 ai.length c2, .slice A3 ao.length c3]), (125, .tuple #[.agg #[.int .i64 1, .int .i64 as_, .slice q.1.1 ai.length q.1.2, .slice q.2.1.1 ao.length q.2.1.2], .int .i64 0]), (119, .tuple #[.agg #[.int .i64 1, .int .i64 as_, .slice q.1.1 ai.length q.1.2, .slice q.2.1.1 ao.length q.2.1.2], .int .i64 0]), (126, .agg #[.int .i64 1, .int .i64 as_, .slice q.1.1 ai.length q.1.2, .slice q.2.1.1 ao.length q.2.1.2]), (127, .int .i64 0), (15, .pointer (some ⟨q.2.2, 0, none⟩))]) (fun q w' => Aside0 (B4 w (b) 32 (.int .i64 1) (.int .i64 as_) (.slice A2 ai.length c2) (.slice A3 ao.length c3) w') ∧ Aside0 (B4 w (b + 1) 32 (.int .i64 bk) (.int .i64 bs) (.slice B2 bi.length d2) (.slice B3 bo.length d3) w') ∧ Aside0 (B4 w (b0M) 27 (.int .i64 1) (.int .i64 bs) (.slice X0A im.length x0c) (.slice Y0A os.length y0c) w') ∧ Aside0 (AP q.2.2 w' A2 c2 ai A3 c3 ao) ∧ Aside0 (AP q.2.2 w' B2 d2 bi B3 d3 bo) ∧ Aside0 (AP q.2.2 w' X0A x0c im Y0A y0c os) ∧ Aside0 (AP q.2.2 w' q.1.1 q.1.2 ai q.2.1.1 q.2.1.2 ao) ∧ Aside0 (w'.heap[q.2.2]? = some (.cells #[.int .i64 0, .int .i64 0, .slice none 0 0, .slice none 0 0] 27 (0, 0))) ∧ Aside0 (b < q.2.2 ∧ b + 1 < q.2.2 ∧ b0M < q.2.2)) ?hcont ?hord
                case hord =>
                  intro JN
                  have JNN := Aside0.mk JN
                  clear JN
                  refine two_ (i := 1) (j := 9) (Ni := some 121) (Nj := some 15) #[true, true, true, true, true, false, false, false, false, false, false, false] #[true, false, true, true, true, false, false, false, false, true, false, false] rfl rfl rfl rfl (two_of HT_.out (by kernel_rfl)) (by decide) (by decide) (fun K hK => ?_) (fun K hK => ?_)
                  · refine goes_ Try.func16 (by kernel_rfl) rfl #[.agg #[.int .i64 1, .int .i64 as_, .slice A2 ai.length c2, .slice A3 ao.length c3]] (by rfl) rfl rfl ma_ ?_
                    refine (ours_c NX26.out.nc 1 as_).mono ?_
                    rintro e v27w ⟨rfl, hb⟩
                    refine ⟨_, rfl, ?_⟩
                    have HX27 := Aside0.mk (HX26.out.next hb)
                    have HY27 := Aside0.mk (HY26.out.next hb)
                    have HM27 := Aside0.mk (HM26.out.next hb)
                    have NX27 := Aside0.mk (NX26.out.below hb)
                    have NY27 := Aside0.mk (NY26.out.below hb)
                    have NM27 := Aside0.mk (NM26.out.below hb)
                    clear hb HX26 HY26 HM26 NX26 NY26 NM26
                    refine hK.out _ _ ⟨HX27.out.x0, HX27.out.x1, HX27.out.x2, HX27.out.x3⟩ (fun hHeld => ?_)
                    clear hK K
                    refine two_ (i := 5) (j := 9) (Ni := some 125) (Nj := some 15) #[true, true, true, true, true, true, false, false, false, false, false, false] #[true, true, true, true, true, false, false, false, false, true, false, false] rfl rfl rfl rfl (two_of HT_.out (by kernel_rfl)) (by decide) (by decide) (fun K hK => ?_) (fun K hK => ?_)
                    · refine goes_ Try.func18 (by kernel_rfl) rfl #[.agg #[.int .i64 1, .int .i64 as_, .slice A2 ai.length c2, .slice A3 ao.length c3], .agg #[.int .i64 1, .int .i64 as_, .slice none 0 0, .slice none 0 0]] (by rfl) rfl rfl ma_ ?_
                      refine (merge_nf NX27.out ⟨fun _ => False, NCF.nil _ _⟩ 1 as_ 1 as_ (by have := HL.out; simp only [List.length_nil]; omega) (im := ai) (os := ao) 1 as_ 0 HM2.out).mono ?_
                      rintro e v28w ⟨XA, xc, YA, yc, rfl, hn, hb⟩
                      refine ⟨_, rfl, ?_⟩
                      have HX28 := Aside0.mk (HX27.out.next hb)
                      have HY28 := Aside0.mk (HY27.out.next hb)
                      have HM28 := Aside0.mk (HM27.out.next hb)
                      have NX28 := Aside0.mk (NX27.out.below hb)
                      have NY28 := Aside0.mk (NY27.out.below hb)
                      have NM28 := Aside0.mk (NM27.out.below hb)
                      clear hb HX27 HY27 HM27 NX27 NY27 NM27
                      have NNew28 := Aside0.mk hn
                      refine hK.out _ _ ⟨HX28.out.x0, HX28.out.x1, HX28.out.x2, HX28.out.x3⟩ (fun hHeld => ?_)
                      clear hK K
                      refine pz_ 6 119 HT_ ?_
                      refine pz_ 7 126 HT_ ?_
                      refine pz_ 8 127 HT_ ?_
                      refine oz_ 9 15 HT_ (fun K hK => ?_)
                      refine value_ (by rfl) rfl (v := .pointer (some ⟨v28w.heap.size, 0, none⟩)) (w1 := v28w.alloc (.cells #[.int .i64 0, .int .i64 0, .slice none 0 0, .slice none 0 0] 27)) (by first | (go_simp; done) | (go_simp; rfl)) ?_
                      have hb : Below v28w.heap.size v28w (v28w.alloc (.cells #[.int .i64 0, .int .i64 0, .slice none 0 0, .slice none 0 0] 27)) := (Below.refl _ _).alloc (Nat.le_refl _) _
                      have hx := blk_new v28w (.cells #[.int .i64 0, .int .i64 0, .slice none 0 0, .slice none 0 0] 27)
                      have hl0 := blk_lt HX28.out.at_
                      have hl1 := blk_lt HY28.out.at_
                      have hl2 := blk_lt HM28.out.at_
                      obtain ⟨bM, hbM⟩ : ∃ bM, v28w.heap.size = bM := ⟨_, rfl⟩
                      rw [hbM] at hx hl0 hl1 hl2
                      rw [hbM]
                      have hle := Nat.le_of_eq hbM
                      clear hbM
                      generalize v28w.alloc (.cells #[.int .i64 0, .int .i64 0, .slice none 0 0, .slice none 0 0] 27) = v29w at *
                      have LT := Aside0.mk (show b < bM ∧ b + 1 < bM ∧ b0M < bM from ⟨hl0, hl1, hl2⟩)
                      clear hl0 hl1 hl2
                      have HX29 := Aside0.mk (HX28.out.next hb)
                      have HY29 := Aside0.mk (HY28.out.next hb)
                      have HM29 := Aside0.mk (HM28.out.next hb)
                      have NX29 := Aside0.mk ((NF.ap NX28.out (b := bM) hle).below hb)
                      have NY29 := Aside0.mk ((NF.ap NY28.out (b := bM) hle).below hb)
                      have NM29 := Aside0.mk ((NF.ap NM28.out (b := bM) hle).below hb)
                      have NNew29 := Aside0.mk ((NF.ap NNew28.out (b := bM) hle).below hb)
                      clear hb HX28 HY28 HM28 NX28 NY28 NM28 hle
                      have TT29 := Aside0.mk hx
                      refine hK.out _ _ ⟨HX29.out.x0, HX29.out.x1, HX29.out.x2, HX29.out.x3⟩ (fun hHeld => ?_)
                      clear hK K
                      exact norm_ pu_ (JNN.out ((XA, xc), (YA, yc), bM) _ ⟨HX29, HY29, HM29, NX29, NY29, NM29, NNew29, TT29, LT⟩)
                    · refine value_ (by rfl) rfl (v := .pointer (some ⟨v27w.heap.size, 0, none⟩)) (w1 := v27w.alloc (.cells #[.int .i64 0, .int .i64 0, .slice none 0 0, .slice none 0 0] 27)) (by first | (go_simp; done) | (go_simp; rfl)) ?_
                      have hb : Below v27w.heap.size v27w (v27w.alloc (.cells #[.int .i64 0, .int .i64 0, .slice none 0 0, .slice none 0 0] 27)) := (Below.refl _ _).alloc (Nat.le_refl _) _
                      have hx := blk_new v27w (.cells #[.int .i64 0, .int .i64 0, .slice none 0 0, .slice none 0 0] 27)
                      have hl0 := blk_lt HX27.out.at_
                      have hl1 := blk_lt HY27.out.at_
                      have hl2 := blk_lt HM27.out.at_
                      obtain ⟨bM, hbM⟩ : ∃ bM, v27w.heap.size = bM := ⟨_, rfl⟩
                      rw [hbM] at hx hl0 hl1 hl2
                      rw [hbM]
                      have hle := Nat.le_of_eq hbM
                      clear hbM
                      generalize v27w.alloc (.cells #[.int .i64 0, .int .i64 0, .slice none 0 0, .slice none 0 0] 27) = v30w at *
                      have LT := Aside0.mk (show b < bM ∧ b + 1 < bM ∧ b0M < bM from ⟨hl0, hl1, hl2⟩)
                      clear hl0 hl1 hl2
                      have HX28 := Aside0.mk (HX27.out.next hb)
                      have HY28 := Aside0.mk (HY27.out.next hb)
                      have HM28 := Aside0.mk (HM27.out.next hb)
                      have NX28 := Aside0.mk ((NF.ap NX27.out (b := bM) hle).below hb)
                      have NY28 := Aside0.mk ((NF.ap NY27.out (b := bM) hle).below hb)
                      have NM28 := Aside0.mk ((NF.ap NM27.out (b := bM) hle).below hb)
                      clear hb HX27 HY27 HM27 NX27 NY27 NM27 hle
                      have TT28 := Aside0.mk hx
                      refine hK.out _ _ ⟨HX28.out.x0, HX28.out.x1, HX28.out.x2, HX28.out.x3⟩ (fun hHeld => ?_)
                      clear hK K
                      refine oz_ 5 125 HT_ (fun K hK => ?_)
                      refine goes_ Try.func18 (by kernel_rfl) rfl #[.agg #[.int .i64 1, .int .i64 as_, .slice A2 ai.length c2, .slice A3 ao.length c3], .agg #[.int .i64 1, .int .i64 as_, .slice none 0 0, .slice none 0 0]] (by rfl) rfl rfl ma_ ?_
                      refine (merge_ap NX28.out ⟨fun _ => False, NCF.nil _ _, fun h => h⟩ (blk_lt TT28.out) 1 as_ 1 as_ (by have := HL.out; simp only [List.length_nil]; omega) (im := ai) (os := ao) 1 as_ 0 HM2.out).mono ?_
                      rintro e v31w ⟨XA, xc, YA, yc, rfl, hn, hb⟩
                      refine ⟨_, rfl, ?_⟩
                      have HX29 := Aside0.mk (HX28.out.next hb)
                      have HY29 := Aside0.mk (HY28.out.next hb)
                      have HM29 := Aside0.mk (HM28.out.next hb)
                      have NX29 := Aside0.mk (NX28.out.below hb)
                      have NY29 := Aside0.mk (NY28.out.below hb)
                      have NM29 := Aside0.mk (NM28.out.below hb)
                      have TT29 := Aside0.mk (blk_below TT28.out hb)
                      clear hb HX28 HY28 HM28 NX28 NY28 NM28
                      have NNew29 := Aside0.mk hn
                      refine hK.out _ _ ⟨HX29.out.x0, HX29.out.x1, HX29.out.x2, HX29.out.x3⟩ (fun hHeld => ?_)
                      clear hK K
                      refine pz_ 6 119 HT_ ?_
                      refine pz_ 7 126 HT_ ?_
                      refine pz_ 8 127 HT_ ?_
                      exact norm_ pu_ (JNN.out ((XA, xc), (YA, yc), bM) _ ⟨HX29, HY29, HM29, NX29, NY29, NM29, NNew29, TT29, LT⟩)
                  · refine value_ (by rfl) rfl (v := .pointer (some ⟨w26.heap.size, 0, none⟩)) (w1 := w26.alloc (.cells #[.int .i64 0, .int .i64 0, .slice none 0 0, .slice none 0 0] 27)) (by first | (go_simp; done) | (go_simp; rfl)) ?_
                    have hb : Below w26.heap.size w26 (w26.alloc (.cells #[.int .i64 0, .int .i64 0, .slice none 0 0, .slice none 0 0] 27)) := (Below.refl _ _).alloc (Nat.le_refl _) _
                    have hx := blk_new w26 (.cells #[.int .i64 0, .int .i64 0, .slice none 0 0, .slice none 0 0] 27)
                    have hl0 := blk_lt HX26.out.at_
                    have hl1 := blk_lt HY26.out.at_
                    have hl2 := blk_lt HM26.out.at_
                    obtain ⟨bM, hbM⟩ : ∃ bM, w26.heap.size = bM := ⟨_, rfl⟩
                    rw [hbM] at hx hl0 hl1 hl2
                    rw [hbM]
                    have hle := Nat.le_of_eq hbM
                    clear hbM
                    generalize w26.alloc (.cells #[.int .i64 0, .int .i64 0, .slice none 0 0, .slice none 0 0] 27) = v32w at *
                    have LT := Aside0.mk (show b < bM ∧ b + 1 < bM ∧ b0M < bM from ⟨hl0, hl1, hl2⟩)
                    clear hl0 hl1 hl2
                    have HX27 := Aside0.mk (HX26.out.next hb)
                    have HY27 := Aside0.mk (HY26.out.next hb)
                    have HM27 := Aside0.mk (HM26.out.next hb)
                    have NX27 := Aside0.mk ((NF.ap NX26.out (b := bM) hle).below hb)
                    have NY27 := Aside0.mk ((NF.ap NY26.out (b := bM) hle).below hb)
                    have NM27 := Aside0.mk ((NF.ap NM26.out (b := bM) hle).below hb)
                    clear hb HX26 HY26 HM26 NX26 NY26 NM26 hle
                    have TT27 := Aside0.mk hx
                    refine hK.out _ _ ⟨HX27.out.x0, HX27.out.x1, HX27.out.x2, HX27.out.x3⟩ (fun hHeld => ?_)
                    clear hK K
                    refine oz_ 1 121 HT_ (fun K hK => ?_)
                    refine goes_ Try.func16 (by kernel_rfl) rfl #[.agg #[.int .i64 1, .int .i64 as_, .slice A2 ai.length c2, .slice A3 ao.length c3]] (by rfl) rfl rfl ma_ ?_
                    refine (ours_c NX27.out.nc 1 as_).mono ?_
                    rintro e v33w ⟨rfl, hb⟩
                    refine ⟨_, rfl, ?_⟩
                    have HX28 := Aside0.mk (HX27.out.next hb)
                    have HY28 := Aside0.mk (HY27.out.next hb)
                    have HM28 := Aside0.mk (HM27.out.next hb)
                    have NX28 := Aside0.mk (NX27.out.below hb)
                    have NY28 := Aside0.mk (NY27.out.below hb)
                    have NM28 := Aside0.mk (NM27.out.below hb)
                    have TT28 := Aside0.mk (blk_below TT27.out hb)
                    clear hb HX27 HY27 HM27 NX27 NY27 NM27
                    refine hK.out _ _ ⟨HX28.out.x0, HX28.out.x1, HX28.out.x2, HX28.out.x3⟩ (fun hHeld => ?_)
                    clear hK K
                    refine oz_ 5 125 HT_ (fun K hK => ?_)
                    refine goes_ Try.func18 (by kernel_rfl) rfl #[.agg #[.int .i64 1, .int .i64 as_, .slice A2 ai.length c2, .slice A3 ao.length c3], .agg #[.int .i64 1, .int .i64 as_, .slice none 0 0, .slice none 0 0]] (by rfl) rfl rfl ma_ ?_
                    refine (merge_ap NX28.out ⟨fun _ => False, NCF.nil _ _, fun h => h⟩ (blk_lt TT28.out) 1 as_ 1 as_ (by have := HL.out; simp only [List.length_nil]; omega) (im := ai) (os := ao) 1 as_ 0 HM2.out).mono ?_
                    rintro e v34w ⟨XA, xc, YA, yc, rfl, hn, hb⟩
                    refine ⟨_, rfl, ?_⟩
                    have HX29 := Aside0.mk (HX28.out.next hb)
                    have HY29 := Aside0.mk (HY28.out.next hb)
                    have HM29 := Aside0.mk (HM28.out.next hb)
                    have NX29 := Aside0.mk (NX28.out.below hb)
                    have NY29 := Aside0.mk (NY28.out.below hb)
                    have NM29 := Aside0.mk (NM28.out.below hb)
                    have TT29 := Aside0.mk (blk_below TT28.out hb)
                    clear hb HX28 HY28 HM28 NX28 NY28 NM28
                    have NNew29 := Aside0.mk hn
                    refine hK.out _ _ ⟨HX29.out.x0, HX29.out.x1, HX29.out.x2, HX29.out.x3⟩ (fun hHeld => ?_)
                    clear hK K
                    refine pz_ 6 119 HT_ ?_
                    refine pz_ 7 126 HT_ ?_
                    refine pz_ 8 127 HT_ ?_
                    exact norm_ pu_ (JNN.out ((XA, xc), (YA, yc), bM) _ ⟨HX29, HY29, HM29, NX29, NY29, NM29, NNew29, TT29, LT⟩)
                case hcont =>
                  rintro ⟨⟨X1A, x1c⟩, ⟨Y1A, y1c⟩, b1M⟩ w46 ⟨HX46, HY46, HM46, NX46, NY46, NM46, NNew, TT, LT⟩
                  simp only at NNew TT LT
                  refine norm_ (a' := ?_) ?_ ?_
                  rotate_left
                  · simp only [putAll, Act.put, List.setIfInBounds_toArray, List.set_cons_zero, List.set_cons_succ]; rfl
                  clear HX26 HY26 HM26 NX26 NY26 NM26
                  refine last_ (i := 10) (N := none) #[true, true, true, true, true, true, true, true, true, true, true, false] rfl rfl (one_of HT_.out (by kernel_rfl)) (by decide) (fun K hK => ?_)
                  obtain ⟨z0, f0, z1, f1, z2, f2, z3, f3, k4⟩ := put4c (.int .i64 1) (.int .i64 as_) (.slice X1A ai.length x1c) (.slice Y1A ao.length y1c) TT.out
                  have hge : w.heap.size ≤ b1M := by have := HX46.out.ge; have := LT.out; omega
                  have HX47 := Aside0.mk (B4.set (B4.set (B4.set (B4.set HX46.out (k := 0) (show b ≠ b1M by have := LT.out; omega) hge (.int .i64 1)) (k := 1) (show b ≠ b1M by have := LT.out; omega) hge (.int .i64 as_)) (k := 2) (show b ≠ b1M by have := LT.out; omega) hge (.slice X1A ai.length x1c)) (k := 3) (show b ≠ b1M by have := LT.out; omega) hge (.slice Y1A ao.length y1c))
                  have HY47 := Aside0.mk (B4.set (B4.set (B4.set (B4.set HY46.out (k := 0) (show b + 1 ≠ b1M by have := LT.out; omega) hge (.int .i64 1)) (k := 1) (show b + 1 ≠ b1M by have := LT.out; omega) hge (.int .i64 as_)) (k := 2) (show b + 1 ≠ b1M by have := LT.out; omega) hge (.slice X1A ai.length x1c)) (k := 3) (show b + 1 ≠ b1M by have := LT.out; omega) hge (.slice Y1A ao.length y1c))
                  have HM47 := Aside0.mk (B4.set (B4.set (B4.set (B4.set HM46.out (k := 0) (show b0M ≠ b1M by have := LT.out; omega) hge (.int .i64 1)) (k := 1) (show b0M ≠ b1M by have := LT.out; omega) hge (.int .i64 as_)) (k := 2) (show b0M ≠ b1M by have := LT.out; omega) hge (.slice X1A ai.length x1c)) (k := 3) (show b0M ≠ b1M by have := LT.out; omega) hge (.slice Y1A ao.length y1c))
                  have far : ∀ j, j ≠ b1M → ((((w46.setCell ⟨b1M, 0, none⟩ (.int .i64 1)).setCell ⟨b1M, 1, none⟩ (.int .i64 as_)).setCell ⟨b1M, 2, none⟩ (.slice X1A ai.length x1c)).setCell ⟨b1M, 3, none⟩ (.slice Y1A ao.length y1c)).heap[j]? = w46.heap[j]? := fun j hj => far4 hj
                  have NX47 := Aside0.mk (AP.far NX46.out far)
                  have NY47 := Aside0.mk (AP.far NY46.out far)
                  have NM47 := Aside0.mk (AP.far NM46.out far)
                  have NR47 := Aside0.mk (AP.far NNew.out far)
                  have HR47 := Aside0.mk (show B4 w b1M 27 (.int .i64 1) (.int .i64 as_) (.slice X1A ai.length x1c) (.slice Y1A ao.length y1c) ((((w46.setCell ⟨b1M, 0, none⟩ (.int .i64 1)).setCell ⟨b1M, 1, none⟩ (.int .i64 as_)).setCell ⟨b1M, 2, none⟩ (.slice X1A ai.length x1c)).setCell ⟨b1M, 3, none⟩ (.slice Y1A ao.length y1c)) from ⟨HX47.out.below, k4, hge⟩)
                  clear k4 far hge TT LT NNew HX46 HY46 HM46 NX46 NY46 NM46
                  refine skip_ (w1 := (((w46.setCell ⟨b1M, 0, none⟩ (.int .i64 1)).setCell ⟨b1M, 1, none⟩ (.int .i64 as_)).setCell ⟨b1M, 2, none⟩ (.slice X1A ai.length x1c)).setCell ⟨b1M, 3, none⟩ (.slice Y1A ao.length y1c)) (by rfl) rfl (by first | (go_simp; done) | (go_simp; rfl)) ?_
                  refine hK.out _ _ ?_
                  clear hK K z0 f0 z1 f1 z2 f2 z3 f3
                  refine last_ (i := 11) (N := some 16) #[true, true, true, true, true, true, true, true, true, true, true, true] rfl rfl (one_of HT_.out (by kernel_rfl)) (by decide) (fun K hK => ?_)
                  refine value_ (v := .int .i64 0) (w1 := (((w46.setCell ⟨b1M, 0, none⟩ (.int .i64 1)).setCell ⟨b1M, 1, none⟩ (.int .i64 as_)).setCell ⟨b1M, 2, none⟩ (.slice X1A ai.length x1c)).setCell ⟨b1M, 3, none⟩ (.slice Y1A ao.length y1c)) (by rfl) rfl (by first | (go_simp; done) | (go_simp; rfl)) ?_
                  refine hK.out _ _ ?_
                  clear hK K
                  refine done_ (done_of HT_.out (by kernel_rfl)) ?_
                  clear HT_ HW_ hHeld
                  generalize (((w46.setCell ⟨b1M, 0, none⟩ (.int .i64 1)).setCell ⟨b1M, 1, none⟩ (.int .i64 as_)).setCell ⟨b1M, 2, none⟩ (.slice X1A ai.length x1c)).setCell ⟨b1M, 3, none⟩ (.slice Y1A ao.length y1c) = w47 at *
                  have xX0 := HX47.out.x0; have xX1 := HX47.out.x1; have xX2 := HX47.out.x2; have xX3 := HX47.out.x3; have xY0 := HY47.out.x0; have xY1 := HY47.out.x1; have xY2 := HY47.out.x2; have xY3 := HY47.out.x3; have xM0 := HM47.out.x0; have xM1 := HM47.out.x1; have xM2 := HM47.out.x2; have xM3 := HM47.out.x3; have xR0 := HR47.out.x0; have xR1 := HR47.out.x1; have xR2 := HR47.out.x2; have xR3 := HR47.out.x3
                  go_upto_region 25 with (fail)
                  clear xX0 xX1 xX2 xX3 xY0 xY1 xY2 xY3 xM0 xM1 xM2 xM3 xR0 xR1 xR2 xR3
                  have hb : Below w47.heap.size w47 w47.drew := (Below.refl _ _).drew
                  have HX48 := Aside0.mk (HX47.out.next hb)
                  have HY48 := Aside0.mk (HY47.out.next hb)
                  have HM48 := Aside0.mk (HM47.out.next hb)
                  have HR48 := Aside0.mk (HR47.out.next hb)
                  have NX48 := Aside0.mk (NX47.out.below hb)
                  have NY48 := Aside0.mk (NY47.out.below hb)
                  have NM48 := Aside0.mk (NM47.out.below hb)
                  have NR48 := Aside0.mk (NR47.out.below hb)
                  clear hb HX47 HY47 HM47 HR47 NX47 NY47 NM47 NR47
                  refine start_ (n := 22) (S := fun w' => w'.cell? ⟨b0M, 0, none⟩ = some (.int .i64 1) ∧ w'.cell? ⟨b0M, 1, none⟩ = some (.int .i64 bs) ∧ w'.cell? ⟨b0M, 2, none⟩ = some (.slice X0A im.length x0c) ∧ w'.cell? ⟨b0M, 3, none⟩ = some (.slice Y0A os.length y0c) ∧ w'.cell? ⟨b, 0, none⟩ = some (.int .i64 1) ∧ w'.cell? ⟨b, 1, none⟩ = some (.int .i64 as_) ∧ w'.cell? ⟨b, 2, none⟩ = some (.slice A2 ai.length c2) ∧ w'.cell? ⟨b, 3, none⟩ = some (.slice A3 ao.length c3) ∧ w'.cell? ⟨b + 1, 0, none⟩ = some (.int .i64 bk) ∧ w'.cell? ⟨b + 1, 1, none⟩ = some (.int .i64 bs) ∧ w'.cell? ⟨b + 1, 2, none⟩ = some (.slice B2 bi.length d2) ∧ w'.cell? ⟨b + 1, 3, none⟩ = some (.slice B3 bo.length d3) ∧ w'.cell? ⟨b1M, 0, none⟩ = some (.int .i64 1) ∧ w'.cell? ⟨b1M, 1, none⟩ = some (.int .i64 as_) ∧ w'.cell? ⟨b1M, 2, none⟩ = some (.slice X1A ai.length x1c) ∧ w'.cell? ⟨b1M, 3, none⟩ = some (.slice Y1A ao.length y1c)) (ds := []) #[false, false, false, false, false, false, false, false, false, false, false, false, false, false, false, false, false, false, false, false, false, false] (by kernel_rfl) rfl rfl ⟨HM48.out.x0, HM48.out.x1, HM48.out.x2, HM48.out.x3, HX48.out.x0, HX48.out.x1, HX48.out.x2, HX48.out.x3, HY48.out.x0, HY48.out.x1, HY48.out.x2, HY48.out.x3, HR48.out.x0, HR48.out.x1, HR48.out.x2, HR48.out.x3⟩ (fun hHeld => ?_)
                  refine with_tabW regP25.tab regP25.bits (fun HT_ HW_ => ?_)
                  generalize w47.drew = w48 at *
                  try clear w47
                  have hll := HL.out
                  have u1 : wrap64 ((ao.length : Int) + (bo.length : Int)) = (ao.length : Int) + (bo.length : Int) := w64_of (by omega) (by omega)
                  have u2 : (os.length : Int) = (ao.length : Int) + (bo.length : Int) := by have := HOL.out; omega
                  clear hll
                  refine pz_ 0 128 HT_ ?_
                  refine tz_ 1 129 HT_ HW_ hHeld ?_
                  refine pz_ 2 130 HT_ ?_
                  refine pz_ 3 131 HT_ ?_
                  refine tz_ 4 132 HT_ HW_ hHeld ?_
                  refine pz_ 5 133 HT_ ?_
                  refine pz_ 6 134 HT_ ?_
                  refine tz_ 7 135 HT_ HW_ hHeld ?_
                  refine pz_ 8 136 HT_ ?_
                  refine pz_ 9 137 HT_ ?_
                  refine pz_ 10 138 HT_ ?_
                  refine pz_ 11 139 HT_ ?_
                  refine pz_ 12 140 HT_ ?_
                  refine pz_ 13 141 HT_ ?_
                  refine pz_ 14 142 HT_ ?_
                  refine pz_ 15 143 HT_ ?_
                  refine tz_ 16 144 HT_ HW_ hHeld ?_
                  refine tz_ 18 146 HT_ HW_ hHeld ?_
                  refine oz_ 17 145 HT_ (fun K hK => ?_)
                  refine goes_ Try.func12 (by kernel_rfl) rfl #[.agg #[.int .i64 1, .int .i64 as_, .slice X1A ai.length x1c, .slice Y1A ao.length y1c]] (by rfl) rfl rfl ma_ ?_
                  refine (theirs_c NR48.out.nc 1 as_).mono ?_
                  rintro e y1w ⟨rfl, hb⟩
                  refine ⟨_, rfl, ?_⟩
                  have HX49 := Aside0.mk (HX48.out.next hb)
                  have HY49 := Aside0.mk (HY48.out.next hb)
                  have HM49 := Aside0.mk (HM48.out.next hb)
                  have HR49 := Aside0.mk (HR48.out.next hb)
                  have NX49 := Aside0.mk (NX48.out.below hb)
                  have NY49 := Aside0.mk (NY48.out.below hb)
                  have NM49 := Aside0.mk (NM48.out.below hb)
                  have NR49 := Aside0.mk (NR48.out.below hb)
                  clear hb HX48 HY48 HM48 HR48 NX48 NY48 NM48 NR48
                  refine hK.out _ _ ⟨HM49.out.x0, HM49.out.x1, HM49.out.x2, HM49.out.x3, HX49.out.x0, HX49.out.x1, HX49.out.x2, HX49.out.x3, HY49.out.x0, HY49.out.x1, HY49.out.x2, HY49.out.x3, HR49.out.x0, HR49.out.x1, HR49.out.x2, HR49.out.x3⟩ (fun hHeld => ?_)
                  clear hK K
                  refine oz_ 19 147 HT_ (fun K hK => ?_)
                  refine goes_ Try.func11 (by kernel_rfl) rfl #[.agg #[.int .i64 1, .int .i64 as_, .slice X1A ai.length x1c, .slice Y1A ao.length y1c], .agg #[.int .i64 1, .int .i64 as_, .slice A2 ai.length c2, .slice A3 ao.length c3]] (by rfl) rfl rfl ma_ ?_
                  refine (same_c NR49.out.nc NX49.out.nc 1 as_ (by have := HL.out; omega) (by have := HL.out; omega)).mono ?_
                  rintro e y2w ⟨rfl, hb⟩
                  refine ⟨_, rfl, ?_⟩
                  have HX50 := Aside0.mk (HX49.out.next hb)
                  have HY50 := Aside0.mk (HY49.out.next hb)
                  have HM50 := Aside0.mk (HM49.out.next hb)
                  have HR50 := Aside0.mk (HR49.out.next hb)
                  have NX50 := Aside0.mk (NX49.out.below hb)
                  have NY50 := Aside0.mk (NY49.out.below hb)
                  have NM50 := Aside0.mk (NM49.out.below hb)
                  have NR50 := Aside0.mk (NR49.out.below hb)
                  clear hb HX49 HY49 HM49 HR49 NX49 NY49 NM49 NR49
                  refine hK.out _ _ ⟨HM50.out.x0, HM50.out.x1, HM50.out.x2, HM50.out.x3, HX50.out.x0, HX50.out.x1, HX50.out.x2, HX50.out.x3, HY50.out.x0, HY50.out.x1, HY50.out.x2, HY50.out.x3, HR50.out.x0, HR50.out.x1, HR50.out.x2, HR50.out.x3⟩ (fun hHeld => ?_)
                  clear hK K
                  refine pz_ 20 148 HT_ ?_
                  refine pz_ 21 149 HT_ ?_
                  refine done_ (done_of HT_.out (by kernel_rfl)) ?_
                  clear HT_ HW_ hHeld u1 u2
                  go_wp2
                  have HBW := Aside0.mk (Below.refl y2w.heap.size y2w)
                  go_loopg [17] os.length (fun gg s1 wr => ∃ i : Nat, i ≤ os.length ∧ os.length - i ≤ gg ∧ s1 = .int .i64 i ∧ Aside0 (Below y2w.heap.size y2w wr))
                  case atStart => exact ⟨0, by omega, by omega, rfl, HBW⟩
                  case round =>
                    obtain ⟨i, hi, hgi, rfl, HBR⟩ := hrel
                    clear HBW
                    have hX := HX50.out.next HBR.out
                    have hY := HY50.out.next HBR.out
                    have hM := HM50.out.next HBR.out
                    have xX0 := hX.x0
                    have xX1 := hX.x1
                    have xX2 := hX.x2
                    have xX3 := hX.x3
                    have xY0 := hY.x0
                    have xY1 := hY.x1
                    have xY2 := hY.x2
                    have xY3 := hY.x3
                    have xM0 := hM.x0
                    have xM1 := hM.x1
                    have xM2 := hM.x2
                    have xM3 := hM.x3
                    have nX := NX50.out.nc.below HBR.out
                    have nY := NY50.out.nc.below HBR.out
                    have nM := NM50.out.nc.below HBR.out
                    have hll := HL.out
                    have hol := HOL.out
                    by_cases hlt : i < os.length
                    · have u1 : ((i : Int) < (os.length : Int)) = True := eq_true (by omega)
                      have u2 : (0 ≤ (i : Int)) = True := eq_true (by omega)
                      have u4 : (i < os.length) = True := eq_true hlt
                      have hM := nM.o
                      obtain ⟨adm, hA, e1, e2⟩ := at_T46 hM (i : Int) (by omega) (by omega)
                      rw [rd46_at os i hlt] at e1 e2
                      have hoi : os[i] = (ao ++ bo)[i]'(by rw [List.length_append]; omega) := by have h := HOS.out; subst h; rfl
                      rw [hoi] at e1 e2
                      rw [Int.toNat_natCast] at e1 e2
                      subst hA
                      by_cases ha : i < ao.length
                      · obtain ⟨ada, hA, f1, f2⟩ := at_T46 nX.o (i : Int) (by omega) (by omega)
                        rw [rd46_at ao i ha] at f1 f2
                        rw [Int.toNat_natCast] at f1 f2
                        subst hA
                        rw [List.getElem_append_left ha] at e1 e2
                        obtain ⟨⟨p0, p1⟩, hp⟩ : ∃ x, ao[i] = x := ⟨_, rfl⟩
                        rw [hp] at e1 e2 f1 f2
                        simp only at e1 e2 f1 f2
                        have u5 : ((i : Int) < (ao.length : Int)) = True := eq_true (by omega)
                        have u6 : (i < ao.length) = True := eq_true ha
                        have u7 : ((ao.length : Int) ≤ (i : Int)) = False := eq_false (by omega)
                        have u8 : (ao.length ≤ i) = False := eq_false (by omega)
                        clear hp hM hll hol hoi nX nY nM hX hY
                        go_upto_region 30 with (fail)
                        go_quiet (fail)
                        go_wp2
                        go_roundg (os.length - (i + 1))
                        case measure => omega
                        case rel => exact ⟨i + 1, by omega, by omega, nxt_ i (by have := HL.out; have := HOL.out; omega), ⟨pw_below_drewN HBR.out _⟩⟩
                      · obtain ⟨j, hj⟩ : ∃ j, j = i - ao.length := ⟨_, rfl⟩
                        have hjl : j < bo.length := by omega
                        obtain ⟨adb, hA, f1, f2⟩ := at_T46 nY.o (j : Int) (by omega) (by omega)
                        rw [rd46_at bo j hjl] at f1 f2
                        rw [Int.toNat_natCast] at f1 f2
                        subst hA
                        have hbj : (ao ++ bo)[i]'(by rw [List.length_append]; omega) = bo[j] := by rw [List.getElem_append_right (by omega)]; simp only [hj]
                        rw [hbj] at e1 e2
                        obtain ⟨⟨p0, p1⟩, hp⟩ : ∃ x, bo[j] = x := ⟨_, rfl⟩
                        rw [hp] at e1 e2 f1 f2
                        simp only at e1 e2 f1 f2
                        have u5 : ((i : Int) < (ao.length : Int)) = False := eq_false (by omega)
                        have u6 : (i < ao.length) = False := eq_false ha
                        have u7 : ((ao.length : Int) ≤ (i : Int)) = True := eq_true (by omega)
                        have u8 : (ao.length ≤ i) = True := eq_true (by omega)
                        have u9 : (0 ≤ (j : Int)) = True := eq_true (by omega)
                        have ua : ((j : Int) < (bo.length : Int)) = True := eq_true (by omega)
                        have ub : (j < bo.length) = True := eq_true hjl
                        have uc : wrap64 ((i : Int) - (ao.length : Int)) = (j : Int) := by rw [w64_of (by omega) (by omega)]; omega
                        have ud : IntKind.i64.wrap ((i : Int) - (ao.length : Int)) = (j : Int) := by rw [IntKind.wrap_i64]; omega
                        clear hp hM hll hol hoi hbj nX nY nM hX hY hj ha hjl
                        go_upto_region 30 with (fail)
                        go_quiet (fail)
                        go_wp2
                        go_roundg (os.length - (i + 1))
                        case measure => omega
                        case rel => exact ⟨i + 1, by omega, by omega, nxt_ i (by have := HL.out; have := HOL.out; omega), ⟨pw_below_drewN HBR.out _⟩⟩
                    · obtain rfl : i = os.length := by omega
                      have q1 : ((os.length : Int) < (os.length : Int)) = False := eq_false (by omega)
                      clear hll hol hi hgi hlt nX nY
                      have hsc := sane_c nM 1 bs (by have := HIL.out; omega) (by have := HL.out; have := HOL.out; omega)
                      rw [HS.out] at hsc
                      have CS := Aside0.mk hsc
                      have HF := Aside0.mk hX
                      clear hsc nM hX hY
                      go_wp2_with (go_at_call 14; refine CS.out.mono ?_; rintro e wz ⟨rfl, hb⟩; have HFF := Aside0.mk (HF.out.next hb); clear CS hb HF)
                      go_ret
                      exact ⟨rfl, HFF.out.below⟩
end
end Go.Proofs.Ythcikbbglpdjhaa.Q
