/- NoteOrder: the walk. No condition. -/
import Derived.Test.YthcikbbglpdjhaaMC
import Derived.Test.YthcikbbglpdjhaaFNoteOrder
namespace Go.Proofs.Ythcikbbglpdjhaa.Q
open Go.RowKit Go.Proofs.YthcikbbglpdjhaaW Go.Proofs.YthcikbbglpdjhaaW.PrintWords Go.Proofs.YthcikbbglpdjhaaW.PrintLast Go.Proofs.YthcikbbglpdjhaaW.PrintMore
attribute [local go_sem] max2_int min2_int max_two min_two
set_option linter.unusedVariables false
set_option linter.unusedSimpArgs false

def regO4.T : Bool × List (List Nat × List Nat) := (true, [([], []), ([0], [0]), ([], []), ([2, 1], [2]), ([1, 3, 3], [1, 3]), ([4], [4]), ([5], [5]), ([5], [5]), ([], []), ([8, 6, 4, 0, 1, 2, 3, 4, 5, 6, 8], [6, 8]), ([7, 9, 0, 1, 2, 3, 4, 5, 6, 7, 8, 9], [7])])
def regO4.B : List Nat := [0, 1, 0, 7, 15, 31, 63, 63, 0, 383, 1023]
theorem regO4.tab : rtab .any (opsOf Try.f6 4) = regO4.T := by kernel_rfl
theorem regO4.bits : waitsOk regO4.T.2 regO4.B = true := by kernel_rfl

def regO5.T : Bool × List (List Nat × List Nat) := (true, [([], []), ([0], [0]), ([], []), ([2, 1], [2]), ([1, 3, 3], [1, 3]), ([4], [4]), ([5], [5]), ([5], [5]), ([], []), ([8, 6, 4, 0, 1, 2, 3, 4, 5, 6, 8], [6, 8]), ([7, 9, 0, 1, 2, 3, 4, 5, 6, 7, 8, 9], [7])])
def regO5.B : List Nat := [0, 1, 0, 7, 15, 31, 63, 63, 0, 383, 1023]
theorem regO5.tab : rtab .any (opsOf Try.f6 5) = regO5.T := by kernel_rfl
theorem regO5.bits : waitsOk regO5.T.2 regO5.B = true := by kernel_rfl

def regO6.T : Bool × List (List Nat × List Nat) := (true, [([], []), ([], []), ([1], [1]), ([0, 2, 2], [0, 2]), ([3], [3]), ([4], [4]), ([4], [4]), ([], []), ([7, 5, 3, 0, 1, 2, 3, 4, 5, 7], [5, 7]), ([6, 8, 0, 1, 2, 3, 4, 5, 6, 7, 8], [6])])
def regO6.B : List Nat := [0, 0, 2, 7, 15, 31, 31, 0, 191, 511]
theorem regO6.tab : rtab .any (opsOf Try.f6 6) = regO6.T := by kernel_rfl
theorem regO6.bits : waitsOk regO6.T.2 regO6.B = true := by kernel_rfl

def regO7.T : Bool × List (List Nat × List Nat) := (true, [([], []), ([0], [0]), ([], []), ([1, 2, 1], [1, 2]), ([3], [3]), ([4], [4]), ([4], [4]), ([], []), ([7, 5, 3, 0, 1, 2, 3, 4, 5, 7], [5, 7]), ([6, 8, 0, 1, 2, 3, 4, 5, 6, 7, 8], [6])])
def regO7.B : List Nat := [0, 1, 0, 7, 15, 31, 31, 0, 191, 511]
theorem regO7.tab : rtab .any (opsOf Try.f6 7) = regO7.T := by kernel_rfl
theorem regO7.bits : waitsOk regO7.T.2 regO7.B = true := by kernel_rfl

def regO10.T : Bool × List (List Nat × List Nat) := (true, [([], []), ([0], [0]), ([1], [1]), ([1], [1]), ([2, 3, 1], [1, 2, 3]), ([1, 4], [1, 4]), ([5, 1], [5]), ([6], [6]), ([7, 6, 6], [6, 7]), ([6], [6]), ([9, 8, 6], [6, 9]), ([8, 10, 10, 6], [6, 8, 10]), ([6, 11], [6, 11]), ([12, 11, 0, 1, 2, 3, 4, 5, 6, 7, 8, 9, 10, 11, 12], [12])])
def regO10.B : List Nat := [0, 1, 3, 3, 15, 31, 63, 127, 255, 127, 1023, 2047, 4095, 8191]
theorem regO10.tab : rtab .any (opsOf Try.f6 10) = regO10.T := by kernel_rfl
theorem regO10.bits : waitsOk regO10.T.2 regO10.B = true := by kernel_rfl

theorem mergeR_len {ak as_ bk bs k s r : Int} {ai bi im : List S44} {ao bo os : List S46} (h : mergeR ak as_ ai ao bk bs bi bo = (k, s, im, os, r)) : im.length ≤ ai.length + bi.length ∧ os.length ≤ ao.length + bo.length := by
  unfold mergeR at h
  have hl := merge_length ai bi
  split at h
  · split at h
    · simp only [Prod.mk.injEq] at h
      obtain ⟨_, _, rfl, rfl, _⟩ := h
      exact ⟨hl.2, by rw [List.length_append]; exact Nat.le_refl _⟩
    · simp only [Prod.mk.injEq] at h
      obtain ⟨_, _, rfl, rfl, _⟩ := h
      exact ⟨Nat.zero_le _, Nat.zero_le _⟩
  · simp only [Prod.mk.injEq] at h
    obtain ⟨_, _, rfl, rfl, _⟩ := h
    exact ⟨Nat.zero_le _, Nat.zero_le _⟩
theorem boxes3' (w : World) (t : Nat) (a0 a1 a2 a3 b0 b1 b2 b3 e0 e1 e2 e3 : Value) (W : World) (hW : ((w.alloc (.cells #[a0, a1, a2, a3] t)).alloc (.cells #[b0, b1, b2, b3] t)).alloc (.cells #[e0, e1, e2, e3] t) = W) :
    B4 w w.heap.size t a0 a1 a2 a3 W ∧ B4 w (w.heap.size + 1) t b0 b1 b2 b3 W ∧ B4 w (w.heap.size + 2) t e0 e1 e2 e3 W := boxes3 w t a0 a1 a2 a3 b0 b1 b2 b3 e0 e1 e2 e3 W hW
section
variable (ak as_ : Int) (A2 : Option Addr) (c2 : Nat) (ai : List S44) (A3 : Option Addr) (c3 : Nat) (ao : List S46) (bk bs : Int) (B2 : Option Addr) (d2 : Nat) (bi : List S44) (B3 : Option Addr) (d3 : Nat) (bo : List S46) (ck cs_ : Int) (C2 : Option Addr) (e2 : Nat) (ci : List S44) (C3 : Option Addr) (e3 : Nat) (co : List S46) (w : World)
def OrderOk : Prop := Calls Try.prog 6 #[.agg #[.int .i64 ak, .int .i64 as_, .slice A2 ai.length c2, .slice A3 ao.length c3], .agg #[.int .i64 bk, .int .i64 bs, .slice B2 bi.length d2, .slice B3 bo.length d3], .agg #[.int .i64 ck, .int .i64 cs_, .slice C2 ci.length e2, .slice C3 co.length e3]] w fun e w' => e = .returned (.bool true) ∧ Below w.heap.size w w'

set_option maxRecDepth 100000 in
set_option maxHeartbeats 12800000 in
theorem order_few1 (hna : NC w A2 c2 ai A3 c3 ao) (hnb : NC w B2 d2 bi B3 d3 bo) (hnc : NC w C2 e2 ci C3 e3 co) (hf : fewB 60 ai ao = false) : OrderOk ak as_ A2 c2 ai A3 c3 ao bk bs B2 d2 bi B3 d3 bo ck cs_ C2 e2 ci C3 e3 co w := by
  obtain ⟨w0, hw0⟩ : ∃ w0, ((w.alloc (.cells #[.int .i64 ak, .int .i64 as_, .slice A2 ai.length c2, .slice A3 ao.length c3] 32)).alloc (.cells #[.int .i64 bk, .int .i64 bs, .slice B2 bi.length d2, .slice B3 bo.length d3] 32)).alloc (.cells #[.int .i64 ck, .int .i64 cs_, .slice C2 ci.length e2, .slice C3 co.length e3] 32) = w0 := ⟨_, rfl⟩
  obtain ⟨hX, hY, hZ⟩ := boxes3' w 32 _ _ _ _ _ _ _ _ _ _ _ _ w0 hw0
  have NX0 := Aside0.mk (hna.nf.below hX.below)
  have NY0 := Aside0.mk (hnb.nf.below hX.below)
  have NZ0 := Aside0.mk (hnc.nf.below hX.below)
  have hu := Try.underlying32
  have hu2 := Try.underlying27
  unfold OrderOk
  obtain ⟨b, hb⟩ : ∃ b, w.heap.size = b := ⟨_, rfl⟩
  rw [hb] at hX hY hZ
  have HX0 := Aside0.mk hX
  have HY0 := Aside0.mk hY
  have HZ0 := Aside0.mk hZ
  clear hX hY hZ hna hnb hnc
  go_enter Try.func6, Try.ntmps6
  go_upto_region 1 with (fail)
  (try rw [hw0])
  clear hw0 hb
  have C9 := Aside0.mk (fun W => awake_c W)
  have FA := Aside0.mk (fun W (h : NC W A2 c2 ai A3 c3 ao) => few_c h ak as_ 60 (by omega))
  have FB := Aside0.mk (fun W (h : NC W B2 d2 bi B3 d3 bo) => few_c h bk bs 60 (by omega))
  have FC := Aside0.mk (fun W (h : NC W C2 e2 ci C3 e3 co) => few_c h ck cs_ 60 (by omega))
  simp only [hf] at FA FB FC
  clear hf
  have xX0 := HX0.out.x0; have xX1 := HX0.out.x1; have xX2 := HX0.out.x2; have xX3 := HX0.out.x3; have xY0 := HY0.out.x0; have xY1 := HY0.out.x1; have xY2 := HY0.out.x2; have xY3 := HY0.out.x3; have xZ0 := HZ0.out.x0; have xZ1 := HZ0.out.x1; have xZ2 := HZ0.out.x2; have xZ3 := HZ0.out.x3
  go_wp2_with (first | (go_at_call 9; refine (C9.out _).mono ?_; rintro e w1 ⟨rfl, hb⟩; clear xX0 xX1 xX2 xX3 xY0 xY1 xY2 xY3 xZ0 xZ1 xZ2 xZ3 C9; have HX1 := Aside0.mk (HX0.out.next hb); have HY1 := Aside0.mk (HY0.out.next hb); have HZ1 := Aside0.mk (HZ0.out.next hb); have NX1 := Aside0.mk (NX0.out.below hb); have NY1 := Aside0.mk (NY0.out.below hb); have NZ1 := Aside0.mk (NZ0.out.below hb); clear hb HX0 HY0 HZ0 NX0 NY0 NZ0; have xX0 := HX1.out.x0; have xX1 := HX1.out.x1; have xX2 := HX1.out.x2; have xX3 := HX1.out.x3; have xY0 := HY1.out.x0; have xY1 := HY1.out.x1; have xY2 := HY1.out.x2; have xY3 := HY1.out.x3; have xZ0 := HZ1.out.x0; have xZ1 := HZ1.out.x1; have xZ2 := HZ1.out.x2; have xZ3 := HZ1.out.x3) | (go_at_call 15; refine (FA.out _ NX1.out.nc).mono ?_; rintro e w2 ⟨rfl, hb⟩; clear xX0 xX1 xX2 xX3 xY0 xY1 xY2 xY3 xZ0 xZ1 xZ2 xZ3 FA; have HX2 := Aside0.mk (HX1.out.next hb); have HY2 := Aside0.mk (HY1.out.next hb); have HZ2 := Aside0.mk (HZ1.out.next hb); have NX2 := Aside0.mk (NX1.out.below hb); have NY2 := Aside0.mk (NY1.out.below hb); have NZ2 := Aside0.mk (NZ1.out.below hb); clear hb HX1 HY1 HZ1 NX1 NY1 NZ1; have xX0 := HX2.out.x0; have xX1 := HX2.out.x1; have xX2 := HX2.out.x2; have xX3 := HX2.out.x3; have xY0 := HY2.out.x0; have xY1 := HY2.out.x1; have xY2 := HY2.out.x2; have xY3 := HY2.out.x3; have xZ0 := HZ2.out.x0; have xZ1 := HZ2.out.x1; have xZ2 := HZ2.out.x2; have xZ3 := HZ2.out.x3))
  go_ret
  exact ⟨rfl, HX2.out.below⟩
set_option maxRecDepth 100000 in
set_option maxHeartbeats 12800000 in
theorem order_few2 (hna : NC w A2 c2 ai A3 c3 ao) (hnb : NC w B2 d2 bi B3 d3 bo) (hnc : NC w C2 e2 ci C3 e3 co) (hf : fewB 60 ai ao = true) (hg : fewB 60 bi bo = false) : OrderOk ak as_ A2 c2 ai A3 c3 ao bk bs B2 d2 bi B3 d3 bo ck cs_ C2 e2 ci C3 e3 co w := by
  obtain ⟨w0, hw0⟩ : ∃ w0, ((w.alloc (.cells #[.int .i64 ak, .int .i64 as_, .slice A2 ai.length c2, .slice A3 ao.length c3] 32)).alloc (.cells #[.int .i64 bk, .int .i64 bs, .slice B2 bi.length d2, .slice B3 bo.length d3] 32)).alloc (.cells #[.int .i64 ck, .int .i64 cs_, .slice C2 ci.length e2, .slice C3 co.length e3] 32) = w0 := ⟨_, rfl⟩
  obtain ⟨hX, hY, hZ⟩ := boxes3' w 32 _ _ _ _ _ _ _ _ _ _ _ _ w0 hw0
  have NX0 := Aside0.mk (hna.nf.below hX.below)
  have NY0 := Aside0.mk (hnb.nf.below hX.below)
  have NZ0 := Aside0.mk (hnc.nf.below hX.below)
  have hu := Try.underlying32
  have hu2 := Try.underlying27
  unfold OrderOk
  obtain ⟨b, hb⟩ : ∃ b, w.heap.size = b := ⟨_, rfl⟩
  rw [hb] at hX hY hZ
  have HX0 := Aside0.mk hX
  have HY0 := Aside0.mk hY
  have HZ0 := Aside0.mk hZ
  clear hX hY hZ hna hnb hnc
  go_enter Try.func6, Try.ntmps6
  go_upto_region 1 with (fail)
  (try rw [hw0])
  clear hw0 hb
  have C9 := Aside0.mk (fun W => awake_c W)
  have FA := Aside0.mk (fun W (h : NC W A2 c2 ai A3 c3 ao) => few_c h ak as_ 60 (by omega))
  have FB := Aside0.mk (fun W (h : NC W B2 d2 bi B3 d3 bo) => few_c h bk bs 60 (by omega))
  have FC := Aside0.mk (fun W (h : NC W C2 e2 ci C3 e3 co) => few_c h ck cs_ 60 (by omega))
  simp only [hf, hg] at FA FB FC
  clear hf  hg
  have xX0 := HX0.out.x0; have xX1 := HX0.out.x1; have xX2 := HX0.out.x2; have xX3 := HX0.out.x3; have xY0 := HY0.out.x0; have xY1 := HY0.out.x1; have xY2 := HY0.out.x2; have xY3 := HY0.out.x3; have xZ0 := HZ0.out.x0; have xZ1 := HZ0.out.x1; have xZ2 := HZ0.out.x2; have xZ3 := HZ0.out.x3
  go_wp2_with (first | (go_at_call 9; refine (C9.out _).mono ?_; rintro e w1 ⟨rfl, hb⟩; clear xX0 xX1 xX2 xX3 xY0 xY1 xY2 xY3 xZ0 xZ1 xZ2 xZ3 C9; have HX1 := Aside0.mk (HX0.out.next hb); have HY1 := Aside0.mk (HY0.out.next hb); have HZ1 := Aside0.mk (HZ0.out.next hb); have NX1 := Aside0.mk (NX0.out.below hb); have NY1 := Aside0.mk (NY0.out.below hb); have NZ1 := Aside0.mk (NZ0.out.below hb); clear hb HX0 HY0 HZ0 NX0 NY0 NZ0; have xX0 := HX1.out.x0; have xX1 := HX1.out.x1; have xX2 := HX1.out.x2; have xX3 := HX1.out.x3; have xY0 := HY1.out.x0; have xY1 := HY1.out.x1; have xY2 := HY1.out.x2; have xY3 := HY1.out.x3; have xZ0 := HZ1.out.x0; have xZ1 := HZ1.out.x1; have xZ2 := HZ1.out.x2; have xZ3 := HZ1.out.x3) | (go_at_call 15; refine (FA.out _ NX1.out.nc).mono ?_; rintro e w2 ⟨rfl, hb⟩; clear xX0 xX1 xX2 xX3 xY0 xY1 xY2 xY3 xZ0 xZ1 xZ2 xZ3 FA; have HX2 := Aside0.mk (HX1.out.next hb); have HY2 := Aside0.mk (HY1.out.next hb); have HZ2 := Aside0.mk (HZ1.out.next hb); have NX2 := Aside0.mk (NX1.out.below hb); have NY2 := Aside0.mk (NY1.out.below hb); have NZ2 := Aside0.mk (NZ1.out.below hb); clear hb HX1 HY1 HZ1 NX1 NY1 NZ1; have xX0 := HX2.out.x0; have xX1 := HX2.out.x1; have xX2 := HX2.out.x2; have xX3 := HX2.out.x3; have xY0 := HY2.out.x0; have xY1 := HY2.out.x1; have xY2 := HY2.out.x2; have xY3 := HY2.out.x3; have xZ0 := HZ2.out.x0; have xZ1 := HZ2.out.x1; have xZ2 := HZ2.out.x2; have xZ3 := HZ2.out.x3) | (go_at_call 15; refine (FB.out _ NY2.out.nc).mono ?_; rintro e w3 ⟨rfl, hb⟩; clear xX0 xX1 xX2 xX3 xY0 xY1 xY2 xY3 xZ0 xZ1 xZ2 xZ3 FB; have HX3 := Aside0.mk (HX2.out.next hb); have HY3 := Aside0.mk (HY2.out.next hb); have HZ3 := Aside0.mk (HZ2.out.next hb); have NX3 := Aside0.mk (NX2.out.below hb); have NY3 := Aside0.mk (NY2.out.below hb); have NZ3 := Aside0.mk (NZ2.out.below hb); clear hb HX2 HY2 HZ2 NX2 NY2 NZ2; have xX0 := HX3.out.x0; have xX1 := HX3.out.x1; have xX2 := HX3.out.x2; have xX3 := HX3.out.x3; have xY0 := HY3.out.x0; have xY1 := HY3.out.x1; have xY2 := HY3.out.x2; have xY3 := HY3.out.x3; have xZ0 := HZ3.out.x0; have xZ1 := HZ3.out.x1; have xZ2 := HZ3.out.x2; have xZ3 := HZ3.out.x3))
  go_ret
  exact ⟨rfl, HX3.out.below⟩
set_option maxRecDepth 100000 in
set_option maxHeartbeats 12800000 in
theorem order_few3 (hna : NC w A2 c2 ai A3 c3 ao) (hnb : NC w B2 d2 bi B3 d3 bo) (hnc : NC w C2 e2 ci C3 e3 co) (hf : fewB 60 ai ao = true) (hg : fewB 60 bi bo = true) (hh : fewB 60 ci co = false) : OrderOk ak as_ A2 c2 ai A3 c3 ao bk bs B2 d2 bi B3 d3 bo ck cs_ C2 e2 ci C3 e3 co w := by
  obtain ⟨w0, hw0⟩ : ∃ w0, ((w.alloc (.cells #[.int .i64 ak, .int .i64 as_, .slice A2 ai.length c2, .slice A3 ao.length c3] 32)).alloc (.cells #[.int .i64 bk, .int .i64 bs, .slice B2 bi.length d2, .slice B3 bo.length d3] 32)).alloc (.cells #[.int .i64 ck, .int .i64 cs_, .slice C2 ci.length e2, .slice C3 co.length e3] 32) = w0 := ⟨_, rfl⟩
  obtain ⟨hX, hY, hZ⟩ := boxes3' w 32 _ _ _ _ _ _ _ _ _ _ _ _ w0 hw0
  have NX0 := Aside0.mk (hna.nf.below hX.below)
  have NY0 := Aside0.mk (hnb.nf.below hX.below)
  have NZ0 := Aside0.mk (hnc.nf.below hX.below)
  have hu := Try.underlying32
  have hu2 := Try.underlying27
  unfold OrderOk
  obtain ⟨b, hb⟩ : ∃ b, w.heap.size = b := ⟨_, rfl⟩
  rw [hb] at hX hY hZ
  have HX0 := Aside0.mk hX
  have HY0 := Aside0.mk hY
  have HZ0 := Aside0.mk hZ
  clear hX hY hZ hna hnb hnc
  go_enter Try.func6, Try.ntmps6
  go_upto_region 1 with (fail)
  (try rw [hw0])
  clear hw0 hb
  have C9 := Aside0.mk (fun W => awake_c W)
  have FA := Aside0.mk (fun W (h : NC W A2 c2 ai A3 c3 ao) => few_c h ak as_ 60 (by omega))
  have FB := Aside0.mk (fun W (h : NC W B2 d2 bi B3 d3 bo) => few_c h bk bs 60 (by omega))
  have FC := Aside0.mk (fun W (h : NC W C2 e2 ci C3 e3 co) => few_c h ck cs_ 60 (by omega))
  simp only [hf, hg, hh] at FA FB FC
  clear hf  hg  hh
  have xX0 := HX0.out.x0; have xX1 := HX0.out.x1; have xX2 := HX0.out.x2; have xX3 := HX0.out.x3; have xY0 := HY0.out.x0; have xY1 := HY0.out.x1; have xY2 := HY0.out.x2; have xY3 := HY0.out.x3; have xZ0 := HZ0.out.x0; have xZ1 := HZ0.out.x1; have xZ2 := HZ0.out.x2; have xZ3 := HZ0.out.x3
  go_wp2_with (first | (go_at_call 9; refine (C9.out _).mono ?_; rintro e w1 ⟨rfl, hb⟩; clear xX0 xX1 xX2 xX3 xY0 xY1 xY2 xY3 xZ0 xZ1 xZ2 xZ3 C9; have HX1 := Aside0.mk (HX0.out.next hb); have HY1 := Aside0.mk (HY0.out.next hb); have HZ1 := Aside0.mk (HZ0.out.next hb); have NX1 := Aside0.mk (NX0.out.below hb); have NY1 := Aside0.mk (NY0.out.below hb); have NZ1 := Aside0.mk (NZ0.out.below hb); clear hb HX0 HY0 HZ0 NX0 NY0 NZ0; have xX0 := HX1.out.x0; have xX1 := HX1.out.x1; have xX2 := HX1.out.x2; have xX3 := HX1.out.x3; have xY0 := HY1.out.x0; have xY1 := HY1.out.x1; have xY2 := HY1.out.x2; have xY3 := HY1.out.x3; have xZ0 := HZ1.out.x0; have xZ1 := HZ1.out.x1; have xZ2 := HZ1.out.x2; have xZ3 := HZ1.out.x3) | (go_at_call 15; refine (FA.out _ NX1.out.nc).mono ?_; rintro e w2 ⟨rfl, hb⟩; clear xX0 xX1 xX2 xX3 xY0 xY1 xY2 xY3 xZ0 xZ1 xZ2 xZ3 FA; have HX2 := Aside0.mk (HX1.out.next hb); have HY2 := Aside0.mk (HY1.out.next hb); have HZ2 := Aside0.mk (HZ1.out.next hb); have NX2 := Aside0.mk (NX1.out.below hb); have NY2 := Aside0.mk (NY1.out.below hb); have NZ2 := Aside0.mk (NZ1.out.below hb); clear hb HX1 HY1 HZ1 NX1 NY1 NZ1; have xX0 := HX2.out.x0; have xX1 := HX2.out.x1; have xX2 := HX2.out.x2; have xX3 := HX2.out.x3; have xY0 := HY2.out.x0; have xY1 := HY2.out.x1; have xY2 := HY2.out.x2; have xY3 := HY2.out.x3; have xZ0 := HZ2.out.x0; have xZ1 := HZ2.out.x1; have xZ2 := HZ2.out.x2; have xZ3 := HZ2.out.x3) | (go_at_call 15; refine (FB.out _ NY2.out.nc).mono ?_; rintro e w3 ⟨rfl, hb⟩; clear xX0 xX1 xX2 xX3 xY0 xY1 xY2 xY3 xZ0 xZ1 xZ2 xZ3 FB; have HX3 := Aside0.mk (HX2.out.next hb); have HY3 := Aside0.mk (HY2.out.next hb); have HZ3 := Aside0.mk (HZ2.out.next hb); have NX3 := Aside0.mk (NX2.out.below hb); have NY3 := Aside0.mk (NY2.out.below hb); have NZ3 := Aside0.mk (NZ2.out.below hb); clear hb HX2 HY2 HZ2 NX2 NY2 NZ2; have xX0 := HX3.out.x0; have xX1 := HX3.out.x1; have xX2 := HX3.out.x2; have xX3 := HX3.out.x3; have xY0 := HY3.out.x0; have xY1 := HY3.out.x1; have xY2 := HY3.out.x2; have xY3 := HY3.out.x3; have xZ0 := HZ3.out.x0; have xZ1 := HZ3.out.x1; have xZ2 := HZ3.out.x2; have xZ3 := HZ3.out.x3) | (go_at_call 15; refine (FC.out _ NZ3.out.nc).mono ?_; rintro e w4 ⟨rfl, hb⟩; clear xX0 xX1 xX2 xX3 xY0 xY1 xY2 xY3 xZ0 xZ1 xZ2 xZ3 FC; have HX4 := Aside0.mk (HX3.out.next hb); have HY4 := Aside0.mk (HY3.out.next hb); have HZ4 := Aside0.mk (HZ3.out.next hb); have NX4 := Aside0.mk (NX3.out.below hb); have NY4 := Aside0.mk (NY3.out.below hb); have NZ4 := Aside0.mk (NZ3.out.below hb); clear hb HX3 HY3 HZ3 NX3 NY3 NZ3; have xX0 := HX4.out.x0; have xX1 := HX4.out.x1; have xX2 := HX4.out.x2; have xX3 := HX4.out.x3; have xY0 := HY4.out.x0; have xY1 := HY4.out.x1; have xY2 := HY4.out.x2; have xY3 := HY4.out.x3; have xZ0 := HZ4.out.x0; have xZ1 := HZ4.out.x1; have xZ2 := HZ4.out.x2; have xZ3 := HZ4.out.x3))
  go_ret
  exact ⟨rfl, HX4.out.below⟩
set_option maxRecDepth 100000 in
set_option maxHeartbeats 12800000 in
theorem order_bad (hna : NC w A2 c2 ai A3 c3 ao) (hnb : NC w B2 d2 bi B3 d3 bo) (hnc : NC w C2 e2 ci C3 e3 co) (hf : fewB 60 ai ao = true) (hg : fewB 60 bi bo = true) (hh : fewB 60 ci co = true) (k0 : Int) (s0 : Int) (im0 : List S44) (os0 : List S46) (r0 : Int) (k1 : Int) (s1 : Int) (im1 : List S44) (os1 : List S46) (r1 : Int) (k2 : Int) (s2 : Int) (im2 : List S44) (os2 : List S46) (r2 : Int) (k3 : Int) (s3 : Int) (im3 : List S44) (os3 : List S46) (r3 : Int) (h0 : mergeR ak as_ ai ao bk bs bi bo = (k0, s0, im0, os0, r0)) (h1 : mergeR bk bs bi bo ck cs_ ci co = (k1, s1, im1, os1, r1)) (h2 : mergeR k0 s0 im0 os0 ck cs_ ci co = (k2, s2, im2, os2, r2)) (h3 : mergeR ak as_ ai ao k1 s1 im1 os1 = (k3, s3, im3, os3, r3)) (hr : r0 ≠ 0 ∨ r1 ≠ 0) : OrderOk ak as_ A2 c2 ai A3 c3 ao bk bs B2 d2 bi B3 d3 bo ck cs_ C2 e2 ci C3 e3 co w := by
  have hfa := few_parts hf
  have hfb := few_parts hg
  have hfc := few_parts hh
  have hq0 := mergeR_len h0
  have hq1 := mergeR_len h1
  have hq2 := mergeR_len h2
  have hq3 := mergeR_len h3
  have HL := Aside0.mk (show ai.length ≤ 60 ∧ ao.length ≤ 60 ∧ bi.length ≤ 60 ∧ bo.length ≤ 60 ∧ ci.length ≤ 60 ∧ co.length ≤ 60 ∧ im0.length ≤ 1000 ∧ os0.length ≤ 1000 ∧ im1.length ≤ 1000 ∧ os1.length ≤ 1000 ∧ im2.length ≤ 1000 ∧ os2.length ≤ 1000 ∧ im3.length ≤ 1000 ∧ os3.length ≤ 1000 by omega)
  clear hfa hfb hfc hq0 hq1 hq2 hq3
  have HM0 := Aside0.mk h0
  have HM1 := Aside0.mk h1
  have HM2 := Aside0.mk h2
  have HM3 := Aside0.mk h3
  clear h0 h1 h2 h3
  obtain ⟨w0, hw0⟩ : ∃ w0, ((w.alloc (.cells #[.int .i64 ak, .int .i64 as_, .slice A2 ai.length c2, .slice A3 ao.length c3] 32)).alloc (.cells #[.int .i64 bk, .int .i64 bs, .slice B2 bi.length d2, .slice B3 bo.length d3] 32)).alloc (.cells #[.int .i64 ck, .int .i64 cs_, .slice C2 ci.length e2, .slice C3 co.length e3] 32) = w0 := ⟨_, rfl⟩
  obtain ⟨hX, hY, hZ⟩ := boxes3' w 32 _ _ _ _ _ _ _ _ _ _ _ _ w0 hw0
  have NX0 := Aside0.mk (hna.nf.below hX.below)
  have NY0 := Aside0.mk (hnb.nf.below hX.below)
  have NZ0 := Aside0.mk (hnc.nf.below hX.below)
  have hu := Try.underlying32
  have hu2 := Try.underlying27
  unfold OrderOk
  obtain ⟨b, hb⟩ : ∃ b, w.heap.size = b := ⟨_, rfl⟩
  rw [hb] at hX hY hZ
  have HX0 := Aside0.mk hX
  have HY0 := Aside0.mk hY
  have HZ0 := Aside0.mk hZ
  clear hX hY hZ hna hnb hnc
  go_enter Try.func6, Try.ntmps6
  go_upto_region 1 with (fail)
  (try rw [hw0])
  clear hw0 hb
  have C9 := Aside0.mk (fun W => awake_c W)
  have FA := Aside0.mk (fun W (h : NC W A2 c2 ai A3 c3 ao) => few_c h ak as_ 60 (by omega))
  have FB := Aside0.mk (fun W (h : NC W B2 d2 bi B3 d3 bo) => few_c h bk bs 60 (by omega))
  have FC := Aside0.mk (fun W (h : NC W C2 e2 ci C3 e3 co) => few_c h ck cs_ 60 (by omega))
  simp only [hf, hg, hh] at FA FB FC
  clear hf  hg  hh
  have xX0 := HX0.out.x0; have xX1 := HX0.out.x1; have xX2 := HX0.out.x2; have xX3 := HX0.out.x3; have xY0 := HY0.out.x0; have xY1 := HY0.out.x1; have xY2 := HY0.out.x2; have xY3 := HY0.out.x3; have xZ0 := HZ0.out.x0; have xZ1 := HZ0.out.x1; have xZ2 := HZ0.out.x2; have xZ3 := HZ0.out.x3
  go_upto_region 4 with (first | (go_at_call 9; refine (C9.out _).mono ?_; rintro e w1 ⟨rfl, hb⟩; clear xX0 xX1 xX2 xX3 xY0 xY1 xY2 xY3 xZ0 xZ1 xZ2 xZ3 C9; have HX1 := Aside0.mk (HX0.out.next hb); have HY1 := Aside0.mk (HY0.out.next hb); have HZ1 := Aside0.mk (HZ0.out.next hb); have NX1 := Aside0.mk (NX0.out.below hb); have NY1 := Aside0.mk (NY0.out.below hb); have NZ1 := Aside0.mk (NZ0.out.below hb); clear hb HX0 HY0 HZ0 NX0 NY0 NZ0; have xX0 := HX1.out.x0; have xX1 := HX1.out.x1; have xX2 := HX1.out.x2; have xX3 := HX1.out.x3; have xY0 := HY1.out.x0; have xY1 := HY1.out.x1; have xY2 := HY1.out.x2; have xY3 := HY1.out.x3; have xZ0 := HZ1.out.x0; have xZ1 := HZ1.out.x1; have xZ2 := HZ1.out.x2; have xZ3 := HZ1.out.x3) | (go_at_call 15; refine (FA.out _ NX1.out.nc).mono ?_; rintro e w2 ⟨rfl, hb⟩; clear xX0 xX1 xX2 xX3 xY0 xY1 xY2 xY3 xZ0 xZ1 xZ2 xZ3 FA; have HX2 := Aside0.mk (HX1.out.next hb); have HY2 := Aside0.mk (HY1.out.next hb); have HZ2 := Aside0.mk (HZ1.out.next hb); have NX2 := Aside0.mk (NX1.out.below hb); have NY2 := Aside0.mk (NY1.out.below hb); have NZ2 := Aside0.mk (NZ1.out.below hb); clear hb HX1 HY1 HZ1 NX1 NY1 NZ1; have xX0 := HX2.out.x0; have xX1 := HX2.out.x1; have xX2 := HX2.out.x2; have xX3 := HX2.out.x3; have xY0 := HY2.out.x0; have xY1 := HY2.out.x1; have xY2 := HY2.out.x2; have xY3 := HY2.out.x3; have xZ0 := HZ2.out.x0; have xZ1 := HZ2.out.x1; have xZ2 := HZ2.out.x2; have xZ3 := HZ2.out.x3) | (go_at_call 15; refine (FB.out _ NY2.out.nc).mono ?_; rintro e w3 ⟨rfl, hb⟩; clear xX0 xX1 xX2 xX3 xY0 xY1 xY2 xY3 xZ0 xZ1 xZ2 xZ3 FB; have HX3 := Aside0.mk (HX2.out.next hb); have HY3 := Aside0.mk (HY2.out.next hb); have HZ3 := Aside0.mk (HZ2.out.next hb); have NX3 := Aside0.mk (NX2.out.below hb); have NY3 := Aside0.mk (NY2.out.below hb); have NZ3 := Aside0.mk (NZ2.out.below hb); clear hb HX2 HY2 HZ2 NX2 NY2 NZ2; have xX0 := HX3.out.x0; have xX1 := HX3.out.x1; have xX2 := HX3.out.x2; have xX3 := HX3.out.x3; have xY0 := HY3.out.x0; have xY1 := HY3.out.x1; have xY2 := HY3.out.x2; have xY3 := HY3.out.x3; have xZ0 := HZ3.out.x0; have xZ1 := HZ3.out.x1; have xZ2 := HZ3.out.x2; have xZ3 := HZ3.out.x3) | (go_at_call 15; refine (FC.out _ NZ3.out.nc).mono ?_; rintro e w4 ⟨rfl, hb⟩; clear xX0 xX1 xX2 xX3 xY0 xY1 xY2 xY3 xZ0 xZ1 xZ2 xZ3 FC; have HX4 := Aside0.mk (HX3.out.next hb); have HY4 := Aside0.mk (HY3.out.next hb); have HZ4 := Aside0.mk (HZ3.out.next hb); have NX4 := Aside0.mk (NX3.out.below hb); have NY4 := Aside0.mk (NY3.out.below hb); have NZ4 := Aside0.mk (NZ3.out.below hb); clear hb HX3 HY3 HZ3 NX3 NY3 NZ3; have xX0 := HX4.out.x0; have xX1 := HX4.out.x1; have xX2 := HX4.out.x2; have xX3 := HX4.out.x3; have xY0 := HY4.out.x0; have xY1 := HY4.out.x1; have xY2 := HY4.out.x2; have xY3 := HY4.out.x3; have xZ0 := HZ4.out.x0; have xZ1 := HZ4.out.x1; have xZ2 := HZ4.out.x2; have xZ3 := HZ4.out.x3))
  have hb : Below w4.heap.size w4 w4.drew := (Below.refl _ _).drew
  clear xX0 xX1 xX2 xX3 xY0 xY1 xY2 xY3 xZ0 xZ1 xZ2 xZ3
  have HX5 := Aside0.mk (HX4.out.next hb)
  have HY5 := Aside0.mk (HY4.out.next hb)
  have HZ5 := Aside0.mk (HZ4.out.next hb)
  have NX5 := Aside0.mk (NX4.out.below hb)
  have NY5 := Aside0.mk (NY4.out.below hb)
  have NZ5 := Aside0.mk (NZ4.out.below hb)
  clear hb HX4 HY4 HZ4 NX4 NY4 NZ4
  refine start_ (n := 11) (S := fun w' => w'.cell? ⟨b, 0, none⟩ = some (.int .i64 ak) ∧ w'.cell? ⟨b, 1, none⟩ = some (.int .i64 as_) ∧ w'.cell? ⟨b, 2, none⟩ = some (.slice A2 ai.length c2) ∧ w'.cell? ⟨b, 3, none⟩ = some (.slice A3 ao.length c3) ∧ w'.cell? ⟨b + 1, 0, none⟩ = some (.int .i64 bk) ∧ w'.cell? ⟨b + 1, 1, none⟩ = some (.int .i64 bs) ∧ w'.cell? ⟨b + 1, 2, none⟩ = some (.slice B2 bi.length d2) ∧ w'.cell? ⟨b + 1, 3, none⟩ = some (.slice B3 bo.length d3)) (ds := [9, 10]) #[false, false, false, false, false, false, false, false, false, false, false] rfl rfl rfl ⟨HX5.out.x0, HX5.out.x1, HX5.out.x2, HX5.out.x3, HY5.out.x0, HY5.out.x1, HY5.out.x2, HY5.out.x3⟩ (fun hHeld => ?_)
  refine with_tabW regO4.tab regO4.bits (fun HT_ HW_ => ?_)
  generalize w4.drew = w5 at *
  clear w4
  refine tz_ 0 32 HT_ HW_ hHeld ?_
  refine tz_ 2 34 HT_ HW_ hHeld ?_
  refine join_ (σ := (Option Addr × Nat) × (Option Addr × Nat) × Nat) 2 #[true, true, true, true, true, true, true, true, true, false, false] (fun q => [(33, .agg #[.int .i64 ak, .int .i64 as_, .slice A2 ai.length c2, .slice A3 ao.length c3]), (35, .agg #[.int .i64 bk, .int .i64 bs, .slice B2 bi.length d2, .slice B3 bo.length d3]), (36, .tuple #[.agg #[.int .i64 k0, .int .i64 s0, .slice q.1.1 im0.length q.1.2, .slice q.2.1.1 os0.length q.2.1.2], .int .i64 r0]), (31, .tuple #[.agg #[.int .i64 k0, .int .i64 s0, .slice q.1.1 im0.length q.1.2, .slice q.2.1.1 os0.length q.2.1.2], .int .i64 r0]), (37, .agg #[.int .i64 k0, .int .i64 s0, .slice q.1.1 im0.length q.1.2, .slice q.2.1.1 os0.length q.2.1.2]), (38, .int .i64 r0), (8, .pointer (some ⟨q.2.2, 0, none⟩))]) (fun q w' => Aside0 (B4 w (b) 32 (.int .i64 ak) (.int .i64 as_) (.slice A2 ai.length c2) (.slice A3 ao.length c3) w') ∧ Aside0 (B4 w (b + 1) 32 (.int .i64 bk) (.int .i64 bs) (.slice B2 bi.length d2) (.slice B3 bo.length d3) w') ∧ Aside0 (B4 w (b + 2) 32 (.int .i64 ck) (.int .i64 cs_) (.slice C2 ci.length e2) (.slice C3 co.length e3) w') ∧ Aside0 (AP q.2.2 w' A2 c2 ai A3 c3 ao) ∧ Aside0 (AP q.2.2 w' B2 d2 bi B3 d3 bo) ∧ Aside0 (AP q.2.2 w' C2 e2 ci C3 e3 co) ∧ Aside0 (AP q.2.2 w' q.1.1 q.1.2 im0 q.2.1.1 q.2.1.2 os0) ∧ Aside0 (w'.heap[q.2.2]? = some (.cells #[.int .i64 0, .int .i64 0, .slice none 0 0, .slice none 0 0] 27 (0, 0))) ∧ Aside0 (b < q.2.2 ∧ b + 1 < q.2.2 ∧ b + 2 < q.2.2)) ?hcont ?hord
  case hord =>
    intro JN
    have JNN := Aside0.mk JN
    clear JN
    refine two_ (i := 1) (j := 8) (Ni := some 33) (Nj := some 8) #[true, true, true, false, false, false, false, false, false, false, false] #[true, false, true, false, false, false, false, false, true, false, false] rfl rfl rfl rfl (two_of HT_.out (by kernel_rfl)) (by decide) (by decide) (fun K hK => ?_) (fun K hK => ?_)
    · refine goes_ Try.func16 (by kernel_rfl) rfl #[.agg #[.int .i64 ak, .int .i64 as_, .slice A2 ai.length c2, .slice A3 ao.length c3]] (by rfl) rfl rfl ma_ ?_
      refine (ours_c NX5.out.nc ak as_).mono ?_
      rintro e v6w ⟨rfl, hb⟩
      refine ⟨_, rfl, ?_⟩
      have HX6 := Aside0.mk (HX5.out.next hb)
      have HY6 := Aside0.mk (HY5.out.next hb)
      have HZ6 := Aside0.mk (HZ5.out.next hb)
      have NX6 := Aside0.mk (NX5.out.below hb)
      have NY6 := Aside0.mk (NY5.out.below hb)
      have NZ6 := Aside0.mk (NZ5.out.below hb)
      clear hb HX5 HY5 HZ5 NX5 NY5 NZ5
      refine hK.out _ _ ⟨HX6.out.x0, HX6.out.x1, HX6.out.x2, HX6.out.x3, HY6.out.x0, HY6.out.x1, HY6.out.x2, HY6.out.x3⟩ (fun hHeld => ?_)
      clear hK K
      refine two_ (i := 3) (j := 8) (Ni := some 35) (Nj := some 8) #[true, true, true, true, false, false, false, false, false, false, false] #[true, true, true, false, false, false, false, false, true, false, false] rfl rfl rfl rfl (two_of HT_.out (by kernel_rfl)) (by decide) (by decide) (fun K hK => ?_) (fun K hK => ?_)
      · refine goes_ Try.func16 (by kernel_rfl) rfl #[.agg #[.int .i64 bk, .int .i64 bs, .slice B2 bi.length d2, .slice B3 bo.length d3]] (by rfl) rfl rfl ma_ ?_
        refine (ours_c NY6.out.nc bk bs).mono ?_
        rintro e v7w ⟨rfl, hb⟩
        refine ⟨_, rfl, ?_⟩
        have HX7 := Aside0.mk (HX6.out.next hb)
        have HY7 := Aside0.mk (HY6.out.next hb)
        have HZ7 := Aside0.mk (HZ6.out.next hb)
        have NX7 := Aside0.mk (NX6.out.below hb)
        have NY7 := Aside0.mk (NY6.out.below hb)
        have NZ7 := Aside0.mk (NZ6.out.below hb)
        clear hb HX6 HY6 HZ6 NX6 NY6 NZ6
        refine hK.out _ _ ⟨HX7.out.x0, HX7.out.x1, HX7.out.x2, HX7.out.x3, HY7.out.x0, HY7.out.x1, HY7.out.x2, HY7.out.x3⟩ (fun hHeld => ?_)
        clear hK K
        refine two_ (i := 4) (j := 8) (Ni := some 36) (Nj := some 8) #[true, true, true, true, true, false, false, false, false, false, false] #[true, true, true, true, false, false, false, false, true, false, false] rfl rfl rfl rfl (two_of HT_.out (by kernel_rfl)) (by decide) (by decide) (fun K hK => ?_) (fun K hK => ?_)
        · refine goes_ Try.func18 (by kernel_rfl) rfl #[.agg #[.int .i64 ak, .int .i64 as_, .slice A2 ai.length c2, .slice A3 ao.length c3], .agg #[.int .i64 bk, .int .i64 bs, .slice B2 bi.length d2, .slice B3 bo.length d3]] (by rfl) rfl rfl ma_ ?_
          refine (merge_nf NX7.out NY7.out ak as_ bk bs (by have := HL.out; omega) (im := im0) (os := os0) k0 s0 r0 HM0.out).mono ?_
          rintro e v8w ⟨XA, xc, YA, yc, rfl, hn, hb⟩
          refine ⟨_, rfl, ?_⟩
          have HX8 := Aside0.mk (HX7.out.next hb)
          have HY8 := Aside0.mk (HY7.out.next hb)
          have HZ8 := Aside0.mk (HZ7.out.next hb)
          have NX8 := Aside0.mk (NX7.out.below hb)
          have NY8 := Aside0.mk (NY7.out.below hb)
          have NZ8 := Aside0.mk (NZ7.out.below hb)
          clear hb HX7 HY7 HZ7 NX7 NY7 NZ7
          have NNew8 := Aside0.mk hn
          refine hK.out _ _ ⟨HX8.out.x0, HX8.out.x1, HX8.out.x2, HX8.out.x3, HY8.out.x0, HY8.out.x1, HY8.out.x2, HY8.out.x3⟩ (fun hHeld => ?_)
          clear hK K
          refine pz_ 5 31 HT_ ?_
          refine pz_ 6 37 HT_ ?_
          refine pz_ 7 38 HT_ ?_
          refine oz_ 8 8 HT_ (fun K hK => ?_)
          refine value_ (by rfl) rfl (v := .pointer (some ⟨v8w.heap.size, 0, none⟩)) (w1 := v8w.alloc (.cells #[.int .i64 0, .int .i64 0, .slice none 0 0, .slice none 0 0] 27)) (by first | (go_simp; done) | (go_simp; rfl)) ?_
          have hb : Below v8w.heap.size v8w (v8w.alloc (.cells #[.int .i64 0, .int .i64 0, .slice none 0 0, .slice none 0 0] 27)) := (Below.refl _ _).alloc (Nat.le_refl _) _
          have hx := blk_new v8w (.cells #[.int .i64 0, .int .i64 0, .slice none 0 0, .slice none 0 0] 27)
          have hl0 := blk_lt HX8.out.at_
          have hl1 := blk_lt HY8.out.at_
          have hl2 := blk_lt HZ8.out.at_
          obtain ⟨bM, hbM⟩ : ∃ bM, v8w.heap.size = bM := ⟨_, rfl⟩
          rw [hbM] at hx hl0 hl1 hl2
          rw [hbM]
          have hle := Nat.le_of_eq hbM
          clear hbM
          generalize v8w.alloc (.cells #[.int .i64 0, .int .i64 0, .slice none 0 0, .slice none 0 0] 27) = v9w at *
          have LT := Aside0.mk (show b < bM ∧ b + 1 < bM ∧ b + 2 < bM from ⟨hl0, hl1, hl2⟩)
          clear hl0 hl1 hl2
          have HX9 := Aside0.mk (HX8.out.next hb)
          have HY9 := Aside0.mk (HY8.out.next hb)
          have HZ9 := Aside0.mk (HZ8.out.next hb)
          have NX9 := Aside0.mk ((NF.ap NX8.out (b := bM) hle).below hb)
          have NY9 := Aside0.mk ((NF.ap NY8.out (b := bM) hle).below hb)
          have NZ9 := Aside0.mk ((NF.ap NZ8.out (b := bM) hle).below hb)
          have NNew9 := Aside0.mk ((NF.ap NNew8.out (b := bM) hle).below hb)
          clear hb HX8 HY8 HZ8 NX8 NY8 NZ8 hle
          have TT9 := Aside0.mk hx
          refine hK.out _ _ ⟨HX9.out.x0, HX9.out.x1, HX9.out.x2, HX9.out.x3, HY9.out.x0, HY9.out.x1, HY9.out.x2, HY9.out.x3⟩ (fun hHeld => ?_)
          clear hK K
          exact norm_ pu_ (JNN.out ((XA, xc), (YA, yc), bM) _ ⟨HX9, HY9, HZ9, NX9, NY9, NZ9, NNew9, TT9, LT⟩)
        · refine value_ (by rfl) rfl (v := .pointer (some ⟨v7w.heap.size, 0, none⟩)) (w1 := v7w.alloc (.cells #[.int .i64 0, .int .i64 0, .slice none 0 0, .slice none 0 0] 27)) (by first | (go_simp; done) | (go_simp; rfl)) ?_
          have hb : Below v7w.heap.size v7w (v7w.alloc (.cells #[.int .i64 0, .int .i64 0, .slice none 0 0, .slice none 0 0] 27)) := (Below.refl _ _).alloc (Nat.le_refl _) _
          have hx := blk_new v7w (.cells #[.int .i64 0, .int .i64 0, .slice none 0 0, .slice none 0 0] 27)
          have hl0 := blk_lt HX7.out.at_
          have hl1 := blk_lt HY7.out.at_
          have hl2 := blk_lt HZ7.out.at_
          obtain ⟨bM, hbM⟩ : ∃ bM, v7w.heap.size = bM := ⟨_, rfl⟩
          rw [hbM] at hx hl0 hl1 hl2
          rw [hbM]
          have hle := Nat.le_of_eq hbM
          clear hbM
          generalize v7w.alloc (.cells #[.int .i64 0, .int .i64 0, .slice none 0 0, .slice none 0 0] 27) = v10w at *
          have LT := Aside0.mk (show b < bM ∧ b + 1 < bM ∧ b + 2 < bM from ⟨hl0, hl1, hl2⟩)
          clear hl0 hl1 hl2
          have HX8 := Aside0.mk (HX7.out.next hb)
          have HY8 := Aside0.mk (HY7.out.next hb)
          have HZ8 := Aside0.mk (HZ7.out.next hb)
          have NX8 := Aside0.mk ((NF.ap NX7.out (b := bM) hle).below hb)
          have NY8 := Aside0.mk ((NF.ap NY7.out (b := bM) hle).below hb)
          have NZ8 := Aside0.mk ((NF.ap NZ7.out (b := bM) hle).below hb)
          clear hb HX7 HY7 HZ7 NX7 NY7 NZ7 hle
          have TT8 := Aside0.mk hx
          refine hK.out _ _ ⟨HX8.out.x0, HX8.out.x1, HX8.out.x2, HX8.out.x3, HY8.out.x0, HY8.out.x1, HY8.out.x2, HY8.out.x3⟩ (fun hHeld => ?_)
          clear hK K
          refine oz_ 4 36 HT_ (fun K hK => ?_)
          refine goes_ Try.func18 (by kernel_rfl) rfl #[.agg #[.int .i64 ak, .int .i64 as_, .slice A2 ai.length c2, .slice A3 ao.length c3], .agg #[.int .i64 bk, .int .i64 bs, .slice B2 bi.length d2, .slice B3 bo.length d3]] (by rfl) rfl rfl ma_ ?_
          refine (merge_ap NX8.out NY8.out (blk_lt TT8.out) ak as_ bk bs (by have := HL.out; omega) (im := im0) (os := os0) k0 s0 r0 HM0.out).mono ?_
          rintro e v11w ⟨XA, xc, YA, yc, rfl, hn, hb⟩
          refine ⟨_, rfl, ?_⟩
          have HX9 := Aside0.mk (HX8.out.next hb)
          have HY9 := Aside0.mk (HY8.out.next hb)
          have HZ9 := Aside0.mk (HZ8.out.next hb)
          have NX9 := Aside0.mk (NX8.out.below hb)
          have NY9 := Aside0.mk (NY8.out.below hb)
          have NZ9 := Aside0.mk (NZ8.out.below hb)
          have TT9 := Aside0.mk (blk_below TT8.out hb)
          clear hb HX8 HY8 HZ8 NX8 NY8 NZ8
          have NNew9 := Aside0.mk hn
          refine hK.out _ _ ⟨HX9.out.x0, HX9.out.x1, HX9.out.x2, HX9.out.x3, HY9.out.x0, HY9.out.x1, HY9.out.x2, HY9.out.x3⟩ (fun hHeld => ?_)
          clear hK K
          refine pz_ 5 31 HT_ ?_
          refine pz_ 6 37 HT_ ?_
          refine pz_ 7 38 HT_ ?_
          exact norm_ pu_ (JNN.out ((XA, xc), (YA, yc), bM) _ ⟨HX9, HY9, HZ9, NX9, NY9, NZ9, NNew9, TT9, LT⟩)
      · refine value_ (by rfl) rfl (v := .pointer (some ⟨v6w.heap.size, 0, none⟩)) (w1 := v6w.alloc (.cells #[.int .i64 0, .int .i64 0, .slice none 0 0, .slice none 0 0] 27)) (by first | (go_simp; done) | (go_simp; rfl)) ?_
        have hb : Below v6w.heap.size v6w (v6w.alloc (.cells #[.int .i64 0, .int .i64 0, .slice none 0 0, .slice none 0 0] 27)) := (Below.refl _ _).alloc (Nat.le_refl _) _
        have hx := blk_new v6w (.cells #[.int .i64 0, .int .i64 0, .slice none 0 0, .slice none 0 0] 27)
        have hl0 := blk_lt HX6.out.at_
        have hl1 := blk_lt HY6.out.at_
        have hl2 := blk_lt HZ6.out.at_
        obtain ⟨bM, hbM⟩ : ∃ bM, v6w.heap.size = bM := ⟨_, rfl⟩
        rw [hbM] at hx hl0 hl1 hl2
        rw [hbM]
        have hle := Nat.le_of_eq hbM
        clear hbM
        generalize v6w.alloc (.cells #[.int .i64 0, .int .i64 0, .slice none 0 0, .slice none 0 0] 27) = v12w at *
        have LT := Aside0.mk (show b < bM ∧ b + 1 < bM ∧ b + 2 < bM from ⟨hl0, hl1, hl2⟩)
        clear hl0 hl1 hl2
        have HX7 := Aside0.mk (HX6.out.next hb)
        have HY7 := Aside0.mk (HY6.out.next hb)
        have HZ7 := Aside0.mk (HZ6.out.next hb)
        have NX7 := Aside0.mk ((NF.ap NX6.out (b := bM) hle).below hb)
        have NY7 := Aside0.mk ((NF.ap NY6.out (b := bM) hle).below hb)
        have NZ7 := Aside0.mk ((NF.ap NZ6.out (b := bM) hle).below hb)
        clear hb HX6 HY6 HZ6 NX6 NY6 NZ6 hle
        have TT7 := Aside0.mk hx
        refine hK.out _ _ ⟨HX7.out.x0, HX7.out.x1, HX7.out.x2, HX7.out.x3, HY7.out.x0, HY7.out.x1, HY7.out.x2, HY7.out.x3⟩ (fun hHeld => ?_)
        clear hK K
        refine oz_ 3 35 HT_ (fun K hK => ?_)
        refine goes_ Try.func16 (by kernel_rfl) rfl #[.agg #[.int .i64 bk, .int .i64 bs, .slice B2 bi.length d2, .slice B3 bo.length d3]] (by rfl) rfl rfl ma_ ?_
        refine (ours_c NY7.out.nc bk bs).mono ?_
        rintro e v13w ⟨rfl, hb⟩
        refine ⟨_, rfl, ?_⟩
        have HX8 := Aside0.mk (HX7.out.next hb)
        have HY8 := Aside0.mk (HY7.out.next hb)
        have HZ8 := Aside0.mk (HZ7.out.next hb)
        have NX8 := Aside0.mk (NX7.out.below hb)
        have NY8 := Aside0.mk (NY7.out.below hb)
        have NZ8 := Aside0.mk (NZ7.out.below hb)
        have TT8 := Aside0.mk (blk_below TT7.out hb)
        clear hb HX7 HY7 HZ7 NX7 NY7 NZ7
        refine hK.out _ _ ⟨HX8.out.x0, HX8.out.x1, HX8.out.x2, HX8.out.x3, HY8.out.x0, HY8.out.x1, HY8.out.x2, HY8.out.x3⟩ (fun hHeld => ?_)
        clear hK K
        refine oz_ 4 36 HT_ (fun K hK => ?_)
        refine goes_ Try.func18 (by kernel_rfl) rfl #[.agg #[.int .i64 ak, .int .i64 as_, .slice A2 ai.length c2, .slice A3 ao.length c3], .agg #[.int .i64 bk, .int .i64 bs, .slice B2 bi.length d2, .slice B3 bo.length d3]] (by rfl) rfl rfl ma_ ?_
        refine (merge_ap NX8.out NY8.out (blk_lt TT8.out) ak as_ bk bs (by have := HL.out; omega) (im := im0) (os := os0) k0 s0 r0 HM0.out).mono ?_
        rintro e v14w ⟨XA, xc, YA, yc, rfl, hn, hb⟩
        refine ⟨_, rfl, ?_⟩
        have HX9 := Aside0.mk (HX8.out.next hb)
        have HY9 := Aside0.mk (HY8.out.next hb)
        have HZ9 := Aside0.mk (HZ8.out.next hb)
        have NX9 := Aside0.mk (NX8.out.below hb)
        have NY9 := Aside0.mk (NY8.out.below hb)
        have NZ9 := Aside0.mk (NZ8.out.below hb)
        have TT9 := Aside0.mk (blk_below TT8.out hb)
        clear hb HX8 HY8 HZ8 NX8 NY8 NZ8
        have NNew9 := Aside0.mk hn
        refine hK.out _ _ ⟨HX9.out.x0, HX9.out.x1, HX9.out.x2, HX9.out.x3, HY9.out.x0, HY9.out.x1, HY9.out.x2, HY9.out.x3⟩ (fun hHeld => ?_)
        clear hK K
        refine pz_ 5 31 HT_ ?_
        refine pz_ 6 37 HT_ ?_
        refine pz_ 7 38 HT_ ?_
        exact norm_ pu_ (JNN.out ((XA, xc), (YA, yc), bM) _ ⟨HX9, HY9, HZ9, NX9, NY9, NZ9, NNew9, TT9, LT⟩)
    · refine value_ (by rfl) rfl (v := .pointer (some ⟨w5.heap.size, 0, none⟩)) (w1 := w5.alloc (.cells #[.int .i64 0, .int .i64 0, .slice none 0 0, .slice none 0 0] 27)) (by first | (go_simp; done) | (go_simp; rfl)) ?_
      have hb : Below w5.heap.size w5 (w5.alloc (.cells #[.int .i64 0, .int .i64 0, .slice none 0 0, .slice none 0 0] 27)) := (Below.refl _ _).alloc (Nat.le_refl _) _
      have hx := blk_new w5 (.cells #[.int .i64 0, .int .i64 0, .slice none 0 0, .slice none 0 0] 27)
      have hl0 := blk_lt HX5.out.at_
      have hl1 := blk_lt HY5.out.at_
      have hl2 := blk_lt HZ5.out.at_
      obtain ⟨bM, hbM⟩ : ∃ bM, w5.heap.size = bM := ⟨_, rfl⟩
      rw [hbM] at hx hl0 hl1 hl2
      rw [hbM]
      have hle := Nat.le_of_eq hbM
      clear hbM
      generalize w5.alloc (.cells #[.int .i64 0, .int .i64 0, .slice none 0 0, .slice none 0 0] 27) = v15w at *
      have LT := Aside0.mk (show b < bM ∧ b + 1 < bM ∧ b + 2 < bM from ⟨hl0, hl1, hl2⟩)
      clear hl0 hl1 hl2
      have HX6 := Aside0.mk (HX5.out.next hb)
      have HY6 := Aside0.mk (HY5.out.next hb)
      have HZ6 := Aside0.mk (HZ5.out.next hb)
      have NX6 := Aside0.mk ((NF.ap NX5.out (b := bM) hle).below hb)
      have NY6 := Aside0.mk ((NF.ap NY5.out (b := bM) hle).below hb)
      have NZ6 := Aside0.mk ((NF.ap NZ5.out (b := bM) hle).below hb)
      clear hb HX5 HY5 HZ5 NX5 NY5 NZ5 hle
      have TT6 := Aside0.mk hx
      refine hK.out _ _ ⟨HX6.out.x0, HX6.out.x1, HX6.out.x2, HX6.out.x3, HY6.out.x0, HY6.out.x1, HY6.out.x2, HY6.out.x3⟩ (fun hHeld => ?_)
      clear hK K
      refine oz_ 1 33 HT_ (fun K hK => ?_)
      refine goes_ Try.func16 (by kernel_rfl) rfl #[.agg #[.int .i64 ak, .int .i64 as_, .slice A2 ai.length c2, .slice A3 ao.length c3]] (by rfl) rfl rfl ma_ ?_
      refine (ours_c NX6.out.nc ak as_).mono ?_
      rintro e v16w ⟨rfl, hb⟩
      refine ⟨_, rfl, ?_⟩
      have HX7 := Aside0.mk (HX6.out.next hb)
      have HY7 := Aside0.mk (HY6.out.next hb)
      have HZ7 := Aside0.mk (HZ6.out.next hb)
      have NX7 := Aside0.mk (NX6.out.below hb)
      have NY7 := Aside0.mk (NY6.out.below hb)
      have NZ7 := Aside0.mk (NZ6.out.below hb)
      have TT7 := Aside0.mk (blk_below TT6.out hb)
      clear hb HX6 HY6 HZ6 NX6 NY6 NZ6
      refine hK.out _ _ ⟨HX7.out.x0, HX7.out.x1, HX7.out.x2, HX7.out.x3, HY7.out.x0, HY7.out.x1, HY7.out.x2, HY7.out.x3⟩ (fun hHeld => ?_)
      clear hK K
      refine oz_ 3 35 HT_ (fun K hK => ?_)
      refine goes_ Try.func16 (by kernel_rfl) rfl #[.agg #[.int .i64 bk, .int .i64 bs, .slice B2 bi.length d2, .slice B3 bo.length d3]] (by rfl) rfl rfl ma_ ?_
      refine (ours_c NY7.out.nc bk bs).mono ?_
      rintro e v17w ⟨rfl, hb⟩
      refine ⟨_, rfl, ?_⟩
      have HX8 := Aside0.mk (HX7.out.next hb)
      have HY8 := Aside0.mk (HY7.out.next hb)
      have HZ8 := Aside0.mk (HZ7.out.next hb)
      have NX8 := Aside0.mk (NX7.out.below hb)
      have NY8 := Aside0.mk (NY7.out.below hb)
      have NZ8 := Aside0.mk (NZ7.out.below hb)
      have TT8 := Aside0.mk (blk_below TT7.out hb)
      clear hb HX7 HY7 HZ7 NX7 NY7 NZ7
      refine hK.out _ _ ⟨HX8.out.x0, HX8.out.x1, HX8.out.x2, HX8.out.x3, HY8.out.x0, HY8.out.x1, HY8.out.x2, HY8.out.x3⟩ (fun hHeld => ?_)
      clear hK K
      refine oz_ 4 36 HT_ (fun K hK => ?_)
      refine goes_ Try.func18 (by kernel_rfl) rfl #[.agg #[.int .i64 ak, .int .i64 as_, .slice A2 ai.length c2, .slice A3 ao.length c3], .agg #[.int .i64 bk, .int .i64 bs, .slice B2 bi.length d2, .slice B3 bo.length d3]] (by rfl) rfl rfl ma_ ?_
      refine (merge_ap NX8.out NY8.out (blk_lt TT8.out) ak as_ bk bs (by have := HL.out; omega) (im := im0) (os := os0) k0 s0 r0 HM0.out).mono ?_
      rintro e v18w ⟨XA, xc, YA, yc, rfl, hn, hb⟩
      refine ⟨_, rfl, ?_⟩
      have HX9 := Aside0.mk (HX8.out.next hb)
      have HY9 := Aside0.mk (HY8.out.next hb)
      have HZ9 := Aside0.mk (HZ8.out.next hb)
      have NX9 := Aside0.mk (NX8.out.below hb)
      have NY9 := Aside0.mk (NY8.out.below hb)
      have NZ9 := Aside0.mk (NZ8.out.below hb)
      have TT9 := Aside0.mk (blk_below TT8.out hb)
      clear hb HX8 HY8 HZ8 NX8 NY8 NZ8
      have NNew9 := Aside0.mk hn
      refine hK.out _ _ ⟨HX9.out.x0, HX9.out.x1, HX9.out.x2, HX9.out.x3, HY9.out.x0, HY9.out.x1, HY9.out.x2, HY9.out.x3⟩ (fun hHeld => ?_)
      clear hK K
      refine pz_ 5 31 HT_ ?_
      refine pz_ 6 37 HT_ ?_
      refine pz_ 7 38 HT_ ?_
      exact norm_ pu_ (JNN.out ((XA, xc), (YA, yc), bM) _ ⟨HX9, HY9, HZ9, NX9, NY9, NZ9, NNew9, TT9, LT⟩)
  case hcont =>
    rintro ⟨⟨X0A, x0c⟩, ⟨Y0A, y0c⟩, b0M⟩ w25 ⟨HX25, HY25, HZ25, NX25, NY25, NZ25, NNew, TT, LT⟩
    simp only at NNew TT LT
    refine norm_ (a' := ?_) ?_ ?_
    rotate_left
    · simp only [putAll, Act.put, List.setIfInBounds_toArray, List.set_cons_zero, List.set_cons_succ]; rfl
    clear HX5 HY5 HZ5 NX5 NY5 NZ5
    refine last_ (i := 9) (N := none) #[true, true, true, true, true, true, true, true, true, true, false] rfl rfl (one_of HT_.out (by kernel_rfl)) (by decide) (fun K hK => ?_)
    obtain ⟨z0, f0, z1, f1, z2, f2, z3, f3, k4⟩ := put4c (.int .i64 k0) (.int .i64 s0) (.slice X0A im0.length x0c) (.slice Y0A os0.length y0c) TT.out
    have hge : w.heap.size ≤ b0M := by have := HX25.out.ge; have := LT.out; omega
    have HX26 := Aside0.mk (B4.set (B4.set (B4.set (B4.set HX25.out (k := 0) (show b ≠ b0M by have := LT.out; omega) hge (.int .i64 k0)) (k := 1) (show b ≠ b0M by have := LT.out; omega) hge (.int .i64 s0)) (k := 2) (show b ≠ b0M by have := LT.out; omega) hge (.slice X0A im0.length x0c)) (k := 3) (show b ≠ b0M by have := LT.out; omega) hge (.slice Y0A os0.length y0c))
    have HY26 := Aside0.mk (B4.set (B4.set (B4.set (B4.set HY25.out (k := 0) (show b + 1 ≠ b0M by have := LT.out; omega) hge (.int .i64 k0)) (k := 1) (show b + 1 ≠ b0M by have := LT.out; omega) hge (.int .i64 s0)) (k := 2) (show b + 1 ≠ b0M by have := LT.out; omega) hge (.slice X0A im0.length x0c)) (k := 3) (show b + 1 ≠ b0M by have := LT.out; omega) hge (.slice Y0A os0.length y0c))
    have HZ26 := Aside0.mk (B4.set (B4.set (B4.set (B4.set HZ25.out (k := 0) (show b + 2 ≠ b0M by have := LT.out; omega) hge (.int .i64 k0)) (k := 1) (show b + 2 ≠ b0M by have := LT.out; omega) hge (.int .i64 s0)) (k := 2) (show b + 2 ≠ b0M by have := LT.out; omega) hge (.slice X0A im0.length x0c)) (k := 3) (show b + 2 ≠ b0M by have := LT.out; omega) hge (.slice Y0A os0.length y0c))
    have far : ∀ j, j ≠ b0M → ((((w25.setCell ⟨b0M, 0, none⟩ (.int .i64 k0)).setCell ⟨b0M, 1, none⟩ (.int .i64 s0)).setCell ⟨b0M, 2, none⟩ (.slice X0A im0.length x0c)).setCell ⟨b0M, 3, none⟩ (.slice Y0A os0.length y0c)).heap[j]? = w25.heap[j]? := fun j hj => far4 hj
    have NX26 := Aside0.mk (AP.far NX25.out far)
    have NY26 := Aside0.mk (AP.far NY25.out far)
    have NZ26 := Aside0.mk (AP.far NZ25.out far)
    have NM026 := Aside0.mk (AP.far NNew.out far)
    have HM026 := Aside0.mk (show B4 w b0M 27 (.int .i64 k0) (.int .i64 s0) (.slice X0A im0.length x0c) (.slice Y0A os0.length y0c) ((((w25.setCell ⟨b0M, 0, none⟩ (.int .i64 k0)).setCell ⟨b0M, 1, none⟩ (.int .i64 s0)).setCell ⟨b0M, 2, none⟩ (.slice X0A im0.length x0c)).setCell ⟨b0M, 3, none⟩ (.slice Y0A os0.length y0c)) from ⟨HX26.out.below, k4, hge⟩)
    clear k4 far hge TT LT NNew HX25 HY25 HZ25 NX25 NY25 NZ25
    refine skip_ (w1 := (((w25.setCell ⟨b0M, 0, none⟩ (.int .i64 k0)).setCell ⟨b0M, 1, none⟩ (.int .i64 s0)).setCell ⟨b0M, 2, none⟩ (.slice X0A im0.length x0c)).setCell ⟨b0M, 3, none⟩ (.slice Y0A os0.length y0c)) (by rfl) rfl (by first | (go_simp; done) | (go_simp; rfl)) ?_
    refine hK.out _ _ ?_
    clear hK K z0 f0 z1 f1 z2 f2 z3 f3
    refine last_ (i := 10) (N := some 9) #[true, true, true, true, true, true, true, true, true, true, true] rfl rfl (one_of HT_.out (by kernel_rfl)) (by decide) (fun K hK => ?_)
    refine value_ (v := .int .i64 r0) (w1 := (((w25.setCell ⟨b0M, 0, none⟩ (.int .i64 k0)).setCell ⟨b0M, 1, none⟩ (.int .i64 s0)).setCell ⟨b0M, 2, none⟩ (.slice X0A im0.length x0c)).setCell ⟨b0M, 3, none⟩ (.slice Y0A os0.length y0c)) (by rfl) rfl (by first | (go_simp; done) | (go_simp; rfl)) ?_
    refine hK.out _ _ ?_
    clear hK K
    refine done_ (done_of HT_.out (by kernel_rfl)) ?_
    clear HT_ HW_ hHeld
    generalize (((w25.setCell ⟨b0M, 0, none⟩ (.int .i64 k0)).setCell ⟨b0M, 1, none⟩ (.int .i64 s0)).setCell ⟨b0M, 2, none⟩ (.slice X0A im0.length x0c)).setCell ⟨b0M, 3, none⟩ (.slice Y0A os0.length y0c) = w26 at *
    have xX0 := HX26.out.x0; have xX1 := HX26.out.x1; have xX2 := HX26.out.x2; have xX3 := HX26.out.x3; have xY0 := HY26.out.x0; have xY1 := HY26.out.x1; have xY2 := HY26.out.x2; have xY3 := HY26.out.x3; have xZ0 := HZ26.out.x0; have xZ1 := HZ26.out.x1; have xZ2 := HZ26.out.x2; have xZ3 := HZ26.out.x3; have xM00 := HM026.out.x0; have xM01 := HM026.out.x1; have xM02 := HM026.out.x2; have xM03 := HM026.out.x3
    go_upto_region 5 with (fail)
    have hb : Below w26.heap.size w26 w26.drew := (Below.refl _ _).drew
    clear xX0 xX1 xX2 xX3 xY0 xY1 xY2 xY3 xZ0 xZ1 xZ2 xZ3 xM00 xM01 xM02 xM03
    have HX27 := Aside0.mk (HX26.out.next hb)
    have HY27 := Aside0.mk (HY26.out.next hb)
    have HZ27 := Aside0.mk (HZ26.out.next hb)
    have HM027 := Aside0.mk (HM026.out.next hb)
    have NX27 := Aside0.mk (NX26.out.below hb)
    have NY27 := Aside0.mk (NY26.out.below hb)
    have NZ27 := Aside0.mk (NZ26.out.below hb)
    have NM027 := Aside0.mk (NM026.out.below hb)
    clear hb HX26 HY26 HZ26 HM026 NX26 NY26 NZ26 NM026
    refine start_ (n := 11) (S := fun w' => w'.cell? ⟨b + 1, 0, none⟩ = some (.int .i64 bk) ∧ w'.cell? ⟨b + 1, 1, none⟩ = some (.int .i64 bs) ∧ w'.cell? ⟨b + 1, 2, none⟩ = some (.slice B2 bi.length d2) ∧ w'.cell? ⟨b + 1, 3, none⟩ = some (.slice B3 bo.length d3) ∧ w'.cell? ⟨b + 2, 0, none⟩ = some (.int .i64 ck) ∧ w'.cell? ⟨b + 2, 1, none⟩ = some (.int .i64 cs_) ∧ w'.cell? ⟨b + 2, 2, none⟩ = some (.slice C2 ci.length e2) ∧ w'.cell? ⟨b + 2, 3, none⟩ = some (.slice C3 co.length e3)) (ds := [9, 10]) #[false, false, false, false, false, false, false, false, false, false, false] rfl rfl rfl ⟨HY27.out.x0, HY27.out.x1, HY27.out.x2, HY27.out.x3, HZ27.out.x0, HZ27.out.x1, HZ27.out.x2, HZ27.out.x3⟩ (fun hHeld => ?_)
    refine with_tabW regO5.tab regO5.bits (fun HT_ HW_ => ?_)
    generalize w26.drew = w27 at *
    clear w26
    refine tz_ 0 40 HT_ HW_ hHeld ?_
    refine tz_ 2 42 HT_ HW_ hHeld ?_
    refine join_ (σ := (Option Addr × Nat) × (Option Addr × Nat) × Nat) 2 #[true, true, true, true, true, true, true, true, true, false, false] (fun q => [(41, .agg #[.int .i64 bk, .int .i64 bs, .slice B2 bi.length d2, .slice B3 bo.length d3]), (43, .agg #[.int .i64 ck, .int .i64 cs_, .slice C2 ci.length e2, .slice C3 co.length e3]), (44, .tuple #[.agg #[.int .i64 k1, .int .i64 s1, .slice q.1.1 im1.length q.1.2, .slice q.2.1.1 os1.length q.2.1.2], .int .i64 r1]), (39, .tuple #[.agg #[.int .i64 k1, .int .i64 s1, .slice q.1.1 im1.length q.1.2, .slice q.2.1.1 os1.length q.2.1.2], .int .i64 r1]), (45, .agg #[.int .i64 k1, .int .i64 s1, .slice q.1.1 im1.length q.1.2, .slice q.2.1.1 os1.length q.2.1.2]), (46, .int .i64 r1), (10, .pointer (some ⟨q.2.2, 0, none⟩))]) (fun q w' => Aside0 (B4 w (b) 32 (.int .i64 ak) (.int .i64 as_) (.slice A2 ai.length c2) (.slice A3 ao.length c3) w') ∧ Aside0 (B4 w (b + 1) 32 (.int .i64 bk) (.int .i64 bs) (.slice B2 bi.length d2) (.slice B3 bo.length d3) w') ∧ Aside0 (B4 w (b + 2) 32 (.int .i64 ck) (.int .i64 cs_) (.slice C2 ci.length e2) (.slice C3 co.length e3) w') ∧ Aside0 (B4 w (b0M) 27 (.int .i64 k0) (.int .i64 s0) (.slice X0A im0.length x0c) (.slice Y0A os0.length y0c) w') ∧ Aside0 (AP q.2.2 w' A2 c2 ai A3 c3 ao) ∧ Aside0 (AP q.2.2 w' B2 d2 bi B3 d3 bo) ∧ Aside0 (AP q.2.2 w' C2 e2 ci C3 e3 co) ∧ Aside0 (AP q.2.2 w' X0A x0c im0 Y0A y0c os0) ∧ Aside0 (AP q.2.2 w' q.1.1 q.1.2 im1 q.2.1.1 q.2.1.2 os1) ∧ Aside0 (w'.heap[q.2.2]? = some (.cells #[.int .i64 0, .int .i64 0, .slice none 0 0, .slice none 0 0] 27 (0, 0))) ∧ Aside0 (b < q.2.2 ∧ b + 1 < q.2.2 ∧ b + 2 < q.2.2 ∧ b0M < q.2.2)) ?hcont ?hord
    case hord =>
      intro JN
      have JNN := Aside0.mk JN
      clear JN
      refine two_ (i := 1) (j := 8) (Ni := some 41) (Nj := some 10) #[true, true, true, false, false, false, false, false, false, false, false] #[true, false, true, false, false, false, false, false, true, false, false] rfl rfl rfl rfl (two_of HT_.out (by kernel_rfl)) (by decide) (by decide) (fun K hK => ?_) (fun K hK => ?_)
      · refine goes_ Try.func16 (by kernel_rfl) rfl #[.agg #[.int .i64 bk, .int .i64 bs, .slice B2 bi.length d2, .slice B3 bo.length d3]] (by rfl) rfl rfl ma_ ?_
        refine (ours_c NY27.out.nc bk bs).mono ?_
        rintro e v28w ⟨rfl, hb⟩
        refine ⟨_, rfl, ?_⟩
        have HX28 := Aside0.mk (HX27.out.next hb)
        have HY28 := Aside0.mk (HY27.out.next hb)
        have HZ28 := Aside0.mk (HZ27.out.next hb)
        have HM028 := Aside0.mk (HM027.out.next hb)
        have NX28 := Aside0.mk (NX27.out.below hb)
        have NY28 := Aside0.mk (NY27.out.below hb)
        have NZ28 := Aside0.mk (NZ27.out.below hb)
        have NM028 := Aside0.mk (NM027.out.below hb)
        clear hb HX27 HY27 HZ27 HM027 NX27 NY27 NZ27 NM027
        refine hK.out _ _ ⟨HY28.out.x0, HY28.out.x1, HY28.out.x2, HY28.out.x3, HZ28.out.x0, HZ28.out.x1, HZ28.out.x2, HZ28.out.x3⟩ (fun hHeld => ?_)
        clear hK K
        refine two_ (i := 3) (j := 8) (Ni := some 43) (Nj := some 10) #[true, true, true, true, false, false, false, false, false, false, false] #[true, true, true, false, false, false, false, false, true, false, false] rfl rfl rfl rfl (two_of HT_.out (by kernel_rfl)) (by decide) (by decide) (fun K hK => ?_) (fun K hK => ?_)
        · refine goes_ Try.func16 (by kernel_rfl) rfl #[.agg #[.int .i64 ck, .int .i64 cs_, .slice C2 ci.length e2, .slice C3 co.length e3]] (by rfl) rfl rfl ma_ ?_
          refine (ours_c NZ28.out.nc ck cs_).mono ?_
          rintro e v29w ⟨rfl, hb⟩
          refine ⟨_, rfl, ?_⟩
          have HX29 := Aside0.mk (HX28.out.next hb)
          have HY29 := Aside0.mk (HY28.out.next hb)
          have HZ29 := Aside0.mk (HZ28.out.next hb)
          have HM029 := Aside0.mk (HM028.out.next hb)
          have NX29 := Aside0.mk (NX28.out.below hb)
          have NY29 := Aside0.mk (NY28.out.below hb)
          have NZ29 := Aside0.mk (NZ28.out.below hb)
          have NM029 := Aside0.mk (NM028.out.below hb)
          clear hb HX28 HY28 HZ28 HM028 NX28 NY28 NZ28 NM028
          refine hK.out _ _ ⟨HY29.out.x0, HY29.out.x1, HY29.out.x2, HY29.out.x3, HZ29.out.x0, HZ29.out.x1, HZ29.out.x2, HZ29.out.x3⟩ (fun hHeld => ?_)
          clear hK K
          refine two_ (i := 4) (j := 8) (Ni := some 44) (Nj := some 10) #[true, true, true, true, true, false, false, false, false, false, false] #[true, true, true, true, false, false, false, false, true, false, false] rfl rfl rfl rfl (two_of HT_.out (by kernel_rfl)) (by decide) (by decide) (fun K hK => ?_) (fun K hK => ?_)
          · refine goes_ Try.func18 (by kernel_rfl) rfl #[.agg #[.int .i64 bk, .int .i64 bs, .slice B2 bi.length d2, .slice B3 bo.length d3], .agg #[.int .i64 ck, .int .i64 cs_, .slice C2 ci.length e2, .slice C3 co.length e3]] (by rfl) rfl rfl ma_ ?_
            refine (merge_nf NY29.out NZ29.out bk bs ck cs_ (by have := HL.out; omega) (im := im1) (os := os1) k1 s1 r1 HM1.out).mono ?_
            rintro e v30w ⟨XA, xc, YA, yc, rfl, hn, hb⟩
            refine ⟨_, rfl, ?_⟩
            have HX30 := Aside0.mk (HX29.out.next hb)
            have HY30 := Aside0.mk (HY29.out.next hb)
            have HZ30 := Aside0.mk (HZ29.out.next hb)
            have HM030 := Aside0.mk (HM029.out.next hb)
            have NX30 := Aside0.mk (NX29.out.below hb)
            have NY30 := Aside0.mk (NY29.out.below hb)
            have NZ30 := Aside0.mk (NZ29.out.below hb)
            have NM030 := Aside0.mk (NM029.out.below hb)
            clear hb HX29 HY29 HZ29 HM029 NX29 NY29 NZ29 NM029
            have NNew30 := Aside0.mk hn
            refine hK.out _ _ ⟨HY30.out.x0, HY30.out.x1, HY30.out.x2, HY30.out.x3, HZ30.out.x0, HZ30.out.x1, HZ30.out.x2, HZ30.out.x3⟩ (fun hHeld => ?_)
            clear hK K
            refine pz_ 5 39 HT_ ?_
            refine pz_ 6 45 HT_ ?_
            refine pz_ 7 46 HT_ ?_
            refine oz_ 8 10 HT_ (fun K hK => ?_)
            refine value_ (by rfl) rfl (v := .pointer (some ⟨v30w.heap.size, 0, none⟩)) (w1 := v30w.alloc (.cells #[.int .i64 0, .int .i64 0, .slice none 0 0, .slice none 0 0] 27)) (by first | (go_simp; done) | (go_simp; rfl)) ?_
            have hb : Below v30w.heap.size v30w (v30w.alloc (.cells #[.int .i64 0, .int .i64 0, .slice none 0 0, .slice none 0 0] 27)) := (Below.refl _ _).alloc (Nat.le_refl _) _
            have hx := blk_new v30w (.cells #[.int .i64 0, .int .i64 0, .slice none 0 0, .slice none 0 0] 27)
            have hl0 := blk_lt HX30.out.at_
            have hl1 := blk_lt HY30.out.at_
            have hl2 := blk_lt HZ30.out.at_
            have hl3 := blk_lt HM030.out.at_
            obtain ⟨bM, hbM⟩ : ∃ bM, v30w.heap.size = bM := ⟨_, rfl⟩
            rw [hbM] at hx hl0 hl1 hl2 hl3
            rw [hbM]
            have hle := Nat.le_of_eq hbM
            clear hbM
            generalize v30w.alloc (.cells #[.int .i64 0, .int .i64 0, .slice none 0 0, .slice none 0 0] 27) = v31w at *
            have LT := Aside0.mk (show b < bM ∧ b + 1 < bM ∧ b + 2 < bM ∧ b0M < bM from ⟨hl0, hl1, hl2, hl3⟩)
            clear hl0 hl1 hl2 hl3
            have HX31 := Aside0.mk (HX30.out.next hb)
            have HY31 := Aside0.mk (HY30.out.next hb)
            have HZ31 := Aside0.mk (HZ30.out.next hb)
            have HM031 := Aside0.mk (HM030.out.next hb)
            have NX31 := Aside0.mk ((NF.ap NX30.out (b := bM) hle).below hb)
            have NY31 := Aside0.mk ((NF.ap NY30.out (b := bM) hle).below hb)
            have NZ31 := Aside0.mk ((NF.ap NZ30.out (b := bM) hle).below hb)
            have NM031 := Aside0.mk ((NF.ap NM030.out (b := bM) hle).below hb)
            have NNew31 := Aside0.mk ((NF.ap NNew30.out (b := bM) hle).below hb)
            clear hb HX30 HY30 HZ30 HM030 NX30 NY30 NZ30 NM030 hle
            have TT31 := Aside0.mk hx
            refine hK.out _ _ ⟨HY31.out.x0, HY31.out.x1, HY31.out.x2, HY31.out.x3, HZ31.out.x0, HZ31.out.x1, HZ31.out.x2, HZ31.out.x3⟩ (fun hHeld => ?_)
            clear hK K
            exact norm_ pu_ (JNN.out ((XA, xc), (YA, yc), bM) _ ⟨HX31, HY31, HZ31, HM031, NX31, NY31, NZ31, NM031, NNew31, TT31, LT⟩)
          · refine value_ (by rfl) rfl (v := .pointer (some ⟨v29w.heap.size, 0, none⟩)) (w1 := v29w.alloc (.cells #[.int .i64 0, .int .i64 0, .slice none 0 0, .slice none 0 0] 27)) (by first | (go_simp; done) | (go_simp; rfl)) ?_
            have hb : Below v29w.heap.size v29w (v29w.alloc (.cells #[.int .i64 0, .int .i64 0, .slice none 0 0, .slice none 0 0] 27)) := (Below.refl _ _).alloc (Nat.le_refl _) _
            have hx := blk_new v29w (.cells #[.int .i64 0, .int .i64 0, .slice none 0 0, .slice none 0 0] 27)
            have hl0 := blk_lt HX29.out.at_
            have hl1 := blk_lt HY29.out.at_
            have hl2 := blk_lt HZ29.out.at_
            have hl3 := blk_lt HM029.out.at_
            obtain ⟨bM, hbM⟩ : ∃ bM, v29w.heap.size = bM := ⟨_, rfl⟩
            rw [hbM] at hx hl0 hl1 hl2 hl3
            rw [hbM]
            have hle := Nat.le_of_eq hbM
            clear hbM
            generalize v29w.alloc (.cells #[.int .i64 0, .int .i64 0, .slice none 0 0, .slice none 0 0] 27) = v32w at *
            have LT := Aside0.mk (show b < bM ∧ b + 1 < bM ∧ b + 2 < bM ∧ b0M < bM from ⟨hl0, hl1, hl2, hl3⟩)
            clear hl0 hl1 hl2 hl3
            have HX30 := Aside0.mk (HX29.out.next hb)
            have HY30 := Aside0.mk (HY29.out.next hb)
            have HZ30 := Aside0.mk (HZ29.out.next hb)
            have HM030 := Aside0.mk (HM029.out.next hb)
            have NX30 := Aside0.mk ((NF.ap NX29.out (b := bM) hle).below hb)
            have NY30 := Aside0.mk ((NF.ap NY29.out (b := bM) hle).below hb)
            have NZ30 := Aside0.mk ((NF.ap NZ29.out (b := bM) hle).below hb)
            have NM030 := Aside0.mk ((NF.ap NM029.out (b := bM) hle).below hb)
            clear hb HX29 HY29 HZ29 HM029 NX29 NY29 NZ29 NM029 hle
            have TT30 := Aside0.mk hx
            refine hK.out _ _ ⟨HY30.out.x0, HY30.out.x1, HY30.out.x2, HY30.out.x3, HZ30.out.x0, HZ30.out.x1, HZ30.out.x2, HZ30.out.x3⟩ (fun hHeld => ?_)
            clear hK K
            refine oz_ 4 44 HT_ (fun K hK => ?_)
            refine goes_ Try.func18 (by kernel_rfl) rfl #[.agg #[.int .i64 bk, .int .i64 bs, .slice B2 bi.length d2, .slice B3 bo.length d3], .agg #[.int .i64 ck, .int .i64 cs_, .slice C2 ci.length e2, .slice C3 co.length e3]] (by rfl) rfl rfl ma_ ?_
            refine (merge_ap NY30.out NZ30.out (blk_lt TT30.out) bk bs ck cs_ (by have := HL.out; omega) (im := im1) (os := os1) k1 s1 r1 HM1.out).mono ?_
            rintro e v33w ⟨XA, xc, YA, yc, rfl, hn, hb⟩
            refine ⟨_, rfl, ?_⟩
            have HX31 := Aside0.mk (HX30.out.next hb)
            have HY31 := Aside0.mk (HY30.out.next hb)
            have HZ31 := Aside0.mk (HZ30.out.next hb)
            have HM031 := Aside0.mk (HM030.out.next hb)
            have NX31 := Aside0.mk (NX30.out.below hb)
            have NY31 := Aside0.mk (NY30.out.below hb)
            have NZ31 := Aside0.mk (NZ30.out.below hb)
            have NM031 := Aside0.mk (NM030.out.below hb)
            have TT31 := Aside0.mk (blk_below TT30.out hb)
            clear hb HX30 HY30 HZ30 HM030 NX30 NY30 NZ30 NM030
            have NNew31 := Aside0.mk hn
            refine hK.out _ _ ⟨HY31.out.x0, HY31.out.x1, HY31.out.x2, HY31.out.x3, HZ31.out.x0, HZ31.out.x1, HZ31.out.x2, HZ31.out.x3⟩ (fun hHeld => ?_)
            clear hK K
            refine pz_ 5 39 HT_ ?_
            refine pz_ 6 45 HT_ ?_
            refine pz_ 7 46 HT_ ?_
            exact norm_ pu_ (JNN.out ((XA, xc), (YA, yc), bM) _ ⟨HX31, HY31, HZ31, HM031, NX31, NY31, NZ31, NM031, NNew31, TT31, LT⟩)
        · refine value_ (by rfl) rfl (v := .pointer (some ⟨v28w.heap.size, 0, none⟩)) (w1 := v28w.alloc (.cells #[.int .i64 0, .int .i64 0, .slice none 0 0, .slice none 0 0] 27)) (by first | (go_simp; done) | (go_simp; rfl)) ?_
          have hb : Below v28w.heap.size v28w (v28w.alloc (.cells #[.int .i64 0, .int .i64 0, .slice none 0 0, .slice none 0 0] 27)) := (Below.refl _ _).alloc (Nat.le_refl _) _
          have hx := blk_new v28w (.cells #[.int .i64 0, .int .i64 0, .slice none 0 0, .slice none 0 0] 27)
          have hl0 := blk_lt HX28.out.at_
          have hl1 := blk_lt HY28.out.at_
          have hl2 := blk_lt HZ28.out.at_
          have hl3 := blk_lt HM028.out.at_
          obtain ⟨bM, hbM⟩ : ∃ bM, v28w.heap.size = bM := ⟨_, rfl⟩
          rw [hbM] at hx hl0 hl1 hl2 hl3
          rw [hbM]
          have hle := Nat.le_of_eq hbM
          clear hbM
          generalize v28w.alloc (.cells #[.int .i64 0, .int .i64 0, .slice none 0 0, .slice none 0 0] 27) = v34w at *
          have LT := Aside0.mk (show b < bM ∧ b + 1 < bM ∧ b + 2 < bM ∧ b0M < bM from ⟨hl0, hl1, hl2, hl3⟩)
          clear hl0 hl1 hl2 hl3
          have HX29 := Aside0.mk (HX28.out.next hb)
          have HY29 := Aside0.mk (HY28.out.next hb)
          have HZ29 := Aside0.mk (HZ28.out.next hb)
          have HM029 := Aside0.mk (HM028.out.next hb)
          have NX29 := Aside0.mk ((NF.ap NX28.out (b := bM) hle).below hb)
          have NY29 := Aside0.mk ((NF.ap NY28.out (b := bM) hle).below hb)
          have NZ29 := Aside0.mk ((NF.ap NZ28.out (b := bM) hle).below hb)
          have NM029 := Aside0.mk ((NF.ap NM028.out (b := bM) hle).below hb)
          clear hb HX28 HY28 HZ28 HM028 NX28 NY28 NZ28 NM028 hle
          have TT29 := Aside0.mk hx
          refine hK.out _ _ ⟨HY29.out.x0, HY29.out.x1, HY29.out.x2, HY29.out.x3, HZ29.out.x0, HZ29.out.x1, HZ29.out.x2, HZ29.out.x3⟩ (fun hHeld => ?_)
          clear hK K
          refine oz_ 3 43 HT_ (fun K hK => ?_)
          refine goes_ Try.func16 (by kernel_rfl) rfl #[.agg #[.int .i64 ck, .int .i64 cs_, .slice C2 ci.length e2, .slice C3 co.length e3]] (by rfl) rfl rfl ma_ ?_
          refine (ours_c NZ29.out.nc ck cs_).mono ?_
          rintro e v35w ⟨rfl, hb⟩
          refine ⟨_, rfl, ?_⟩
          have HX30 := Aside0.mk (HX29.out.next hb)
          have HY30 := Aside0.mk (HY29.out.next hb)
          have HZ30 := Aside0.mk (HZ29.out.next hb)
          have HM030 := Aside0.mk (HM029.out.next hb)
          have NX30 := Aside0.mk (NX29.out.below hb)
          have NY30 := Aside0.mk (NY29.out.below hb)
          have NZ30 := Aside0.mk (NZ29.out.below hb)
          have NM030 := Aside0.mk (NM029.out.below hb)
          have TT30 := Aside0.mk (blk_below TT29.out hb)
          clear hb HX29 HY29 HZ29 HM029 NX29 NY29 NZ29 NM029
          refine hK.out _ _ ⟨HY30.out.x0, HY30.out.x1, HY30.out.x2, HY30.out.x3, HZ30.out.x0, HZ30.out.x1, HZ30.out.x2, HZ30.out.x3⟩ (fun hHeld => ?_)
          clear hK K
          refine oz_ 4 44 HT_ (fun K hK => ?_)
          refine goes_ Try.func18 (by kernel_rfl) rfl #[.agg #[.int .i64 bk, .int .i64 bs, .slice B2 bi.length d2, .slice B3 bo.length d3], .agg #[.int .i64 ck, .int .i64 cs_, .slice C2 ci.length e2, .slice C3 co.length e3]] (by rfl) rfl rfl ma_ ?_
          refine (merge_ap NY30.out NZ30.out (blk_lt TT30.out) bk bs ck cs_ (by have := HL.out; omega) (im := im1) (os := os1) k1 s1 r1 HM1.out).mono ?_
          rintro e v36w ⟨XA, xc, YA, yc, rfl, hn, hb⟩
          refine ⟨_, rfl, ?_⟩
          have HX31 := Aside0.mk (HX30.out.next hb)
          have HY31 := Aside0.mk (HY30.out.next hb)
          have HZ31 := Aside0.mk (HZ30.out.next hb)
          have HM031 := Aside0.mk (HM030.out.next hb)
          have NX31 := Aside0.mk (NX30.out.below hb)
          have NY31 := Aside0.mk (NY30.out.below hb)
          have NZ31 := Aside0.mk (NZ30.out.below hb)
          have NM031 := Aside0.mk (NM030.out.below hb)
          have TT31 := Aside0.mk (blk_below TT30.out hb)
          clear hb HX30 HY30 HZ30 HM030 NX30 NY30 NZ30 NM030
          have NNew31 := Aside0.mk hn
          refine hK.out _ _ ⟨HY31.out.x0, HY31.out.x1, HY31.out.x2, HY31.out.x3, HZ31.out.x0, HZ31.out.x1, HZ31.out.x2, HZ31.out.x3⟩ (fun hHeld => ?_)
          clear hK K
          refine pz_ 5 39 HT_ ?_
          refine pz_ 6 45 HT_ ?_
          refine pz_ 7 46 HT_ ?_
          exact norm_ pu_ (JNN.out ((XA, xc), (YA, yc), bM) _ ⟨HX31, HY31, HZ31, HM031, NX31, NY31, NZ31, NM031, NNew31, TT31, LT⟩)
      · refine value_ (by rfl) rfl (v := .pointer (some ⟨w27.heap.size, 0, none⟩)) (w1 := w27.alloc (.cells #[.int .i64 0, .int .i64 0, .slice none 0 0, .slice none 0 0] 27)) (by first | (go_simp; done) | (go_simp; rfl)) ?_
        have hb : Below w27.heap.size w27 (w27.alloc (.cells #[.int .i64 0, .int .i64 0, .slice none 0 0, .slice none 0 0] 27)) := (Below.refl _ _).alloc (Nat.le_refl _) _
        have hx := blk_new w27 (.cells #[.int .i64 0, .int .i64 0, .slice none 0 0, .slice none 0 0] 27)
        have hl0 := blk_lt HX27.out.at_
        have hl1 := blk_lt HY27.out.at_
        have hl2 := blk_lt HZ27.out.at_
        have hl3 := blk_lt HM027.out.at_
        obtain ⟨bM, hbM⟩ : ∃ bM, w27.heap.size = bM := ⟨_, rfl⟩
        rw [hbM] at hx hl0 hl1 hl2 hl3
        rw [hbM]
        have hle := Nat.le_of_eq hbM
        clear hbM
        generalize w27.alloc (.cells #[.int .i64 0, .int .i64 0, .slice none 0 0, .slice none 0 0] 27) = v37w at *
        have LT := Aside0.mk (show b < bM ∧ b + 1 < bM ∧ b + 2 < bM ∧ b0M < bM from ⟨hl0, hl1, hl2, hl3⟩)
        clear hl0 hl1 hl2 hl3
        have HX28 := Aside0.mk (HX27.out.next hb)
        have HY28 := Aside0.mk (HY27.out.next hb)
        have HZ28 := Aside0.mk (HZ27.out.next hb)
        have HM028 := Aside0.mk (HM027.out.next hb)
        have NX28 := Aside0.mk ((NF.ap NX27.out (b := bM) hle).below hb)
        have NY28 := Aside0.mk ((NF.ap NY27.out (b := bM) hle).below hb)
        have NZ28 := Aside0.mk ((NF.ap NZ27.out (b := bM) hle).below hb)
        have NM028 := Aside0.mk ((NF.ap NM027.out (b := bM) hle).below hb)
        clear hb HX27 HY27 HZ27 HM027 NX27 NY27 NZ27 NM027 hle
        have TT28 := Aside0.mk hx
        refine hK.out _ _ ⟨HY28.out.x0, HY28.out.x1, HY28.out.x2, HY28.out.x3, HZ28.out.x0, HZ28.out.x1, HZ28.out.x2, HZ28.out.x3⟩ (fun hHeld => ?_)
        clear hK K
        refine oz_ 1 41 HT_ (fun K hK => ?_)
        refine goes_ Try.func16 (by kernel_rfl) rfl #[.agg #[.int .i64 bk, .int .i64 bs, .slice B2 bi.length d2, .slice B3 bo.length d3]] (by rfl) rfl rfl ma_ ?_
        refine (ours_c NY28.out.nc bk bs).mono ?_
        rintro e v38w ⟨rfl, hb⟩
        refine ⟨_, rfl, ?_⟩
        have HX29 := Aside0.mk (HX28.out.next hb)
        have HY29 := Aside0.mk (HY28.out.next hb)
        have HZ29 := Aside0.mk (HZ28.out.next hb)
        have HM029 := Aside0.mk (HM028.out.next hb)
        have NX29 := Aside0.mk (NX28.out.below hb)
        have NY29 := Aside0.mk (NY28.out.below hb)
        have NZ29 := Aside0.mk (NZ28.out.below hb)
        have NM029 := Aside0.mk (NM028.out.below hb)
        have TT29 := Aside0.mk (blk_below TT28.out hb)
        clear hb HX28 HY28 HZ28 HM028 NX28 NY28 NZ28 NM028
        refine hK.out _ _ ⟨HY29.out.x0, HY29.out.x1, HY29.out.x2, HY29.out.x3, HZ29.out.x0, HZ29.out.x1, HZ29.out.x2, HZ29.out.x3⟩ (fun hHeld => ?_)
        clear hK K
        refine oz_ 3 43 HT_ (fun K hK => ?_)
        refine goes_ Try.func16 (by kernel_rfl) rfl #[.agg #[.int .i64 ck, .int .i64 cs_, .slice C2 ci.length e2, .slice C3 co.length e3]] (by rfl) rfl rfl ma_ ?_
        refine (ours_c NZ29.out.nc ck cs_).mono ?_
        rintro e v39w ⟨rfl, hb⟩
        refine ⟨_, rfl, ?_⟩
        have HX30 := Aside0.mk (HX29.out.next hb)
        have HY30 := Aside0.mk (HY29.out.next hb)
        have HZ30 := Aside0.mk (HZ29.out.next hb)
        have HM030 := Aside0.mk (HM029.out.next hb)
        have NX30 := Aside0.mk (NX29.out.below hb)
        have NY30 := Aside0.mk (NY29.out.below hb)
        have NZ30 := Aside0.mk (NZ29.out.below hb)
        have NM030 := Aside0.mk (NM029.out.below hb)
        have TT30 := Aside0.mk (blk_below TT29.out hb)
        clear hb HX29 HY29 HZ29 HM029 NX29 NY29 NZ29 NM029
        refine hK.out _ _ ⟨HY30.out.x0, HY30.out.x1, HY30.out.x2, HY30.out.x3, HZ30.out.x0, HZ30.out.x1, HZ30.out.x2, HZ30.out.x3⟩ (fun hHeld => ?_)
        clear hK K
        refine oz_ 4 44 HT_ (fun K hK => ?_)
        refine goes_ Try.func18 (by kernel_rfl) rfl #[.agg #[.int .i64 bk, .int .i64 bs, .slice B2 bi.length d2, .slice B3 bo.length d3], .agg #[.int .i64 ck, .int .i64 cs_, .slice C2 ci.length e2, .slice C3 co.length e3]] (by rfl) rfl rfl ma_ ?_
        refine (merge_ap NY30.out NZ30.out (blk_lt TT30.out) bk bs ck cs_ (by have := HL.out; omega) (im := im1) (os := os1) k1 s1 r1 HM1.out).mono ?_
        rintro e v40w ⟨XA, xc, YA, yc, rfl, hn, hb⟩
        refine ⟨_, rfl, ?_⟩
        have HX31 := Aside0.mk (HX30.out.next hb)
        have HY31 := Aside0.mk (HY30.out.next hb)
        have HZ31 := Aside0.mk (HZ30.out.next hb)
        have HM031 := Aside0.mk (HM030.out.next hb)
        have NX31 := Aside0.mk (NX30.out.below hb)
        have NY31 := Aside0.mk (NY30.out.below hb)
        have NZ31 := Aside0.mk (NZ30.out.below hb)
        have NM031 := Aside0.mk (NM030.out.below hb)
        have TT31 := Aside0.mk (blk_below TT30.out hb)
        clear hb HX30 HY30 HZ30 HM030 NX30 NY30 NZ30 NM030
        have NNew31 := Aside0.mk hn
        refine hK.out _ _ ⟨HY31.out.x0, HY31.out.x1, HY31.out.x2, HY31.out.x3, HZ31.out.x0, HZ31.out.x1, HZ31.out.x2, HZ31.out.x3⟩ (fun hHeld => ?_)
        clear hK K
        refine pz_ 5 39 HT_ ?_
        refine pz_ 6 45 HT_ ?_
        refine pz_ 7 46 HT_ ?_
        exact norm_ pu_ (JNN.out ((XA, xc), (YA, yc), bM) _ ⟨HX31, HY31, HZ31, HM031, NX31, NY31, NZ31, NM031, NNew31, TT31, LT⟩)
    case hcont =>
      rintro ⟨⟨X1A, x1c⟩, ⟨Y1A, y1c⟩, b1M⟩ w47 ⟨HX47, HY47, HZ47, HM047, NX47, NY47, NZ47, NM047, NNew, TT, LT⟩
      simp only at NNew TT LT
      refine norm_ (a' := ?_) ?_ ?_
      rotate_left
      · simp only [putAll, Act.put, List.setIfInBounds_toArray, List.set_cons_zero, List.set_cons_succ]; rfl
      clear HX27 HY27 HZ27 HM027 NX27 NY27 NZ27 NM027
      refine last_ (i := 9) (N := none) #[true, true, true, true, true, true, true, true, true, true, false] rfl rfl (one_of HT_.out (by kernel_rfl)) (by decide) (fun K hK => ?_)
      obtain ⟨z0, f0, z1, f1, z2, f2, z3, f3, k4⟩ := put4c (.int .i64 k1) (.int .i64 s1) (.slice X1A im1.length x1c) (.slice Y1A os1.length y1c) TT.out
      have hge : w.heap.size ≤ b1M := by have := HX47.out.ge; have := LT.out; omega
      have HX48 := Aside0.mk (B4.set (B4.set (B4.set (B4.set HX47.out (k := 0) (show b ≠ b1M by have := LT.out; omega) hge (.int .i64 k1)) (k := 1) (show b ≠ b1M by have := LT.out; omega) hge (.int .i64 s1)) (k := 2) (show b ≠ b1M by have := LT.out; omega) hge (.slice X1A im1.length x1c)) (k := 3) (show b ≠ b1M by have := LT.out; omega) hge (.slice Y1A os1.length y1c))
      have HY48 := Aside0.mk (B4.set (B4.set (B4.set (B4.set HY47.out (k := 0) (show b + 1 ≠ b1M by have := LT.out; omega) hge (.int .i64 k1)) (k := 1) (show b + 1 ≠ b1M by have := LT.out; omega) hge (.int .i64 s1)) (k := 2) (show b + 1 ≠ b1M by have := LT.out; omega) hge (.slice X1A im1.length x1c)) (k := 3) (show b + 1 ≠ b1M by have := LT.out; omega) hge (.slice Y1A os1.length y1c))
      have HZ48 := Aside0.mk (B4.set (B4.set (B4.set (B4.set HZ47.out (k := 0) (show b + 2 ≠ b1M by have := LT.out; omega) hge (.int .i64 k1)) (k := 1) (show b + 2 ≠ b1M by have := LT.out; omega) hge (.int .i64 s1)) (k := 2) (show b + 2 ≠ b1M by have := LT.out; omega) hge (.slice X1A im1.length x1c)) (k := 3) (show b + 2 ≠ b1M by have := LT.out; omega) hge (.slice Y1A os1.length y1c))
      have HM048 := Aside0.mk (B4.set (B4.set (B4.set (B4.set HM047.out (k := 0) (show b0M ≠ b1M by have := LT.out; omega) hge (.int .i64 k1)) (k := 1) (show b0M ≠ b1M by have := LT.out; omega) hge (.int .i64 s1)) (k := 2) (show b0M ≠ b1M by have := LT.out; omega) hge (.slice X1A im1.length x1c)) (k := 3) (show b0M ≠ b1M by have := LT.out; omega) hge (.slice Y1A os1.length y1c))
      have far : ∀ j, j ≠ b1M → ((((w47.setCell ⟨b1M, 0, none⟩ (.int .i64 k1)).setCell ⟨b1M, 1, none⟩ (.int .i64 s1)).setCell ⟨b1M, 2, none⟩ (.slice X1A im1.length x1c)).setCell ⟨b1M, 3, none⟩ (.slice Y1A os1.length y1c)).heap[j]? = w47.heap[j]? := fun j hj => far4 hj
      have NX48 := Aside0.mk (AP.far NX47.out far)
      have NY48 := Aside0.mk (AP.far NY47.out far)
      have NZ48 := Aside0.mk (AP.far NZ47.out far)
      have NM048 := Aside0.mk (AP.far NM047.out far)
      have NM148 := Aside0.mk (AP.far NNew.out far)
      have HM148 := Aside0.mk (show B4 w b1M 27 (.int .i64 k1) (.int .i64 s1) (.slice X1A im1.length x1c) (.slice Y1A os1.length y1c) ((((w47.setCell ⟨b1M, 0, none⟩ (.int .i64 k1)).setCell ⟨b1M, 1, none⟩ (.int .i64 s1)).setCell ⟨b1M, 2, none⟩ (.slice X1A im1.length x1c)).setCell ⟨b1M, 3, none⟩ (.slice Y1A os1.length y1c)) from ⟨HX48.out.below, k4, hge⟩)
      clear k4 far hge TT LT NNew HX47 HY47 HZ47 HM047 NX47 NY47 NZ47 NM047
      refine skip_ (w1 := (((w47.setCell ⟨b1M, 0, none⟩ (.int .i64 k1)).setCell ⟨b1M, 1, none⟩ (.int .i64 s1)).setCell ⟨b1M, 2, none⟩ (.slice X1A im1.length x1c)).setCell ⟨b1M, 3, none⟩ (.slice Y1A os1.length y1c)) (by rfl) rfl (by first | (go_simp; done) | (go_simp; rfl)) ?_
      refine hK.out _ _ ?_
      clear hK K z0 f0 z1 f1 z2 f2 z3 f3
      refine last_ (i := 10) (N := some 11) #[true, true, true, true, true, true, true, true, true, true, true] rfl rfl (one_of HT_.out (by kernel_rfl)) (by decide) (fun K hK => ?_)
      refine value_ (v := .int .i64 r1) (w1 := (((w47.setCell ⟨b1M, 0, none⟩ (.int .i64 k1)).setCell ⟨b1M, 1, none⟩ (.int .i64 s1)).setCell ⟨b1M, 2, none⟩ (.slice X1A im1.length x1c)).setCell ⟨b1M, 3, none⟩ (.slice Y1A os1.length y1c)) (by rfl) rfl (by first | (go_simp; done) | (go_simp; rfl)) ?_
      refine hK.out _ _ ?_
      clear hK K
      refine done_ (done_of HT_.out (by kernel_rfl)) ?_
      clear HT_ HW_ hHeld
      generalize (((w47.setCell ⟨b1M, 0, none⟩ (.int .i64 k1)).setCell ⟨b1M, 1, none⟩ (.int .i64 s1)).setCell ⟨b1M, 2, none⟩ (.slice X1A im1.length x1c)).setCell ⟨b1M, 3, none⟩ (.slice Y1A os1.length y1c) = w48 at *
      have xX0 := HX48.out.x0; have xX1 := HX48.out.x1; have xX2 := HX48.out.x2; have xX3 := HX48.out.x3; have xY0 := HY48.out.x0; have xY1 := HY48.out.x1; have xY2 := HY48.out.x2; have xY3 := HY48.out.x3; have xZ0 := HZ48.out.x0; have xZ1 := HZ48.out.x1; have xZ2 := HZ48.out.x2; have xZ3 := HZ48.out.x3; have xM00 := HM048.out.x0; have xM01 := HM048.out.x1; have xM02 := HM048.out.x2; have xM03 := HM048.out.x3; have xM10 := HM148.out.x0; have xM11 := HM148.out.x1; have xM12 := HM148.out.x2; have xM13 := HM148.out.x3
      go_upto_region 6 with (fail)
      have hb : Below w48.heap.size w48 w48.drew := (Below.refl _ _).drew
      clear xX0 xX1 xX2 xX3 xY0 xY1 xY2 xY3 xZ0 xZ1 xZ2 xZ3 xM00 xM01 xM02 xM03 xM10 xM11 xM12 xM13
      have HX49 := Aside0.mk (HX48.out.next hb)
      have HY49 := Aside0.mk (HY48.out.next hb)
      have HZ49 := Aside0.mk (HZ48.out.next hb)
      have HM049 := Aside0.mk (HM048.out.next hb)
      have HM149 := Aside0.mk (HM148.out.next hb)
      have NX49 := Aside0.mk (NX48.out.below hb)
      have NY49 := Aside0.mk (NY48.out.below hb)
      have NZ49 := Aside0.mk (NZ48.out.below hb)
      have NM049 := Aside0.mk (NM048.out.below hb)
      have NM149 := Aside0.mk (NM148.out.below hb)
      clear hb HX48 HY48 HZ48 HM048 HM148 NX48 NY48 NZ48 NM048 NM148
      refine start_ (n := 10) (S := fun w' => w'.cell? ⟨b0M, 0, none⟩ = some (.int .i64 k0) ∧ w'.cell? ⟨b0M, 1, none⟩ = some (.int .i64 s0) ∧ w'.cell? ⟨b0M, 2, none⟩ = some (.slice X0A im0.length x0c) ∧ w'.cell? ⟨b0M, 3, none⟩ = some (.slice Y0A os0.length y0c) ∧ w'.cell? ⟨b + 2, 0, none⟩ = some (.int .i64 ck) ∧ w'.cell? ⟨b + 2, 1, none⟩ = some (.int .i64 cs_) ∧ w'.cell? ⟨b + 2, 2, none⟩ = some (.slice C2 ci.length e2) ∧ w'.cell? ⟨b + 2, 3, none⟩ = some (.slice C3 co.length e3)) (ds := [8, 9]) #[false, false, false, false, false, false, false, false, false, false] rfl rfl rfl ⟨HM049.out.x0, HM049.out.x1, HM049.out.x2, HM049.out.x3, HZ49.out.x0, HZ49.out.x1, HZ49.out.x2, HZ49.out.x3⟩ (fun hHeld => ?_)
      refine with_tabW regO6.tab regO6.bits (fun HT_ HW_ => ?_)
      generalize w48.drew = w49 at *
      clear w48
      refine tz_ 0 48 HT_ HW_ hHeld ?_
      refine tz_ 1 49 HT_ HW_ hHeld ?_
      refine join_ (σ := (Option Addr × Nat) × (Option Addr × Nat) × Nat) 2 #[true, true, true, true, true, true, true, true, false, false] (fun q => [(50, .agg #[.int .i64 ck, .int .i64 cs_, .slice C2 ci.length e2, .slice C3 co.length e3]), (51, .tuple #[.agg #[.int .i64 k2, .int .i64 s2, .slice q.1.1 im2.length q.1.2, .slice q.2.1.1 os2.length q.2.1.2], .int .i64 r2]), (47, .tuple #[.agg #[.int .i64 k2, .int .i64 s2, .slice q.1.1 im2.length q.1.2, .slice q.2.1.1 os2.length q.2.1.2], .int .i64 r2]), (52, .agg #[.int .i64 k2, .int .i64 s2, .slice q.1.1 im2.length q.1.2, .slice q.2.1.1 os2.length q.2.1.2]), (53, .int .i64 r2), (12, .pointer (some ⟨q.2.2, 0, none⟩))]) (fun q w' => Aside0 (B4 w (b) 32 (.int .i64 ak) (.int .i64 as_) (.slice A2 ai.length c2) (.slice A3 ao.length c3) w') ∧ Aside0 (B4 w (b + 1) 32 (.int .i64 bk) (.int .i64 bs) (.slice B2 bi.length d2) (.slice B3 bo.length d3) w') ∧ Aside0 (B4 w (b + 2) 32 (.int .i64 ck) (.int .i64 cs_) (.slice C2 ci.length e2) (.slice C3 co.length e3) w') ∧ Aside0 (B4 w (b0M) 27 (.int .i64 k0) (.int .i64 s0) (.slice X0A im0.length x0c) (.slice Y0A os0.length y0c) w') ∧ Aside0 (B4 w (b1M) 27 (.int .i64 k1) (.int .i64 s1) (.slice X1A im1.length x1c) (.slice Y1A os1.length y1c) w') ∧ Aside0 (AP q.2.2 w' A2 c2 ai A3 c3 ao) ∧ Aside0 (AP q.2.2 w' B2 d2 bi B3 d3 bo) ∧ Aside0 (AP q.2.2 w' C2 e2 ci C3 e3 co) ∧ Aside0 (AP q.2.2 w' X0A x0c im0 Y0A y0c os0) ∧ Aside0 (AP q.2.2 w' X1A x1c im1 Y1A y1c os1) ∧ Aside0 (AP q.2.2 w' q.1.1 q.1.2 im2 q.2.1.1 q.2.1.2 os2) ∧ Aside0 (w'.heap[q.2.2]? = some (.cells #[.int .i64 0, .int .i64 0, .slice none 0 0, .slice none 0 0] 27 (0, 0))) ∧ Aside0 (b < q.2.2 ∧ b + 1 < q.2.2 ∧ b + 2 < q.2.2 ∧ b0M < q.2.2 ∧ b1M < q.2.2)) ?hcont ?hord
      case hord =>
        intro JN
        have JNN := Aside0.mk JN
        clear JN
        refine two_ (i := 2) (j := 7) (Ni := some 50) (Nj := some 12) #[true, true, true, false, false, false, false, false, false, false] #[true, true, false, false, false, false, false, true, false, false] rfl rfl rfl rfl (two_of HT_.out (by kernel_rfl)) (by decide) (by decide) (fun K hK => ?_) (fun K hK => ?_)
        · refine goes_ Try.func16 (by kernel_rfl) rfl #[.agg #[.int .i64 ck, .int .i64 cs_, .slice C2 ci.length e2, .slice C3 co.length e3]] (by rfl) rfl rfl ma_ ?_
          refine (ours_c NZ49.out.nc ck cs_).mono ?_
          rintro e v50w ⟨rfl, hb⟩
          refine ⟨_, rfl, ?_⟩
          have HX50 := Aside0.mk (HX49.out.next hb)
          have HY50 := Aside0.mk (HY49.out.next hb)
          have HZ50 := Aside0.mk (HZ49.out.next hb)
          have HM050 := Aside0.mk (HM049.out.next hb)
          have HM150 := Aside0.mk (HM149.out.next hb)
          have NX50 := Aside0.mk (NX49.out.below hb)
          have NY50 := Aside0.mk (NY49.out.below hb)
          have NZ50 := Aside0.mk (NZ49.out.below hb)
          have NM050 := Aside0.mk (NM049.out.below hb)
          have NM150 := Aside0.mk (NM149.out.below hb)
          clear hb HX49 HY49 HZ49 HM049 HM149 NX49 NY49 NZ49 NM049 NM149
          refine hK.out _ _ ⟨HM050.out.x0, HM050.out.x1, HM050.out.x2, HM050.out.x3, HZ50.out.x0, HZ50.out.x1, HZ50.out.x2, HZ50.out.x3⟩ (fun hHeld => ?_)
          clear hK K
          refine two_ (i := 3) (j := 7) (Ni := some 51) (Nj := some 12) #[true, true, true, true, false, false, false, false, false, false] #[true, true, true, false, false, false, false, true, false, false] rfl rfl rfl rfl (two_of HT_.out (by kernel_rfl)) (by decide) (by decide) (fun K hK => ?_) (fun K hK => ?_)
          · refine goes_ Try.func18 (by kernel_rfl) rfl #[.agg #[.int .i64 k0, .int .i64 s0, .slice X0A im0.length x0c, .slice Y0A os0.length y0c], .agg #[.int .i64 ck, .int .i64 cs_, .slice C2 ci.length e2, .slice C3 co.length e3]] (by rfl) rfl rfl ma_ ?_
            refine (merge_nf NM050.out NZ50.out k0 s0 ck cs_ (by have := HL.out; omega) (im := im2) (os := os2) k2 s2 r2 HM2.out).mono ?_
            rintro e v51w ⟨XA, xc, YA, yc, rfl, hn, hb⟩
            refine ⟨_, rfl, ?_⟩
            have HX51 := Aside0.mk (HX50.out.next hb)
            have HY51 := Aside0.mk (HY50.out.next hb)
            have HZ51 := Aside0.mk (HZ50.out.next hb)
            have HM051 := Aside0.mk (HM050.out.next hb)
            have HM151 := Aside0.mk (HM150.out.next hb)
            have NX51 := Aside0.mk (NX50.out.below hb)
            have NY51 := Aside0.mk (NY50.out.below hb)
            have NZ51 := Aside0.mk (NZ50.out.below hb)
            have NM051 := Aside0.mk (NM050.out.below hb)
            have NM151 := Aside0.mk (NM150.out.below hb)
            clear hb HX50 HY50 HZ50 HM050 HM150 NX50 NY50 NZ50 NM050 NM150
            have NNew51 := Aside0.mk hn
            refine hK.out _ _ ⟨HM051.out.x0, HM051.out.x1, HM051.out.x2, HM051.out.x3, HZ51.out.x0, HZ51.out.x1, HZ51.out.x2, HZ51.out.x3⟩ (fun hHeld => ?_)
            clear hK K
            refine pz_ 4 47 HT_ ?_
            refine pz_ 5 52 HT_ ?_
            refine pz_ 6 53 HT_ ?_
            refine oz_ 7 12 HT_ (fun K hK => ?_)
            refine value_ (by rfl) rfl (v := .pointer (some ⟨v51w.heap.size, 0, none⟩)) (w1 := v51w.alloc (.cells #[.int .i64 0, .int .i64 0, .slice none 0 0, .slice none 0 0] 27)) (by first | (go_simp; done) | (go_simp; rfl)) ?_
            have hb : Below v51w.heap.size v51w (v51w.alloc (.cells #[.int .i64 0, .int .i64 0, .slice none 0 0, .slice none 0 0] 27)) := (Below.refl _ _).alloc (Nat.le_refl _) _
            have hx := blk_new v51w (.cells #[.int .i64 0, .int .i64 0, .slice none 0 0, .slice none 0 0] 27)
            have hl0 := blk_lt HX51.out.at_
            have hl1 := blk_lt HY51.out.at_
            have hl2 := blk_lt HZ51.out.at_
            have hl3 := blk_lt HM051.out.at_
            have hl4 := blk_lt HM151.out.at_
            obtain ⟨bM, hbM⟩ : ∃ bM, v51w.heap.size = bM := ⟨_, rfl⟩
            rw [hbM] at hx hl0 hl1 hl2 hl3 hl4
            rw [hbM]
            have hle := Nat.le_of_eq hbM
            clear hbM
            generalize v51w.alloc (.cells #[.int .i64 0, .int .i64 0, .slice none 0 0, .slice none 0 0] 27) = v52w at *
            have LT := Aside0.mk (show b < bM ∧ b + 1 < bM ∧ b + 2 < bM ∧ b0M < bM ∧ b1M < bM from ⟨hl0, hl1, hl2, hl3, hl4⟩)
            clear hl0 hl1 hl2 hl3 hl4
            have HX52 := Aside0.mk (HX51.out.next hb)
            have HY52 := Aside0.mk (HY51.out.next hb)
            have HZ52 := Aside0.mk (HZ51.out.next hb)
            have HM052 := Aside0.mk (HM051.out.next hb)
            have HM152 := Aside0.mk (HM151.out.next hb)
            have NX52 := Aside0.mk ((NF.ap NX51.out (b := bM) hle).below hb)
            have NY52 := Aside0.mk ((NF.ap NY51.out (b := bM) hle).below hb)
            have NZ52 := Aside0.mk ((NF.ap NZ51.out (b := bM) hle).below hb)
            have NM052 := Aside0.mk ((NF.ap NM051.out (b := bM) hle).below hb)
            have NM152 := Aside0.mk ((NF.ap NM151.out (b := bM) hle).below hb)
            have NNew52 := Aside0.mk ((NF.ap NNew51.out (b := bM) hle).below hb)
            clear hb HX51 HY51 HZ51 HM051 HM151 NX51 NY51 NZ51 NM051 NM151 hle
            have TT52 := Aside0.mk hx
            refine hK.out _ _ ⟨HM052.out.x0, HM052.out.x1, HM052.out.x2, HM052.out.x3, HZ52.out.x0, HZ52.out.x1, HZ52.out.x2, HZ52.out.x3⟩ (fun hHeld => ?_)
            clear hK K
            exact norm_ pu_ (JNN.out ((XA, xc), (YA, yc), bM) _ ⟨HX52, HY52, HZ52, HM052, HM152, NX52, NY52, NZ52, NM052, NM152, NNew52, TT52, LT⟩)
          · refine value_ (by rfl) rfl (v := .pointer (some ⟨v50w.heap.size, 0, none⟩)) (w1 := v50w.alloc (.cells #[.int .i64 0, .int .i64 0, .slice none 0 0, .slice none 0 0] 27)) (by first | (go_simp; done) | (go_simp; rfl)) ?_
            have hb : Below v50w.heap.size v50w (v50w.alloc (.cells #[.int .i64 0, .int .i64 0, .slice none 0 0, .slice none 0 0] 27)) := (Below.refl _ _).alloc (Nat.le_refl _) _
            have hx := blk_new v50w (.cells #[.int .i64 0, .int .i64 0, .slice none 0 0, .slice none 0 0] 27)
            have hl0 := blk_lt HX50.out.at_
            have hl1 := blk_lt HY50.out.at_
            have hl2 := blk_lt HZ50.out.at_
            have hl3 := blk_lt HM050.out.at_
            have hl4 := blk_lt HM150.out.at_
            obtain ⟨bM, hbM⟩ : ∃ bM, v50w.heap.size = bM := ⟨_, rfl⟩
            rw [hbM] at hx hl0 hl1 hl2 hl3 hl4
            rw [hbM]
            have hle := Nat.le_of_eq hbM
            clear hbM
            generalize v50w.alloc (.cells #[.int .i64 0, .int .i64 0, .slice none 0 0, .slice none 0 0] 27) = v53w at *
            have LT := Aside0.mk (show b < bM ∧ b + 1 < bM ∧ b + 2 < bM ∧ b0M < bM ∧ b1M < bM from ⟨hl0, hl1, hl2, hl3, hl4⟩)
            clear hl0 hl1 hl2 hl3 hl4
            have HX51 := Aside0.mk (HX50.out.next hb)
            have HY51 := Aside0.mk (HY50.out.next hb)
            have HZ51 := Aside0.mk (HZ50.out.next hb)
            have HM051 := Aside0.mk (HM050.out.next hb)
            have HM151 := Aside0.mk (HM150.out.next hb)
            have NX51 := Aside0.mk ((NF.ap NX50.out (b := bM) hle).below hb)
            have NY51 := Aside0.mk ((NF.ap NY50.out (b := bM) hle).below hb)
            have NZ51 := Aside0.mk ((NF.ap NZ50.out (b := bM) hle).below hb)
            have NM051 := Aside0.mk ((NF.ap NM050.out (b := bM) hle).below hb)
            have NM151 := Aside0.mk ((NF.ap NM150.out (b := bM) hle).below hb)
            clear hb HX50 HY50 HZ50 HM050 HM150 NX50 NY50 NZ50 NM050 NM150 hle
            have TT51 := Aside0.mk hx
            refine hK.out _ _ ⟨HM051.out.x0, HM051.out.x1, HM051.out.x2, HM051.out.x3, HZ51.out.x0, HZ51.out.x1, HZ51.out.x2, HZ51.out.x3⟩ (fun hHeld => ?_)
            clear hK K
            refine oz_ 3 51 HT_ (fun K hK => ?_)
            refine goes_ Try.func18 (by kernel_rfl) rfl #[.agg #[.int .i64 k0, .int .i64 s0, .slice X0A im0.length x0c, .slice Y0A os0.length y0c], .agg #[.int .i64 ck, .int .i64 cs_, .slice C2 ci.length e2, .slice C3 co.length e3]] (by rfl) rfl rfl ma_ ?_
            refine (merge_ap NM051.out NZ51.out (blk_lt TT51.out) k0 s0 ck cs_ (by have := HL.out; omega) (im := im2) (os := os2) k2 s2 r2 HM2.out).mono ?_
            rintro e v54w ⟨XA, xc, YA, yc, rfl, hn, hb⟩
            refine ⟨_, rfl, ?_⟩
            have HX52 := Aside0.mk (HX51.out.next hb)
            have HY52 := Aside0.mk (HY51.out.next hb)
            have HZ52 := Aside0.mk (HZ51.out.next hb)
            have HM052 := Aside0.mk (HM051.out.next hb)
            have HM152 := Aside0.mk (HM151.out.next hb)
            have NX52 := Aside0.mk (NX51.out.below hb)
            have NY52 := Aside0.mk (NY51.out.below hb)
            have NZ52 := Aside0.mk (NZ51.out.below hb)
            have NM052 := Aside0.mk (NM051.out.below hb)
            have NM152 := Aside0.mk (NM151.out.below hb)
            have TT52 := Aside0.mk (blk_below TT51.out hb)
            clear hb HX51 HY51 HZ51 HM051 HM151 NX51 NY51 NZ51 NM051 NM151
            have NNew52 := Aside0.mk hn
            refine hK.out _ _ ⟨HM052.out.x0, HM052.out.x1, HM052.out.x2, HM052.out.x3, HZ52.out.x0, HZ52.out.x1, HZ52.out.x2, HZ52.out.x3⟩ (fun hHeld => ?_)
            clear hK K
            refine pz_ 4 47 HT_ ?_
            refine pz_ 5 52 HT_ ?_
            refine pz_ 6 53 HT_ ?_
            exact norm_ pu_ (JNN.out ((XA, xc), (YA, yc), bM) _ ⟨HX52, HY52, HZ52, HM052, HM152, NX52, NY52, NZ52, NM052, NM152, NNew52, TT52, LT⟩)
        · refine value_ (by rfl) rfl (v := .pointer (some ⟨w49.heap.size, 0, none⟩)) (w1 := w49.alloc (.cells #[.int .i64 0, .int .i64 0, .slice none 0 0, .slice none 0 0] 27)) (by first | (go_simp; done) | (go_simp; rfl)) ?_
          have hb : Below w49.heap.size w49 (w49.alloc (.cells #[.int .i64 0, .int .i64 0, .slice none 0 0, .slice none 0 0] 27)) := (Below.refl _ _).alloc (Nat.le_refl _) _
          have hx := blk_new w49 (.cells #[.int .i64 0, .int .i64 0, .slice none 0 0, .slice none 0 0] 27)
          have hl0 := blk_lt HX49.out.at_
          have hl1 := blk_lt HY49.out.at_
          have hl2 := blk_lt HZ49.out.at_
          have hl3 := blk_lt HM049.out.at_
          have hl4 := blk_lt HM149.out.at_
          obtain ⟨bM, hbM⟩ : ∃ bM, w49.heap.size = bM := ⟨_, rfl⟩
          rw [hbM] at hx hl0 hl1 hl2 hl3 hl4
          rw [hbM]
          have hle := Nat.le_of_eq hbM
          clear hbM
          generalize w49.alloc (.cells #[.int .i64 0, .int .i64 0, .slice none 0 0, .slice none 0 0] 27) = v55w at *
          have LT := Aside0.mk (show b < bM ∧ b + 1 < bM ∧ b + 2 < bM ∧ b0M < bM ∧ b1M < bM from ⟨hl0, hl1, hl2, hl3, hl4⟩)
          clear hl0 hl1 hl2 hl3 hl4
          have HX50 := Aside0.mk (HX49.out.next hb)
          have HY50 := Aside0.mk (HY49.out.next hb)
          have HZ50 := Aside0.mk (HZ49.out.next hb)
          have HM050 := Aside0.mk (HM049.out.next hb)
          have HM150 := Aside0.mk (HM149.out.next hb)
          have NX50 := Aside0.mk ((NF.ap NX49.out (b := bM) hle).below hb)
          have NY50 := Aside0.mk ((NF.ap NY49.out (b := bM) hle).below hb)
          have NZ50 := Aside0.mk ((NF.ap NZ49.out (b := bM) hle).below hb)
          have NM050 := Aside0.mk ((NF.ap NM049.out (b := bM) hle).below hb)
          have NM150 := Aside0.mk ((NF.ap NM149.out (b := bM) hle).below hb)
          clear hb HX49 HY49 HZ49 HM049 HM149 NX49 NY49 NZ49 NM049 NM149 hle
          have TT50 := Aside0.mk hx
          refine hK.out _ _ ⟨HM050.out.x0, HM050.out.x1, HM050.out.x2, HM050.out.x3, HZ50.out.x0, HZ50.out.x1, HZ50.out.x2, HZ50.out.x3⟩ (fun hHeld => ?_)
          clear hK K
          refine oz_ 2 50 HT_ (fun K hK => ?_)
          refine goes_ Try.func16 (by kernel_rfl) rfl #[.agg #[.int .i64 ck, .int .i64 cs_, .slice C2 ci.length e2, .slice C3 co.length e3]] (by rfl) rfl rfl ma_ ?_
          refine (ours_c NZ50.out.nc ck cs_).mono ?_
          rintro e v56w ⟨rfl, hb⟩
          refine ⟨_, rfl, ?_⟩
          have HX51 := Aside0.mk (HX50.out.next hb)
          have HY51 := Aside0.mk (HY50.out.next hb)
          have HZ51 := Aside0.mk (HZ50.out.next hb)
          have HM051 := Aside0.mk (HM050.out.next hb)
          have HM151 := Aside0.mk (HM150.out.next hb)
          have NX51 := Aside0.mk (NX50.out.below hb)
          have NY51 := Aside0.mk (NY50.out.below hb)
          have NZ51 := Aside0.mk (NZ50.out.below hb)
          have NM051 := Aside0.mk (NM050.out.below hb)
          have NM151 := Aside0.mk (NM150.out.below hb)
          have TT51 := Aside0.mk (blk_below TT50.out hb)
          clear hb HX50 HY50 HZ50 HM050 HM150 NX50 NY50 NZ50 NM050 NM150
          refine hK.out _ _ ⟨HM051.out.x0, HM051.out.x1, HM051.out.x2, HM051.out.x3, HZ51.out.x0, HZ51.out.x1, HZ51.out.x2, HZ51.out.x3⟩ (fun hHeld => ?_)
          clear hK K
          refine oz_ 3 51 HT_ (fun K hK => ?_)
          refine goes_ Try.func18 (by kernel_rfl) rfl #[.agg #[.int .i64 k0, .int .i64 s0, .slice X0A im0.length x0c, .slice Y0A os0.length y0c], .agg #[.int .i64 ck, .int .i64 cs_, .slice C2 ci.length e2, .slice C3 co.length e3]] (by rfl) rfl rfl ma_ ?_
          refine (merge_ap NM051.out NZ51.out (blk_lt TT51.out) k0 s0 ck cs_ (by have := HL.out; omega) (im := im2) (os := os2) k2 s2 r2 HM2.out).mono ?_
          rintro e v57w ⟨XA, xc, YA, yc, rfl, hn, hb⟩
          refine ⟨_, rfl, ?_⟩
          have HX52 := Aside0.mk (HX51.out.next hb)
          have HY52 := Aside0.mk (HY51.out.next hb)
          have HZ52 := Aside0.mk (HZ51.out.next hb)
          have HM052 := Aside0.mk (HM051.out.next hb)
          have HM152 := Aside0.mk (HM151.out.next hb)
          have NX52 := Aside0.mk (NX51.out.below hb)
          have NY52 := Aside0.mk (NY51.out.below hb)
          have NZ52 := Aside0.mk (NZ51.out.below hb)
          have NM052 := Aside0.mk (NM051.out.below hb)
          have NM152 := Aside0.mk (NM151.out.below hb)
          have TT52 := Aside0.mk (blk_below TT51.out hb)
          clear hb HX51 HY51 HZ51 HM051 HM151 NX51 NY51 NZ51 NM051 NM151
          have NNew52 := Aside0.mk hn
          refine hK.out _ _ ⟨HM052.out.x0, HM052.out.x1, HM052.out.x2, HM052.out.x3, HZ52.out.x0, HZ52.out.x1, HZ52.out.x2, HZ52.out.x3⟩ (fun hHeld => ?_)
          clear hK K
          refine pz_ 4 47 HT_ ?_
          refine pz_ 5 52 HT_ ?_
          refine pz_ 6 53 HT_ ?_
          exact norm_ pu_ (JNN.out ((XA, xc), (YA, yc), bM) _ ⟨HX52, HY52, HZ52, HM052, HM152, NX52, NY52, NZ52, NM052, NM152, NNew52, TT52, LT⟩)
      case hcont =>
        rintro ⟨⟨X2A, x2c⟩, ⟨Y2A, y2c⟩, b2M⟩ w69 ⟨HX69, HY69, HZ69, HM069, HM169, NX69, NY69, NZ69, NM069, NM169, NNew, TT, LT⟩
        simp only at NNew TT LT
        refine norm_ (a' := ?_) ?_ ?_
        rotate_left
        · simp only [putAll, Act.put, List.setIfInBounds_toArray, List.set_cons_zero, List.set_cons_succ]; rfl
        clear HX49 HY49 HZ49 HM049 HM149 NX49 NY49 NZ49 NM049 NM149
        refine last_ (i := 8) (N := none) #[true, true, true, true, true, true, true, true, true, false] rfl rfl (one_of HT_.out (by kernel_rfl)) (by decide) (fun K hK => ?_)
        obtain ⟨z0, f0, z1, f1, z2, f2, z3, f3, k4⟩ := put4c (.int .i64 k2) (.int .i64 s2) (.slice X2A im2.length x2c) (.slice Y2A os2.length y2c) TT.out
        have hge : w.heap.size ≤ b2M := by have := HX69.out.ge; have := LT.out; omega
        have HX70 := Aside0.mk (B4.set (B4.set (B4.set (B4.set HX69.out (k := 0) (show b ≠ b2M by have := LT.out; omega) hge (.int .i64 k2)) (k := 1) (show b ≠ b2M by have := LT.out; omega) hge (.int .i64 s2)) (k := 2) (show b ≠ b2M by have := LT.out; omega) hge (.slice X2A im2.length x2c)) (k := 3) (show b ≠ b2M by have := LT.out; omega) hge (.slice Y2A os2.length y2c))
        have HY70 := Aside0.mk (B4.set (B4.set (B4.set (B4.set HY69.out (k := 0) (show b + 1 ≠ b2M by have := LT.out; omega) hge (.int .i64 k2)) (k := 1) (show b + 1 ≠ b2M by have := LT.out; omega) hge (.int .i64 s2)) (k := 2) (show b + 1 ≠ b2M by have := LT.out; omega) hge (.slice X2A im2.length x2c)) (k := 3) (show b + 1 ≠ b2M by have := LT.out; omega) hge (.slice Y2A os2.length y2c))
        have HZ70 := Aside0.mk (B4.set (B4.set (B4.set (B4.set HZ69.out (k := 0) (show b + 2 ≠ b2M by have := LT.out; omega) hge (.int .i64 k2)) (k := 1) (show b + 2 ≠ b2M by have := LT.out; omega) hge (.int .i64 s2)) (k := 2) (show b + 2 ≠ b2M by have := LT.out; omega) hge (.slice X2A im2.length x2c)) (k := 3) (show b + 2 ≠ b2M by have := LT.out; omega) hge (.slice Y2A os2.length y2c))
        have HM070 := Aside0.mk (B4.set (B4.set (B4.set (B4.set HM069.out (k := 0) (show b0M ≠ b2M by have := LT.out; omega) hge (.int .i64 k2)) (k := 1) (show b0M ≠ b2M by have := LT.out; omega) hge (.int .i64 s2)) (k := 2) (show b0M ≠ b2M by have := LT.out; omega) hge (.slice X2A im2.length x2c)) (k := 3) (show b0M ≠ b2M by have := LT.out; omega) hge (.slice Y2A os2.length y2c))
        have HM170 := Aside0.mk (B4.set (B4.set (B4.set (B4.set HM169.out (k := 0) (show b1M ≠ b2M by have := LT.out; omega) hge (.int .i64 k2)) (k := 1) (show b1M ≠ b2M by have := LT.out; omega) hge (.int .i64 s2)) (k := 2) (show b1M ≠ b2M by have := LT.out; omega) hge (.slice X2A im2.length x2c)) (k := 3) (show b1M ≠ b2M by have := LT.out; omega) hge (.slice Y2A os2.length y2c))
        have far : ∀ j, j ≠ b2M → ((((w69.setCell ⟨b2M, 0, none⟩ (.int .i64 k2)).setCell ⟨b2M, 1, none⟩ (.int .i64 s2)).setCell ⟨b2M, 2, none⟩ (.slice X2A im2.length x2c)).setCell ⟨b2M, 3, none⟩ (.slice Y2A os2.length y2c)).heap[j]? = w69.heap[j]? := fun j hj => far4 hj
        have NX70 := Aside0.mk (AP.far NX69.out far)
        have NY70 := Aside0.mk (AP.far NY69.out far)
        have NZ70 := Aside0.mk (AP.far NZ69.out far)
        have NM070 := Aside0.mk (AP.far NM069.out far)
        have NM170 := Aside0.mk (AP.far NM169.out far)
        have NM270 := Aside0.mk (AP.far NNew.out far)
        have HM270 := Aside0.mk (show B4 w b2M 27 (.int .i64 k2) (.int .i64 s2) (.slice X2A im2.length x2c) (.slice Y2A os2.length y2c) ((((w69.setCell ⟨b2M, 0, none⟩ (.int .i64 k2)).setCell ⟨b2M, 1, none⟩ (.int .i64 s2)).setCell ⟨b2M, 2, none⟩ (.slice X2A im2.length x2c)).setCell ⟨b2M, 3, none⟩ (.slice Y2A os2.length y2c)) from ⟨HX70.out.below, k4, hge⟩)
        clear k4 far hge TT LT NNew HX69 HY69 HZ69 HM069 HM169 NX69 NY69 NZ69 NM069 NM169
        refine skip_ (w1 := (((w69.setCell ⟨b2M, 0, none⟩ (.int .i64 k2)).setCell ⟨b2M, 1, none⟩ (.int .i64 s2)).setCell ⟨b2M, 2, none⟩ (.slice X2A im2.length x2c)).setCell ⟨b2M, 3, none⟩ (.slice Y2A os2.length y2c)) (by rfl) rfl (by first | (go_simp; done) | (go_simp; rfl)) ?_
        refine hK.out _ _ ?_
        clear hK K z0 f0 z1 f1 z2 f2 z3 f3
        refine last_ (i := 9) (N := some 13) #[true, true, true, true, true, true, true, true, true, true] rfl rfl (one_of HT_.out (by kernel_rfl)) (by decide) (fun K hK => ?_)
        refine value_ (v := .int .i64 r2) (w1 := (((w69.setCell ⟨b2M, 0, none⟩ (.int .i64 k2)).setCell ⟨b2M, 1, none⟩ (.int .i64 s2)).setCell ⟨b2M, 2, none⟩ (.slice X2A im2.length x2c)).setCell ⟨b2M, 3, none⟩ (.slice Y2A os2.length y2c)) (by rfl) rfl (by first | (go_simp; done) | (go_simp; rfl)) ?_
        refine hK.out _ _ ?_
        clear hK K
        refine done_ (done_of HT_.out (by kernel_rfl)) ?_
        clear HT_ HW_ hHeld
        generalize (((w69.setCell ⟨b2M, 0, none⟩ (.int .i64 k2)).setCell ⟨b2M, 1, none⟩ (.int .i64 s2)).setCell ⟨b2M, 2, none⟩ (.slice X2A im2.length x2c)).setCell ⟨b2M, 3, none⟩ (.slice Y2A os2.length y2c) = w70 at *
        have xX0 := HX70.out.x0; have xX1 := HX70.out.x1; have xX2 := HX70.out.x2; have xX3 := HX70.out.x3; have xY0 := HY70.out.x0; have xY1 := HY70.out.x1; have xY2 := HY70.out.x2; have xY3 := HY70.out.x3; have xZ0 := HZ70.out.x0; have xZ1 := HZ70.out.x1; have xZ2 := HZ70.out.x2; have xZ3 := HZ70.out.x3; have xM00 := HM070.out.x0; have xM01 := HM070.out.x1; have xM02 := HM070.out.x2; have xM03 := HM070.out.x3; have xM10 := HM170.out.x0; have xM11 := HM170.out.x1; have xM12 := HM170.out.x2; have xM13 := HM170.out.x3; have xM20 := HM270.out.x0; have xM21 := HM270.out.x1; have xM22 := HM270.out.x2; have xM23 := HM270.out.x3
        go_upto_region 7 with (fail)
        have hb : Below w70.heap.size w70 w70.drew := (Below.refl _ _).drew
        clear xX0 xX1 xX2 xX3 xY0 xY1 xY2 xY3 xZ0 xZ1 xZ2 xZ3 xM00 xM01 xM02 xM03 xM10 xM11 xM12 xM13 xM20 xM21 xM22 xM23
        have HX71 := Aside0.mk (HX70.out.next hb)
        have HY71 := Aside0.mk (HY70.out.next hb)
        have HZ71 := Aside0.mk (HZ70.out.next hb)
        have HM071 := Aside0.mk (HM070.out.next hb)
        have HM171 := Aside0.mk (HM170.out.next hb)
        have HM271 := Aside0.mk (HM270.out.next hb)
        have NX71 := Aside0.mk (NX70.out.below hb)
        have NY71 := Aside0.mk (NY70.out.below hb)
        have NZ71 := Aside0.mk (NZ70.out.below hb)
        have NM071 := Aside0.mk (NM070.out.below hb)
        have NM171 := Aside0.mk (NM170.out.below hb)
        have NM271 := Aside0.mk (NM270.out.below hb)
        clear hb HX70 HY70 HZ70 HM070 HM170 HM270 NX70 NY70 NZ70 NM070 NM170 NM270
        refine start_ (n := 10) (S := fun w' => w'.cell? ⟨b, 0, none⟩ = some (.int .i64 ak) ∧ w'.cell? ⟨b, 1, none⟩ = some (.int .i64 as_) ∧ w'.cell? ⟨b, 2, none⟩ = some (.slice A2 ai.length c2) ∧ w'.cell? ⟨b, 3, none⟩ = some (.slice A3 ao.length c3) ∧ w'.cell? ⟨b1M, 0, none⟩ = some (.int .i64 k1) ∧ w'.cell? ⟨b1M, 1, none⟩ = some (.int .i64 s1) ∧ w'.cell? ⟨b1M, 2, none⟩ = some (.slice X1A im1.length x1c) ∧ w'.cell? ⟨b1M, 3, none⟩ = some (.slice Y1A os1.length y1c)) (ds := [8, 9]) #[false, false, false, false, false, false, false, false, false, false] rfl rfl rfl ⟨HX71.out.x0, HX71.out.x1, HX71.out.x2, HX71.out.x3, HM171.out.x0, HM171.out.x1, HM171.out.x2, HM171.out.x3⟩ (fun hHeld => ?_)
        refine with_tabW regO7.tab regO7.bits (fun HT_ HW_ => ?_)
        generalize w70.drew = w71 at *
        clear w70
        refine tz_ 0 55 HT_ HW_ hHeld ?_
        refine tz_ 2 57 HT_ HW_ hHeld ?_
        refine join_ (σ := (Option Addr × Nat) × (Option Addr × Nat) × Nat) 2 #[true, true, true, true, true, true, true, true, false, false] (fun q => [(56, .agg #[.int .i64 ak, .int .i64 as_, .slice A2 ai.length c2, .slice A3 ao.length c3]), (58, .tuple #[.agg #[.int .i64 k3, .int .i64 s3, .slice q.1.1 im3.length q.1.2, .slice q.2.1.1 os3.length q.2.1.2], .int .i64 r3]), (54, .tuple #[.agg #[.int .i64 k3, .int .i64 s3, .slice q.1.1 im3.length q.1.2, .slice q.2.1.1 os3.length q.2.1.2], .int .i64 r3]), (59, .agg #[.int .i64 k3, .int .i64 s3, .slice q.1.1 im3.length q.1.2, .slice q.2.1.1 os3.length q.2.1.2]), (60, .int .i64 r3), (14, .pointer (some ⟨q.2.2, 0, none⟩))]) (fun q w' => Aside0 (B4 w (b) 32 (.int .i64 ak) (.int .i64 as_) (.slice A2 ai.length c2) (.slice A3 ao.length c3) w') ∧ Aside0 (B4 w (b + 1) 32 (.int .i64 bk) (.int .i64 bs) (.slice B2 bi.length d2) (.slice B3 bo.length d3) w') ∧ Aside0 (B4 w (b + 2) 32 (.int .i64 ck) (.int .i64 cs_) (.slice C2 ci.length e2) (.slice C3 co.length e3) w') ∧ Aside0 (B4 w (b0M) 27 (.int .i64 k0) (.int .i64 s0) (.slice X0A im0.length x0c) (.slice Y0A os0.length y0c) w') ∧ Aside0 (B4 w (b1M) 27 (.int .i64 k1) (.int .i64 s1) (.slice X1A im1.length x1c) (.slice Y1A os1.length y1c) w') ∧ Aside0 (B4 w (b2M) 27 (.int .i64 k2) (.int .i64 s2) (.slice X2A im2.length x2c) (.slice Y2A os2.length y2c) w') ∧ Aside0 (AP q.2.2 w' A2 c2 ai A3 c3 ao) ∧ Aside0 (AP q.2.2 w' B2 d2 bi B3 d3 bo) ∧ Aside0 (AP q.2.2 w' C2 e2 ci C3 e3 co) ∧ Aside0 (AP q.2.2 w' X0A x0c im0 Y0A y0c os0) ∧ Aside0 (AP q.2.2 w' X1A x1c im1 Y1A y1c os1) ∧ Aside0 (AP q.2.2 w' X2A x2c im2 Y2A y2c os2) ∧ Aside0 (AP q.2.2 w' q.1.1 q.1.2 im3 q.2.1.1 q.2.1.2 os3) ∧ Aside0 (w'.heap[q.2.2]? = some (.cells #[.int .i64 0, .int .i64 0, .slice none 0 0, .slice none 0 0] 27 (0, 0))) ∧ Aside0 (b < q.2.2 ∧ b + 1 < q.2.2 ∧ b + 2 < q.2.2 ∧ b0M < q.2.2 ∧ b1M < q.2.2 ∧ b2M < q.2.2)) ?hcont ?hord
        case hord =>
          intro JN
          have JNN := Aside0.mk JN
          clear JN
          refine two_ (i := 1) (j := 7) (Ni := some 56) (Nj := some 14) #[true, true, true, false, false, false, false, false, false, false] #[true, false, true, false, false, false, false, true, false, false] rfl rfl rfl rfl (two_of HT_.out (by kernel_rfl)) (by decide) (by decide) (fun K hK => ?_) (fun K hK => ?_)
          · refine goes_ Try.func16 (by kernel_rfl) rfl #[.agg #[.int .i64 ak, .int .i64 as_, .slice A2 ai.length c2, .slice A3 ao.length c3]] (by rfl) rfl rfl ma_ ?_
            refine (ours_c NX71.out.nc ak as_).mono ?_
            rintro e v72w ⟨rfl, hb⟩
            refine ⟨_, rfl, ?_⟩
            have HX72 := Aside0.mk (HX71.out.next hb)
            have HY72 := Aside0.mk (HY71.out.next hb)
            have HZ72 := Aside0.mk (HZ71.out.next hb)
            have HM072 := Aside0.mk (HM071.out.next hb)
            have HM172 := Aside0.mk (HM171.out.next hb)
            have HM272 := Aside0.mk (HM271.out.next hb)
            have NX72 := Aside0.mk (NX71.out.below hb)
            have NY72 := Aside0.mk (NY71.out.below hb)
            have NZ72 := Aside0.mk (NZ71.out.below hb)
            have NM072 := Aside0.mk (NM071.out.below hb)
            have NM172 := Aside0.mk (NM171.out.below hb)
            have NM272 := Aside0.mk (NM271.out.below hb)
            clear hb HX71 HY71 HZ71 HM071 HM171 HM271 NX71 NY71 NZ71 NM071 NM171 NM271
            refine hK.out _ _ ⟨HX72.out.x0, HX72.out.x1, HX72.out.x2, HX72.out.x3, HM172.out.x0, HM172.out.x1, HM172.out.x2, HM172.out.x3⟩ (fun hHeld => ?_)
            clear hK K
            refine two_ (i := 3) (j := 7) (Ni := some 58) (Nj := some 14) #[true, true, true, true, false, false, false, false, false, false] #[true, true, true, false, false, false, false, true, false, false] rfl rfl rfl rfl (two_of HT_.out (by kernel_rfl)) (by decide) (by decide) (fun K hK => ?_) (fun K hK => ?_)
            · refine goes_ Try.func18 (by kernel_rfl) rfl #[.agg #[.int .i64 ak, .int .i64 as_, .slice A2 ai.length c2, .slice A3 ao.length c3], .agg #[.int .i64 k1, .int .i64 s1, .slice X1A im1.length x1c, .slice Y1A os1.length y1c]] (by rfl) rfl rfl ma_ ?_
              refine (merge_nf NX72.out NM172.out ak as_ k1 s1 (by have := HL.out; omega) (im := im3) (os := os3) k3 s3 r3 HM3.out).mono ?_
              rintro e v73w ⟨XA, xc, YA, yc, rfl, hn, hb⟩
              refine ⟨_, rfl, ?_⟩
              have HX73 := Aside0.mk (HX72.out.next hb)
              have HY73 := Aside0.mk (HY72.out.next hb)
              have HZ73 := Aside0.mk (HZ72.out.next hb)
              have HM073 := Aside0.mk (HM072.out.next hb)
              have HM173 := Aside0.mk (HM172.out.next hb)
              have HM273 := Aside0.mk (HM272.out.next hb)
              have NX73 := Aside0.mk (NX72.out.below hb)
              have NY73 := Aside0.mk (NY72.out.below hb)
              have NZ73 := Aside0.mk (NZ72.out.below hb)
              have NM073 := Aside0.mk (NM072.out.below hb)
              have NM173 := Aside0.mk (NM172.out.below hb)
              have NM273 := Aside0.mk (NM272.out.below hb)
              clear hb HX72 HY72 HZ72 HM072 HM172 HM272 NX72 NY72 NZ72 NM072 NM172 NM272
              have NNew73 := Aside0.mk hn
              refine hK.out _ _ ⟨HX73.out.x0, HX73.out.x1, HX73.out.x2, HX73.out.x3, HM173.out.x0, HM173.out.x1, HM173.out.x2, HM173.out.x3⟩ (fun hHeld => ?_)
              clear hK K
              refine pz_ 4 54 HT_ ?_
              refine pz_ 5 59 HT_ ?_
              refine pz_ 6 60 HT_ ?_
              refine oz_ 7 14 HT_ (fun K hK => ?_)
              refine value_ (by rfl) rfl (v := .pointer (some ⟨v73w.heap.size, 0, none⟩)) (w1 := v73w.alloc (.cells #[.int .i64 0, .int .i64 0, .slice none 0 0, .slice none 0 0] 27)) (by first | (go_simp; done) | (go_simp; rfl)) ?_
              have hb : Below v73w.heap.size v73w (v73w.alloc (.cells #[.int .i64 0, .int .i64 0, .slice none 0 0, .slice none 0 0] 27)) := (Below.refl _ _).alloc (Nat.le_refl _) _
              have hx := blk_new v73w (.cells #[.int .i64 0, .int .i64 0, .slice none 0 0, .slice none 0 0] 27)
              have hl0 := blk_lt HX73.out.at_
              have hl1 := blk_lt HY73.out.at_
              have hl2 := blk_lt HZ73.out.at_
              have hl3 := blk_lt HM073.out.at_
              have hl4 := blk_lt HM173.out.at_
              have hl5 := blk_lt HM273.out.at_
              obtain ⟨bM, hbM⟩ : ∃ bM, v73w.heap.size = bM := ⟨_, rfl⟩
              rw [hbM] at hx hl0 hl1 hl2 hl3 hl4 hl5
              rw [hbM]
              have hle := Nat.le_of_eq hbM
              clear hbM
              generalize v73w.alloc (.cells #[.int .i64 0, .int .i64 0, .slice none 0 0, .slice none 0 0] 27) = v74w at *
              have LT := Aside0.mk (show b < bM ∧ b + 1 < bM ∧ b + 2 < bM ∧ b0M < bM ∧ b1M < bM ∧ b2M < bM from ⟨hl0, hl1, hl2, hl3, hl4, hl5⟩)
              clear hl0 hl1 hl2 hl3 hl4 hl5
              have HX74 := Aside0.mk (HX73.out.next hb)
              have HY74 := Aside0.mk (HY73.out.next hb)
              have HZ74 := Aside0.mk (HZ73.out.next hb)
              have HM074 := Aside0.mk (HM073.out.next hb)
              have HM174 := Aside0.mk (HM173.out.next hb)
              have HM274 := Aside0.mk (HM273.out.next hb)
              have NX74 := Aside0.mk ((NF.ap NX73.out (b := bM) hle).below hb)
              have NY74 := Aside0.mk ((NF.ap NY73.out (b := bM) hle).below hb)
              have NZ74 := Aside0.mk ((NF.ap NZ73.out (b := bM) hle).below hb)
              have NM074 := Aside0.mk ((NF.ap NM073.out (b := bM) hle).below hb)
              have NM174 := Aside0.mk ((NF.ap NM173.out (b := bM) hle).below hb)
              have NM274 := Aside0.mk ((NF.ap NM273.out (b := bM) hle).below hb)
              have NNew74 := Aside0.mk ((NF.ap NNew73.out (b := bM) hle).below hb)
              clear hb HX73 HY73 HZ73 HM073 HM173 HM273 NX73 NY73 NZ73 NM073 NM173 NM273 hle
              have TT74 := Aside0.mk hx
              refine hK.out _ _ ⟨HX74.out.x0, HX74.out.x1, HX74.out.x2, HX74.out.x3, HM174.out.x0, HM174.out.x1, HM174.out.x2, HM174.out.x3⟩ (fun hHeld => ?_)
              clear hK K
              exact norm_ pu_ (JNN.out ((XA, xc), (YA, yc), bM) _ ⟨HX74, HY74, HZ74, HM074, HM174, HM274, NX74, NY74, NZ74, NM074, NM174, NM274, NNew74, TT74, LT⟩)
            · refine value_ (by rfl) rfl (v := .pointer (some ⟨v72w.heap.size, 0, none⟩)) (w1 := v72w.alloc (.cells #[.int .i64 0, .int .i64 0, .slice none 0 0, .slice none 0 0] 27)) (by first | (go_simp; done) | (go_simp; rfl)) ?_
              have hb : Below v72w.heap.size v72w (v72w.alloc (.cells #[.int .i64 0, .int .i64 0, .slice none 0 0, .slice none 0 0] 27)) := (Below.refl _ _).alloc (Nat.le_refl _) _
              have hx := blk_new v72w (.cells #[.int .i64 0, .int .i64 0, .slice none 0 0, .slice none 0 0] 27)
              have hl0 := blk_lt HX72.out.at_
              have hl1 := blk_lt HY72.out.at_
              have hl2 := blk_lt HZ72.out.at_
              have hl3 := blk_lt HM072.out.at_
              have hl4 := blk_lt HM172.out.at_
              have hl5 := blk_lt HM272.out.at_
              obtain ⟨bM, hbM⟩ : ∃ bM, v72w.heap.size = bM := ⟨_, rfl⟩
              rw [hbM] at hx hl0 hl1 hl2 hl3 hl4 hl5
              rw [hbM]
              have hle := Nat.le_of_eq hbM
              clear hbM
              generalize v72w.alloc (.cells #[.int .i64 0, .int .i64 0, .slice none 0 0, .slice none 0 0] 27) = v75w at *
              have LT := Aside0.mk (show b < bM ∧ b + 1 < bM ∧ b + 2 < bM ∧ b0M < bM ∧ b1M < bM ∧ b2M < bM from ⟨hl0, hl1, hl2, hl3, hl4, hl5⟩)
              clear hl0 hl1 hl2 hl3 hl4 hl5
              have HX73 := Aside0.mk (HX72.out.next hb)
              have HY73 := Aside0.mk (HY72.out.next hb)
              have HZ73 := Aside0.mk (HZ72.out.next hb)
              have HM073 := Aside0.mk (HM072.out.next hb)
              have HM173 := Aside0.mk (HM172.out.next hb)
              have HM273 := Aside0.mk (HM272.out.next hb)
              have NX73 := Aside0.mk ((NF.ap NX72.out (b := bM) hle).below hb)
              have NY73 := Aside0.mk ((NF.ap NY72.out (b := bM) hle).below hb)
              have NZ73 := Aside0.mk ((NF.ap NZ72.out (b := bM) hle).below hb)
              have NM073 := Aside0.mk ((NF.ap NM072.out (b := bM) hle).below hb)
              have NM173 := Aside0.mk ((NF.ap NM172.out (b := bM) hle).below hb)
              have NM273 := Aside0.mk ((NF.ap NM272.out (b := bM) hle).below hb)
              clear hb HX72 HY72 HZ72 HM072 HM172 HM272 NX72 NY72 NZ72 NM072 NM172 NM272 hle
              have TT73 := Aside0.mk hx
              refine hK.out _ _ ⟨HX73.out.x0, HX73.out.x1, HX73.out.x2, HX73.out.x3, HM173.out.x0, HM173.out.x1, HM173.out.x2, HM173.out.x3⟩ (fun hHeld => ?_)
              clear hK K
              refine oz_ 3 58 HT_ (fun K hK => ?_)
              refine goes_ Try.func18 (by kernel_rfl) rfl #[.agg #[.int .i64 ak, .int .i64 as_, .slice A2 ai.length c2, .slice A3 ao.length c3], .agg #[.int .i64 k1, .int .i64 s1, .slice X1A im1.length x1c, .slice Y1A os1.length y1c]] (by rfl) rfl rfl ma_ ?_
              refine (merge_ap NX73.out NM173.out (blk_lt TT73.out) ak as_ k1 s1 (by have := HL.out; omega) (im := im3) (os := os3) k3 s3 r3 HM3.out).mono ?_
              rintro e v76w ⟨XA, xc, YA, yc, rfl, hn, hb⟩
              refine ⟨_, rfl, ?_⟩
              have HX74 := Aside0.mk (HX73.out.next hb)
              have HY74 := Aside0.mk (HY73.out.next hb)
              have HZ74 := Aside0.mk (HZ73.out.next hb)
              have HM074 := Aside0.mk (HM073.out.next hb)
              have HM174 := Aside0.mk (HM173.out.next hb)
              have HM274 := Aside0.mk (HM273.out.next hb)
              have NX74 := Aside0.mk (NX73.out.below hb)
              have NY74 := Aside0.mk (NY73.out.below hb)
              have NZ74 := Aside0.mk (NZ73.out.below hb)
              have NM074 := Aside0.mk (NM073.out.below hb)
              have NM174 := Aside0.mk (NM173.out.below hb)
              have NM274 := Aside0.mk (NM273.out.below hb)
              have TT74 := Aside0.mk (blk_below TT73.out hb)
              clear hb HX73 HY73 HZ73 HM073 HM173 HM273 NX73 NY73 NZ73 NM073 NM173 NM273
              have NNew74 := Aside0.mk hn
              refine hK.out _ _ ⟨HX74.out.x0, HX74.out.x1, HX74.out.x2, HX74.out.x3, HM174.out.x0, HM174.out.x1, HM174.out.x2, HM174.out.x3⟩ (fun hHeld => ?_)
              clear hK K
              refine pz_ 4 54 HT_ ?_
              refine pz_ 5 59 HT_ ?_
              refine pz_ 6 60 HT_ ?_
              exact norm_ pu_ (JNN.out ((XA, xc), (YA, yc), bM) _ ⟨HX74, HY74, HZ74, HM074, HM174, HM274, NX74, NY74, NZ74, NM074, NM174, NM274, NNew74, TT74, LT⟩)
          · refine value_ (by rfl) rfl (v := .pointer (some ⟨w71.heap.size, 0, none⟩)) (w1 := w71.alloc (.cells #[.int .i64 0, .int .i64 0, .slice none 0 0, .slice none 0 0] 27)) (by first | (go_simp; done) | (go_simp; rfl)) ?_
            have hb : Below w71.heap.size w71 (w71.alloc (.cells #[.int .i64 0, .int .i64 0, .slice none 0 0, .slice none 0 0] 27)) := (Below.refl _ _).alloc (Nat.le_refl _) _
            have hx := blk_new w71 (.cells #[.int .i64 0, .int .i64 0, .slice none 0 0, .slice none 0 0] 27)
            have hl0 := blk_lt HX71.out.at_
            have hl1 := blk_lt HY71.out.at_
            have hl2 := blk_lt HZ71.out.at_
            have hl3 := blk_lt HM071.out.at_
            have hl4 := blk_lt HM171.out.at_
            have hl5 := blk_lt HM271.out.at_
            obtain ⟨bM, hbM⟩ : ∃ bM, w71.heap.size = bM := ⟨_, rfl⟩
            rw [hbM] at hx hl0 hl1 hl2 hl3 hl4 hl5
            rw [hbM]
            have hle := Nat.le_of_eq hbM
            clear hbM
            generalize w71.alloc (.cells #[.int .i64 0, .int .i64 0, .slice none 0 0, .slice none 0 0] 27) = v77w at *
            have LT := Aside0.mk (show b < bM ∧ b + 1 < bM ∧ b + 2 < bM ∧ b0M < bM ∧ b1M < bM ∧ b2M < bM from ⟨hl0, hl1, hl2, hl3, hl4, hl5⟩)
            clear hl0 hl1 hl2 hl3 hl4 hl5
            have HX72 := Aside0.mk (HX71.out.next hb)
            have HY72 := Aside0.mk (HY71.out.next hb)
            have HZ72 := Aside0.mk (HZ71.out.next hb)
            have HM072 := Aside0.mk (HM071.out.next hb)
            have HM172 := Aside0.mk (HM171.out.next hb)
            have HM272 := Aside0.mk (HM271.out.next hb)
            have NX72 := Aside0.mk ((NF.ap NX71.out (b := bM) hle).below hb)
            have NY72 := Aside0.mk ((NF.ap NY71.out (b := bM) hle).below hb)
            have NZ72 := Aside0.mk ((NF.ap NZ71.out (b := bM) hle).below hb)
            have NM072 := Aside0.mk ((NF.ap NM071.out (b := bM) hle).below hb)
            have NM172 := Aside0.mk ((NF.ap NM171.out (b := bM) hle).below hb)
            have NM272 := Aside0.mk ((NF.ap NM271.out (b := bM) hle).below hb)
            clear hb HX71 HY71 HZ71 HM071 HM171 HM271 NX71 NY71 NZ71 NM071 NM171 NM271 hle
            have TT72 := Aside0.mk hx
            refine hK.out _ _ ⟨HX72.out.x0, HX72.out.x1, HX72.out.x2, HX72.out.x3, HM172.out.x0, HM172.out.x1, HM172.out.x2, HM172.out.x3⟩ (fun hHeld => ?_)
            clear hK K
            refine oz_ 1 56 HT_ (fun K hK => ?_)
            refine goes_ Try.func16 (by kernel_rfl) rfl #[.agg #[.int .i64 ak, .int .i64 as_, .slice A2 ai.length c2, .slice A3 ao.length c3]] (by rfl) rfl rfl ma_ ?_
            refine (ours_c NX72.out.nc ak as_).mono ?_
            rintro e v78w ⟨rfl, hb⟩
            refine ⟨_, rfl, ?_⟩
            have HX73 := Aside0.mk (HX72.out.next hb)
            have HY73 := Aside0.mk (HY72.out.next hb)
            have HZ73 := Aside0.mk (HZ72.out.next hb)
            have HM073 := Aside0.mk (HM072.out.next hb)
            have HM173 := Aside0.mk (HM172.out.next hb)
            have HM273 := Aside0.mk (HM272.out.next hb)
            have NX73 := Aside0.mk (NX72.out.below hb)
            have NY73 := Aside0.mk (NY72.out.below hb)
            have NZ73 := Aside0.mk (NZ72.out.below hb)
            have NM073 := Aside0.mk (NM072.out.below hb)
            have NM173 := Aside0.mk (NM172.out.below hb)
            have NM273 := Aside0.mk (NM272.out.below hb)
            have TT73 := Aside0.mk (blk_below TT72.out hb)
            clear hb HX72 HY72 HZ72 HM072 HM172 HM272 NX72 NY72 NZ72 NM072 NM172 NM272
            refine hK.out _ _ ⟨HX73.out.x0, HX73.out.x1, HX73.out.x2, HX73.out.x3, HM173.out.x0, HM173.out.x1, HM173.out.x2, HM173.out.x3⟩ (fun hHeld => ?_)
            clear hK K
            refine oz_ 3 58 HT_ (fun K hK => ?_)
            refine goes_ Try.func18 (by kernel_rfl) rfl #[.agg #[.int .i64 ak, .int .i64 as_, .slice A2 ai.length c2, .slice A3 ao.length c3], .agg #[.int .i64 k1, .int .i64 s1, .slice X1A im1.length x1c, .slice Y1A os1.length y1c]] (by rfl) rfl rfl ma_ ?_
            refine (merge_ap NX73.out NM173.out (blk_lt TT73.out) ak as_ k1 s1 (by have := HL.out; omega) (im := im3) (os := os3) k3 s3 r3 HM3.out).mono ?_
            rintro e v79w ⟨XA, xc, YA, yc, rfl, hn, hb⟩
            refine ⟨_, rfl, ?_⟩
            have HX74 := Aside0.mk (HX73.out.next hb)
            have HY74 := Aside0.mk (HY73.out.next hb)
            have HZ74 := Aside0.mk (HZ73.out.next hb)
            have HM074 := Aside0.mk (HM073.out.next hb)
            have HM174 := Aside0.mk (HM173.out.next hb)
            have HM274 := Aside0.mk (HM273.out.next hb)
            have NX74 := Aside0.mk (NX73.out.below hb)
            have NY74 := Aside0.mk (NY73.out.below hb)
            have NZ74 := Aside0.mk (NZ73.out.below hb)
            have NM074 := Aside0.mk (NM073.out.below hb)
            have NM174 := Aside0.mk (NM173.out.below hb)
            have NM274 := Aside0.mk (NM273.out.below hb)
            have TT74 := Aside0.mk (blk_below TT73.out hb)
            clear hb HX73 HY73 HZ73 HM073 HM173 HM273 NX73 NY73 NZ73 NM073 NM173 NM273
            have NNew74 := Aside0.mk hn
            refine hK.out _ _ ⟨HX74.out.x0, HX74.out.x1, HX74.out.x2, HX74.out.x3, HM174.out.x0, HM174.out.x1, HM174.out.x2, HM174.out.x3⟩ (fun hHeld => ?_)
            clear hK K
            refine pz_ 4 54 HT_ ?_
            refine pz_ 5 59 HT_ ?_
            refine pz_ 6 60 HT_ ?_
            exact norm_ pu_ (JNN.out ((XA, xc), (YA, yc), bM) _ ⟨HX74, HY74, HZ74, HM074, HM174, HM274, NX74, NY74, NZ74, NM074, NM174, NM274, NNew74, TT74, LT⟩)
        case hcont =>
          rintro ⟨⟨X3A, x3c⟩, ⟨Y3A, y3c⟩, b3M⟩ w91 ⟨HX91, HY91, HZ91, HM091, HM191, HM291, NX91, NY91, NZ91, NM091, NM191, NM291, NNew, TT, LT⟩
          simp only at NNew TT LT
          refine norm_ (a' := ?_) ?_ ?_
          rotate_left
          · simp only [putAll, Act.put, List.setIfInBounds_toArray, List.set_cons_zero, List.set_cons_succ]; rfl
          clear HX71 HY71 HZ71 HM071 HM171 HM271 NX71 NY71 NZ71 NM071 NM171 NM271
          refine last_ (i := 8) (N := none) #[true, true, true, true, true, true, true, true, true, false] rfl rfl (one_of HT_.out (by kernel_rfl)) (by decide) (fun K hK => ?_)
          obtain ⟨z0, f0, z1, f1, z2, f2, z3, f3, k4⟩ := put4c (.int .i64 k3) (.int .i64 s3) (.slice X3A im3.length x3c) (.slice Y3A os3.length y3c) TT.out
          have hge : w.heap.size ≤ b3M := by have := HX91.out.ge; have := LT.out; omega
          have HX92 := Aside0.mk (B4.set (B4.set (B4.set (B4.set HX91.out (k := 0) (show b ≠ b3M by have := LT.out; omega) hge (.int .i64 k3)) (k := 1) (show b ≠ b3M by have := LT.out; omega) hge (.int .i64 s3)) (k := 2) (show b ≠ b3M by have := LT.out; omega) hge (.slice X3A im3.length x3c)) (k := 3) (show b ≠ b3M by have := LT.out; omega) hge (.slice Y3A os3.length y3c))
          have HY92 := Aside0.mk (B4.set (B4.set (B4.set (B4.set HY91.out (k := 0) (show b + 1 ≠ b3M by have := LT.out; omega) hge (.int .i64 k3)) (k := 1) (show b + 1 ≠ b3M by have := LT.out; omega) hge (.int .i64 s3)) (k := 2) (show b + 1 ≠ b3M by have := LT.out; omega) hge (.slice X3A im3.length x3c)) (k := 3) (show b + 1 ≠ b3M by have := LT.out; omega) hge (.slice Y3A os3.length y3c))
          have HZ92 := Aside0.mk (B4.set (B4.set (B4.set (B4.set HZ91.out (k := 0) (show b + 2 ≠ b3M by have := LT.out; omega) hge (.int .i64 k3)) (k := 1) (show b + 2 ≠ b3M by have := LT.out; omega) hge (.int .i64 s3)) (k := 2) (show b + 2 ≠ b3M by have := LT.out; omega) hge (.slice X3A im3.length x3c)) (k := 3) (show b + 2 ≠ b3M by have := LT.out; omega) hge (.slice Y3A os3.length y3c))
          have HM092 := Aside0.mk (B4.set (B4.set (B4.set (B4.set HM091.out (k := 0) (show b0M ≠ b3M by have := LT.out; omega) hge (.int .i64 k3)) (k := 1) (show b0M ≠ b3M by have := LT.out; omega) hge (.int .i64 s3)) (k := 2) (show b0M ≠ b3M by have := LT.out; omega) hge (.slice X3A im3.length x3c)) (k := 3) (show b0M ≠ b3M by have := LT.out; omega) hge (.slice Y3A os3.length y3c))
          have HM192 := Aside0.mk (B4.set (B4.set (B4.set (B4.set HM191.out (k := 0) (show b1M ≠ b3M by have := LT.out; omega) hge (.int .i64 k3)) (k := 1) (show b1M ≠ b3M by have := LT.out; omega) hge (.int .i64 s3)) (k := 2) (show b1M ≠ b3M by have := LT.out; omega) hge (.slice X3A im3.length x3c)) (k := 3) (show b1M ≠ b3M by have := LT.out; omega) hge (.slice Y3A os3.length y3c))
          have HM292 := Aside0.mk (B4.set (B4.set (B4.set (B4.set HM291.out (k := 0) (show b2M ≠ b3M by have := LT.out; omega) hge (.int .i64 k3)) (k := 1) (show b2M ≠ b3M by have := LT.out; omega) hge (.int .i64 s3)) (k := 2) (show b2M ≠ b3M by have := LT.out; omega) hge (.slice X3A im3.length x3c)) (k := 3) (show b2M ≠ b3M by have := LT.out; omega) hge (.slice Y3A os3.length y3c))
          have far : ∀ j, j ≠ b3M → ((((w91.setCell ⟨b3M, 0, none⟩ (.int .i64 k3)).setCell ⟨b3M, 1, none⟩ (.int .i64 s3)).setCell ⟨b3M, 2, none⟩ (.slice X3A im3.length x3c)).setCell ⟨b3M, 3, none⟩ (.slice Y3A os3.length y3c)).heap[j]? = w91.heap[j]? := fun j hj => far4 hj
          have NX92 := Aside0.mk (AP.far NX91.out far)
          have NY92 := Aside0.mk (AP.far NY91.out far)
          have NZ92 := Aside0.mk (AP.far NZ91.out far)
          have NM092 := Aside0.mk (AP.far NM091.out far)
          have NM192 := Aside0.mk (AP.far NM191.out far)
          have NM292 := Aside0.mk (AP.far NM291.out far)
          have NM392 := Aside0.mk (AP.far NNew.out far)
          have HM392 := Aside0.mk (show B4 w b3M 27 (.int .i64 k3) (.int .i64 s3) (.slice X3A im3.length x3c) (.slice Y3A os3.length y3c) ((((w91.setCell ⟨b3M, 0, none⟩ (.int .i64 k3)).setCell ⟨b3M, 1, none⟩ (.int .i64 s3)).setCell ⟨b3M, 2, none⟩ (.slice X3A im3.length x3c)).setCell ⟨b3M, 3, none⟩ (.slice Y3A os3.length y3c)) from ⟨HX92.out.below, k4, hge⟩)
          clear k4 far hge TT LT NNew HX91 HY91 HZ91 HM091 HM191 HM291 NX91 NY91 NZ91 NM091 NM191 NM291
          refine skip_ (w1 := (((w91.setCell ⟨b3M, 0, none⟩ (.int .i64 k3)).setCell ⟨b3M, 1, none⟩ (.int .i64 s3)).setCell ⟨b3M, 2, none⟩ (.slice X3A im3.length x3c)).setCell ⟨b3M, 3, none⟩ (.slice Y3A os3.length y3c)) (by rfl) rfl (by first | (go_simp; done) | (go_simp; rfl)) ?_
          refine hK.out _ _ ?_
          clear hK K z0 f0 z1 f1 z2 f2 z3 f3
          refine last_ (i := 9) (N := some 15) #[true, true, true, true, true, true, true, true, true, true] rfl rfl (one_of HT_.out (by kernel_rfl)) (by decide) (fun K hK => ?_)
          refine value_ (v := .int .i64 r3) (w1 := (((w91.setCell ⟨b3M, 0, none⟩ (.int .i64 k3)).setCell ⟨b3M, 1, none⟩ (.int .i64 s3)).setCell ⟨b3M, 2, none⟩ (.slice X3A im3.length x3c)).setCell ⟨b3M, 3, none⟩ (.slice Y3A os3.length y3c)) (by rfl) rfl (by first | (go_simp; done) | (go_simp; rfl)) ?_
          refine hK.out _ _ ?_
          clear hK K
          refine done_ (done_of HT_.out (by kernel_rfl)) ?_
          clear HT_ HW_ hHeld
          generalize (((w91.setCell ⟨b3M, 0, none⟩ (.int .i64 k3)).setCell ⟨b3M, 1, none⟩ (.int .i64 s3)).setCell ⟨b3M, 2, none⟩ (.slice X3A im3.length x3c)).setCell ⟨b3M, 3, none⟩ (.slice Y3A os3.length y3c) = w92 at *
          by_cases hz : r0 = 0
          · have v1 : (r0 == 0) = true := by simpa using hz
            have v2 : (r0 != 0) = false := by simpa using hz
            have hr1 : r1 ≠ 0 := by rcases hr with hr | hr; exact absurd hz hr; exact hr
            have v3 : (r1 == 0) = false := by simpa using hr1
            have v4 : (r1 != 0) = true := by simpa using hr1
            clear hr hz hr1
            go_wp2
            go_ret
            exact ⟨rfl, HX92.out.below⟩
          · have v1 : (r0 == 0) = false := by simpa using hz
            have v2 : (r0 != 0) = true := by simpa using hz
            clear hr hz
            go_wp2
            go_ret
            exact ⟨rfl, HX92.out.below⟩
set_option maxRecDepth 100000 in
set_option maxHeartbeats 12800000 in
theorem order_ok (hna : NC w A2 c2 ai A3 c3 ao) (hnb : NC w B2 d2 bi B3 d3 bo) (hnc : NC w C2 e2 ci C3 e3 co) (hf : fewB 60 ai ao = true) (hg : fewB 60 bi bo = true) (hh : fewB 60 ci co = true) (k0 : Int) (s0 : Int) (im0 : List S44) (os0 : List S46) (k1 : Int) (s1 : Int) (im1 : List S44) (os1 : List S46) (k2 : Int) (s2 : Int) (im2 : List S44) (os2 : List S46) (r2 : Int) (h0 : mergeR ak as_ ai ao bk bs bi bo = (k0, s0, im0, os0, 0)) (h1 : mergeR bk bs bi bo ck cs_ ci co = (k1, s1, im1, os1, 0)) (h2 : mergeR k0 s0 im0 os0 ck cs_ ci co = (k2, s2, im2, os2, r2)) (h3 : mergeR ak as_ ai ao k1 s1 im1 os1 = (k2, s2, im2, os2, r2)) : OrderOk ak as_ A2 c2 ai A3 c3 ao bk bs B2 d2 bi B3 d3 bo ck cs_ C2 e2 ci C3 e3 co w := by
  have hfa := few_parts hf
  have hfb := few_parts hg
  have hfc := few_parts hh
  have hq0 := mergeR_len h0
  have hq1 := mergeR_len h1
  have hq2 := mergeR_len h2
  have hq3 := mergeR_len h3
  have HL := Aside0.mk (show ai.length ≤ 60 ∧ ao.length ≤ 60 ∧ bi.length ≤ 60 ∧ bo.length ≤ 60 ∧ ci.length ≤ 60 ∧ co.length ≤ 60 ∧ im0.length ≤ 1000 ∧ os0.length ≤ 1000 ∧ im1.length ≤ 1000 ∧ os1.length ≤ 1000 ∧ im2.length ≤ 1000 ∧ os2.length ≤ 1000 ∧ im2.length ≤ 1000 ∧ os2.length ≤ 1000 by omega)
  clear hfa hfb hfc hq0 hq1 hq2 hq3
  have HM0 := Aside0.mk h0
  have HM1 := Aside0.mk h1
  have HM2 := Aside0.mk h2
  have HM3 := Aside0.mk h3
  clear h0 h1 h2 h3
  obtain ⟨w0, hw0⟩ : ∃ w0, ((w.alloc (.cells #[.int .i64 ak, .int .i64 as_, .slice A2 ai.length c2, .slice A3 ao.length c3] 32)).alloc (.cells #[.int .i64 bk, .int .i64 bs, .slice B2 bi.length d2, .slice B3 bo.length d3] 32)).alloc (.cells #[.int .i64 ck, .int .i64 cs_, .slice C2 ci.length e2, .slice C3 co.length e3] 32) = w0 := ⟨_, rfl⟩
  obtain ⟨hX, hY, hZ⟩ := boxes3' w 32 _ _ _ _ _ _ _ _ _ _ _ _ w0 hw0
  have NX0 := Aside0.mk (hna.nf.below hX.below)
  have NY0 := Aside0.mk (hnb.nf.below hX.below)
  have NZ0 := Aside0.mk (hnc.nf.below hX.below)
  have hu := Try.underlying32
  have hu2 := Try.underlying27
  unfold OrderOk
  obtain ⟨b, hb⟩ : ∃ b, w.heap.size = b := ⟨_, rfl⟩
  rw [hb] at hX hY hZ
  have HX0 := Aside0.mk hX
  have HY0 := Aside0.mk hY
  have HZ0 := Aside0.mk hZ
  clear hX hY hZ hna hnb hnc
  go_enter Try.func6, Try.ntmps6
  go_upto_region 1 with (fail)
  (try rw [hw0])
  clear hw0 hb
  have C9 := Aside0.mk (fun W => awake_c W)
  have FA := Aside0.mk (fun W (h : NC W A2 c2 ai A3 c3 ao) => few_c h ak as_ 60 (by omega))
  have FB := Aside0.mk (fun W (h : NC W B2 d2 bi B3 d3 bo) => few_c h bk bs 60 (by omega))
  have FC := Aside0.mk (fun W (h : NC W C2 e2 ci C3 e3 co) => few_c h ck cs_ 60 (by omega))
  simp only [hf, hg, hh] at FA FB FC
  clear hf  hg  hh
  have xX0 := HX0.out.x0; have xX1 := HX0.out.x1; have xX2 := HX0.out.x2; have xX3 := HX0.out.x3; have xY0 := HY0.out.x0; have xY1 := HY0.out.x1; have xY2 := HY0.out.x2; have xY3 := HY0.out.x3; have xZ0 := HZ0.out.x0; have xZ1 := HZ0.out.x1; have xZ2 := HZ0.out.x2; have xZ3 := HZ0.out.x3
  go_upto_region 4 with (first | (go_at_call 9; refine (C9.out _).mono ?_; rintro e w1 ⟨rfl, hb⟩; clear xX0 xX1 xX2 xX3 xY0 xY1 xY2 xY3 xZ0 xZ1 xZ2 xZ3 C9; have HX1 := Aside0.mk (HX0.out.next hb); have HY1 := Aside0.mk (HY0.out.next hb); have HZ1 := Aside0.mk (HZ0.out.next hb); have NX1 := Aside0.mk (NX0.out.below hb); have NY1 := Aside0.mk (NY0.out.below hb); have NZ1 := Aside0.mk (NZ0.out.below hb); clear hb HX0 HY0 HZ0 NX0 NY0 NZ0; have xX0 := HX1.out.x0; have xX1 := HX1.out.x1; have xX2 := HX1.out.x2; have xX3 := HX1.out.x3; have xY0 := HY1.out.x0; have xY1 := HY1.out.x1; have xY2 := HY1.out.x2; have xY3 := HY1.out.x3; have xZ0 := HZ1.out.x0; have xZ1 := HZ1.out.x1; have xZ2 := HZ1.out.x2; have xZ3 := HZ1.out.x3) | (go_at_call 15; refine (FA.out _ NX1.out.nc).mono ?_; rintro e w2 ⟨rfl, hb⟩; clear xX0 xX1 xX2 xX3 xY0 xY1 xY2 xY3 xZ0 xZ1 xZ2 xZ3 FA; have HX2 := Aside0.mk (HX1.out.next hb); have HY2 := Aside0.mk (HY1.out.next hb); have HZ2 := Aside0.mk (HZ1.out.next hb); have NX2 := Aside0.mk (NX1.out.below hb); have NY2 := Aside0.mk (NY1.out.below hb); have NZ2 := Aside0.mk (NZ1.out.below hb); clear hb HX1 HY1 HZ1 NX1 NY1 NZ1; have xX0 := HX2.out.x0; have xX1 := HX2.out.x1; have xX2 := HX2.out.x2; have xX3 := HX2.out.x3; have xY0 := HY2.out.x0; have xY1 := HY2.out.x1; have xY2 := HY2.out.x2; have xY3 := HY2.out.x3; have xZ0 := HZ2.out.x0; have xZ1 := HZ2.out.x1; have xZ2 := HZ2.out.x2; have xZ3 := HZ2.out.x3) | (go_at_call 15; refine (FB.out _ NY2.out.nc).mono ?_; rintro e w3 ⟨rfl, hb⟩; clear xX0 xX1 xX2 xX3 xY0 xY1 xY2 xY3 xZ0 xZ1 xZ2 xZ3 FB; have HX3 := Aside0.mk (HX2.out.next hb); have HY3 := Aside0.mk (HY2.out.next hb); have HZ3 := Aside0.mk (HZ2.out.next hb); have NX3 := Aside0.mk (NX2.out.below hb); have NY3 := Aside0.mk (NY2.out.below hb); have NZ3 := Aside0.mk (NZ2.out.below hb); clear hb HX2 HY2 HZ2 NX2 NY2 NZ2; have xX0 := HX3.out.x0; have xX1 := HX3.out.x1; have xX2 := HX3.out.x2; have xX3 := HX3.out.x3; have xY0 := HY3.out.x0; have xY1 := HY3.out.x1; have xY2 := HY3.out.x2; have xY3 := HY3.out.x3; have xZ0 := HZ3.out.x0; have xZ1 := HZ3.out.x1; have xZ2 := HZ3.out.x2; have xZ3 := HZ3.out.x3) | (go_at_call 15; refine (FC.out _ NZ3.out.nc).mono ?_; rintro e w4 ⟨rfl, hb⟩; clear xX0 xX1 xX2 xX3 xY0 xY1 xY2 xY3 xZ0 xZ1 xZ2 xZ3 FC; have HX4 := Aside0.mk (HX3.out.next hb); have HY4 := Aside0.mk (HY3.out.next hb); have HZ4 := Aside0.mk (HZ3.out.next hb); have NX4 := Aside0.mk (NX3.out.below hb); have NY4 := Aside0.mk (NY3.out.below hb); have NZ4 := Aside0.mk (NZ3.out.below hb); clear hb HX3 HY3 HZ3 NX3 NY3 NZ3; have xX0 := HX4.out.x0; have xX1 := HX4.out.x1; have xX2 := HX4.out.x2; have xX3 := HX4.out.x3; have xY0 := HY4.out.x0; have xY1 := HY4.out.x1; have xY2 := HY4.out.x2; have xY3 := HY4.out.x3; have xZ0 := HZ4.out.x0; have xZ1 := HZ4.out.x1; have xZ2 := HZ4.out.x2; have xZ3 := HZ4.out.x3))
  have hb : Below w4.heap.size w4 w4.drew := (Below.refl _ _).drew
  clear xX0 xX1 xX2 xX3 xY0 xY1 xY2 xY3 xZ0 xZ1 xZ2 xZ3
  have HX5 := Aside0.mk (HX4.out.next hb)
  have HY5 := Aside0.mk (HY4.out.next hb)
  have HZ5 := Aside0.mk (HZ4.out.next hb)
  have NX5 := Aside0.mk (NX4.out.below hb)
  have NY5 := Aside0.mk (NY4.out.below hb)
  have NZ5 := Aside0.mk (NZ4.out.below hb)
  clear hb HX4 HY4 HZ4 NX4 NY4 NZ4
  refine start_ (n := 11) (S := fun w' => w'.cell? ⟨b, 0, none⟩ = some (.int .i64 ak) ∧ w'.cell? ⟨b, 1, none⟩ = some (.int .i64 as_) ∧ w'.cell? ⟨b, 2, none⟩ = some (.slice A2 ai.length c2) ∧ w'.cell? ⟨b, 3, none⟩ = some (.slice A3 ao.length c3) ∧ w'.cell? ⟨b + 1, 0, none⟩ = some (.int .i64 bk) ∧ w'.cell? ⟨b + 1, 1, none⟩ = some (.int .i64 bs) ∧ w'.cell? ⟨b + 1, 2, none⟩ = some (.slice B2 bi.length d2) ∧ w'.cell? ⟨b + 1, 3, none⟩ = some (.slice B3 bo.length d3)) (ds := [9, 10]) #[false, false, false, false, false, false, false, false, false, false, false] rfl rfl rfl ⟨HX5.out.x0, HX5.out.x1, HX5.out.x2, HX5.out.x3, HY5.out.x0, HY5.out.x1, HY5.out.x2, HY5.out.x3⟩ (fun hHeld => ?_)
  refine with_tabW regO4.tab regO4.bits (fun HT_ HW_ => ?_)
  generalize w4.drew = w5 at *
  clear w4
  refine tz_ 0 32 HT_ HW_ hHeld ?_
  refine tz_ 2 34 HT_ HW_ hHeld ?_
  refine join_ (σ := (Option Addr × Nat) × (Option Addr × Nat) × Nat) 2 #[true, true, true, true, true, true, true, true, true, false, false] (fun q => [(33, .agg #[.int .i64 ak, .int .i64 as_, .slice A2 ai.length c2, .slice A3 ao.length c3]), (35, .agg #[.int .i64 bk, .int .i64 bs, .slice B2 bi.length d2, .slice B3 bo.length d3]), (36, .tuple #[.agg #[.int .i64 k0, .int .i64 s0, .slice q.1.1 im0.length q.1.2, .slice q.2.1.1 os0.length q.2.1.2], .int .i64 0]), (31, .tuple #[.agg #[.int .i64 k0, .int .i64 s0, .slice q.1.1 im0.length q.1.2, .slice q.2.1.1 os0.length q.2.1.2], .int .i64 0]), (37, .agg #[.int .i64 k0, .int .i64 s0, .slice q.1.1 im0.length q.1.2, .slice q.2.1.1 os0.length q.2.1.2]), (38, .int .i64 0), (8, .pointer (some ⟨q.2.2, 0, none⟩))]) (fun q w' => Aside0 (B4 w (b) 32 (.int .i64 ak) (.int .i64 as_) (.slice A2 ai.length c2) (.slice A3 ao.length c3) w') ∧ Aside0 (B4 w (b + 1) 32 (.int .i64 bk) (.int .i64 bs) (.slice B2 bi.length d2) (.slice B3 bo.length d3) w') ∧ Aside0 (B4 w (b + 2) 32 (.int .i64 ck) (.int .i64 cs_) (.slice C2 ci.length e2) (.slice C3 co.length e3) w') ∧ Aside0 (AP q.2.2 w' A2 c2 ai A3 c3 ao) ∧ Aside0 (AP q.2.2 w' B2 d2 bi B3 d3 bo) ∧ Aside0 (AP q.2.2 w' C2 e2 ci C3 e3 co) ∧ Aside0 (AP q.2.2 w' q.1.1 q.1.2 im0 q.2.1.1 q.2.1.2 os0) ∧ Aside0 (w'.heap[q.2.2]? = some (.cells #[.int .i64 0, .int .i64 0, .slice none 0 0, .slice none 0 0] 27 (0, 0))) ∧ Aside0 (b < q.2.2 ∧ b + 1 < q.2.2 ∧ b + 2 < q.2.2)) ?hcont ?hord
  case hord =>
    intro JN
    have JNN := Aside0.mk JN
    clear JN
    refine two_ (i := 1) (j := 8) (Ni := some 33) (Nj := some 8) #[true, true, true, false, false, false, false, false, false, false, false] #[true, false, true, false, false, false, false, false, true, false, false] rfl rfl rfl rfl (two_of HT_.out (by kernel_rfl)) (by decide) (by decide) (fun K hK => ?_) (fun K hK => ?_)
    · refine goes_ Try.func16 (by kernel_rfl) rfl #[.agg #[.int .i64 ak, .int .i64 as_, .slice A2 ai.length c2, .slice A3 ao.length c3]] (by rfl) rfl rfl ma_ ?_
      refine (ours_c NX5.out.nc ak as_).mono ?_
      rintro e v6w ⟨rfl, hb⟩
      refine ⟨_, rfl, ?_⟩
      have HX6 := Aside0.mk (HX5.out.next hb)
      have HY6 := Aside0.mk (HY5.out.next hb)
      have HZ6 := Aside0.mk (HZ5.out.next hb)
      have NX6 := Aside0.mk (NX5.out.below hb)
      have NY6 := Aside0.mk (NY5.out.below hb)
      have NZ6 := Aside0.mk (NZ5.out.below hb)
      clear hb HX5 HY5 HZ5 NX5 NY5 NZ5
      refine hK.out _ _ ⟨HX6.out.x0, HX6.out.x1, HX6.out.x2, HX6.out.x3, HY6.out.x0, HY6.out.x1, HY6.out.x2, HY6.out.x3⟩ (fun hHeld => ?_)
      clear hK K
      refine two_ (i := 3) (j := 8) (Ni := some 35) (Nj := some 8) #[true, true, true, true, false, false, false, false, false, false, false] #[true, true, true, false, false, false, false, false, true, false, false] rfl rfl rfl rfl (two_of HT_.out (by kernel_rfl)) (by decide) (by decide) (fun K hK => ?_) (fun K hK => ?_)
      · refine goes_ Try.func16 (by kernel_rfl) rfl #[.agg #[.int .i64 bk, .int .i64 bs, .slice B2 bi.length d2, .slice B3 bo.length d3]] (by rfl) rfl rfl ma_ ?_
        refine (ours_c NY6.out.nc bk bs).mono ?_
        rintro e v7w ⟨rfl, hb⟩
        refine ⟨_, rfl, ?_⟩
        have HX7 := Aside0.mk (HX6.out.next hb)
        have HY7 := Aside0.mk (HY6.out.next hb)
        have HZ7 := Aside0.mk (HZ6.out.next hb)
        have NX7 := Aside0.mk (NX6.out.below hb)
        have NY7 := Aside0.mk (NY6.out.below hb)
        have NZ7 := Aside0.mk (NZ6.out.below hb)
        clear hb HX6 HY6 HZ6 NX6 NY6 NZ6
        refine hK.out _ _ ⟨HX7.out.x0, HX7.out.x1, HX7.out.x2, HX7.out.x3, HY7.out.x0, HY7.out.x1, HY7.out.x2, HY7.out.x3⟩ (fun hHeld => ?_)
        clear hK K
        refine two_ (i := 4) (j := 8) (Ni := some 36) (Nj := some 8) #[true, true, true, true, true, false, false, false, false, false, false] #[true, true, true, true, false, false, false, false, true, false, false] rfl rfl rfl rfl (two_of HT_.out (by kernel_rfl)) (by decide) (by decide) (fun K hK => ?_) (fun K hK => ?_)
        · refine goes_ Try.func18 (by kernel_rfl) rfl #[.agg #[.int .i64 ak, .int .i64 as_, .slice A2 ai.length c2, .slice A3 ao.length c3], .agg #[.int .i64 bk, .int .i64 bs, .slice B2 bi.length d2, .slice B3 bo.length d3]] (by rfl) rfl rfl ma_ ?_
          refine (merge_nf NX7.out NY7.out ak as_ bk bs (by have := HL.out; omega) (im := im0) (os := os0) k0 s0 0 HM0.out).mono ?_
          rintro e v8w ⟨XA, xc, YA, yc, rfl, hn, hb⟩
          refine ⟨_, rfl, ?_⟩
          have HX8 := Aside0.mk (HX7.out.next hb)
          have HY8 := Aside0.mk (HY7.out.next hb)
          have HZ8 := Aside0.mk (HZ7.out.next hb)
          have NX8 := Aside0.mk (NX7.out.below hb)
          have NY8 := Aside0.mk (NY7.out.below hb)
          have NZ8 := Aside0.mk (NZ7.out.below hb)
          clear hb HX7 HY7 HZ7 NX7 NY7 NZ7
          have NNew8 := Aside0.mk hn
          refine hK.out _ _ ⟨HX8.out.x0, HX8.out.x1, HX8.out.x2, HX8.out.x3, HY8.out.x0, HY8.out.x1, HY8.out.x2, HY8.out.x3⟩ (fun hHeld => ?_)
          clear hK K
          refine pz_ 5 31 HT_ ?_
          refine pz_ 6 37 HT_ ?_
          refine pz_ 7 38 HT_ ?_
          refine oz_ 8 8 HT_ (fun K hK => ?_)
          refine value_ (by rfl) rfl (v := .pointer (some ⟨v8w.heap.size, 0, none⟩)) (w1 := v8w.alloc (.cells #[.int .i64 0, .int .i64 0, .slice none 0 0, .slice none 0 0] 27)) (by first | (go_simp; done) | (go_simp; rfl)) ?_
          have hb : Below v8w.heap.size v8w (v8w.alloc (.cells #[.int .i64 0, .int .i64 0, .slice none 0 0, .slice none 0 0] 27)) := (Below.refl _ _).alloc (Nat.le_refl _) _
          have hx := blk_new v8w (.cells #[.int .i64 0, .int .i64 0, .slice none 0 0, .slice none 0 0] 27)
          have hl0 := blk_lt HX8.out.at_
          have hl1 := blk_lt HY8.out.at_
          have hl2 := blk_lt HZ8.out.at_
          obtain ⟨bM, hbM⟩ : ∃ bM, v8w.heap.size = bM := ⟨_, rfl⟩
          rw [hbM] at hx hl0 hl1 hl2
          rw [hbM]
          have hle := Nat.le_of_eq hbM
          clear hbM
          generalize v8w.alloc (.cells #[.int .i64 0, .int .i64 0, .slice none 0 0, .slice none 0 0] 27) = v9w at *
          have LT := Aside0.mk (show b < bM ∧ b + 1 < bM ∧ b + 2 < bM from ⟨hl0, hl1, hl2⟩)
          clear hl0 hl1 hl2
          have HX9 := Aside0.mk (HX8.out.next hb)
          have HY9 := Aside0.mk (HY8.out.next hb)
          have HZ9 := Aside0.mk (HZ8.out.next hb)
          have NX9 := Aside0.mk ((NF.ap NX8.out (b := bM) hle).below hb)
          have NY9 := Aside0.mk ((NF.ap NY8.out (b := bM) hle).below hb)
          have NZ9 := Aside0.mk ((NF.ap NZ8.out (b := bM) hle).below hb)
          have NNew9 := Aside0.mk ((NF.ap NNew8.out (b := bM) hle).below hb)
          clear hb HX8 HY8 HZ8 NX8 NY8 NZ8 hle
          have TT9 := Aside0.mk hx
          refine hK.out _ _ ⟨HX9.out.x0, HX9.out.x1, HX9.out.x2, HX9.out.x3, HY9.out.x0, HY9.out.x1, HY9.out.x2, HY9.out.x3⟩ (fun hHeld => ?_)
          clear hK K
          exact norm_ pu_ (JNN.out ((XA, xc), (YA, yc), bM) _ ⟨HX9, HY9, HZ9, NX9, NY9, NZ9, NNew9, TT9, LT⟩)
        · refine value_ (by rfl) rfl (v := .pointer (some ⟨v7w.heap.size, 0, none⟩)) (w1 := v7w.alloc (.cells #[.int .i64 0, .int .i64 0, .slice none 0 0, .slice none 0 0] 27)) (by first | (go_simp; done) | (go_simp; rfl)) ?_
          have hb : Below v7w.heap.size v7w (v7w.alloc (.cells #[.int .i64 0, .int .i64 0, .slice none 0 0, .slice none 0 0] 27)) := (Below.refl _ _).alloc (Nat.le_refl _) _
          have hx := blk_new v7w (.cells #[.int .i64 0, .int .i64 0, .slice none 0 0, .slice none 0 0] 27)
          have hl0 := blk_lt HX7.out.at_
          have hl1 := blk_lt HY7.out.at_
          have hl2 := blk_lt HZ7.out.at_
          obtain ⟨bM, hbM⟩ : ∃ bM, v7w.heap.size = bM := ⟨_, rfl⟩
          rw [hbM] at hx hl0 hl1 hl2
          rw [hbM]
          have hle := Nat.le_of_eq hbM
          clear hbM
          generalize v7w.alloc (.cells #[.int .i64 0, .int .i64 0, .slice none 0 0, .slice none 0 0] 27) = v10w at *
          have LT := Aside0.mk (show b < bM ∧ b + 1 < bM ∧ b + 2 < bM from ⟨hl0, hl1, hl2⟩)
          clear hl0 hl1 hl2
          have HX8 := Aside0.mk (HX7.out.next hb)
          have HY8 := Aside0.mk (HY7.out.next hb)
          have HZ8 := Aside0.mk (HZ7.out.next hb)
          have NX8 := Aside0.mk ((NF.ap NX7.out (b := bM) hle).below hb)
          have NY8 := Aside0.mk ((NF.ap NY7.out (b := bM) hle).below hb)
          have NZ8 := Aside0.mk ((NF.ap NZ7.out (b := bM) hle).below hb)
          clear hb HX7 HY7 HZ7 NX7 NY7 NZ7 hle
          have TT8 := Aside0.mk hx
          refine hK.out _ _ ⟨HX8.out.x0, HX8.out.x1, HX8.out.x2, HX8.out.x3, HY8.out.x0, HY8.out.x1, HY8.out.x2, HY8.out.x3⟩ (fun hHeld => ?_)
          clear hK K
          refine oz_ 4 36 HT_ (fun K hK => ?_)
          refine goes_ Try.func18 (by kernel_rfl) rfl #[.agg #[.int .i64 ak, .int .i64 as_, .slice A2 ai.length c2, .slice A3 ao.length c3], .agg #[.int .i64 bk, .int .i64 bs, .slice B2 bi.length d2, .slice B3 bo.length d3]] (by rfl) rfl rfl ma_ ?_
          refine (merge_ap NX8.out NY8.out (blk_lt TT8.out) ak as_ bk bs (by have := HL.out; omega) (im := im0) (os := os0) k0 s0 0 HM0.out).mono ?_
          rintro e v11w ⟨XA, xc, YA, yc, rfl, hn, hb⟩
          refine ⟨_, rfl, ?_⟩
          have HX9 := Aside0.mk (HX8.out.next hb)
          have HY9 := Aside0.mk (HY8.out.next hb)
          have HZ9 := Aside0.mk (HZ8.out.next hb)
          have NX9 := Aside0.mk (NX8.out.below hb)
          have NY9 := Aside0.mk (NY8.out.below hb)
          have NZ9 := Aside0.mk (NZ8.out.below hb)
          have TT9 := Aside0.mk (blk_below TT8.out hb)
          clear hb HX8 HY8 HZ8 NX8 NY8 NZ8
          have NNew9 := Aside0.mk hn
          refine hK.out _ _ ⟨HX9.out.x0, HX9.out.x1, HX9.out.x2, HX9.out.x3, HY9.out.x0, HY9.out.x1, HY9.out.x2, HY9.out.x3⟩ (fun hHeld => ?_)
          clear hK K
          refine pz_ 5 31 HT_ ?_
          refine pz_ 6 37 HT_ ?_
          refine pz_ 7 38 HT_ ?_
          exact norm_ pu_ (JNN.out ((XA, xc), (YA, yc), bM) _ ⟨HX9, HY9, HZ9, NX9, NY9, NZ9, NNew9, TT9, LT⟩)
      · refine value_ (by rfl) rfl (v := .pointer (some ⟨v6w.heap.size, 0, none⟩)) (w1 := v6w.alloc (.cells #[.int .i64 0, .int .i64 0, .slice none 0 0, .slice none 0 0] 27)) (by first | (go_simp; done) | (go_simp; rfl)) ?_
        have hb : Below v6w.heap.size v6w (v6w.alloc (.cells #[.int .i64 0, .int .i64 0, .slice none 0 0, .slice none 0 0] 27)) := (Below.refl _ _).alloc (Nat.le_refl _) _
        have hx := blk_new v6w (.cells #[.int .i64 0, .int .i64 0, .slice none 0 0, .slice none 0 0] 27)
        have hl0 := blk_lt HX6.out.at_
        have hl1 := blk_lt HY6.out.at_
        have hl2 := blk_lt HZ6.out.at_
        obtain ⟨bM, hbM⟩ : ∃ bM, v6w.heap.size = bM := ⟨_, rfl⟩
        rw [hbM] at hx hl0 hl1 hl2
        rw [hbM]
        have hle := Nat.le_of_eq hbM
        clear hbM
        generalize v6w.alloc (.cells #[.int .i64 0, .int .i64 0, .slice none 0 0, .slice none 0 0] 27) = v12w at *
        have LT := Aside0.mk (show b < bM ∧ b + 1 < bM ∧ b + 2 < bM from ⟨hl0, hl1, hl2⟩)
        clear hl0 hl1 hl2
        have HX7 := Aside0.mk (HX6.out.next hb)
        have HY7 := Aside0.mk (HY6.out.next hb)
        have HZ7 := Aside0.mk (HZ6.out.next hb)
        have NX7 := Aside0.mk ((NF.ap NX6.out (b := bM) hle).below hb)
        have NY7 := Aside0.mk ((NF.ap NY6.out (b := bM) hle).below hb)
        have NZ7 := Aside0.mk ((NF.ap NZ6.out (b := bM) hle).below hb)
        clear hb HX6 HY6 HZ6 NX6 NY6 NZ6 hle
        have TT7 := Aside0.mk hx
        refine hK.out _ _ ⟨HX7.out.x0, HX7.out.x1, HX7.out.x2, HX7.out.x3, HY7.out.x0, HY7.out.x1, HY7.out.x2, HY7.out.x3⟩ (fun hHeld => ?_)
        clear hK K
        refine oz_ 3 35 HT_ (fun K hK => ?_)
        refine goes_ Try.func16 (by kernel_rfl) rfl #[.agg #[.int .i64 bk, .int .i64 bs, .slice B2 bi.length d2, .slice B3 bo.length d3]] (by rfl) rfl rfl ma_ ?_
        refine (ours_c NY7.out.nc bk bs).mono ?_
        rintro e v13w ⟨rfl, hb⟩
        refine ⟨_, rfl, ?_⟩
        have HX8 := Aside0.mk (HX7.out.next hb)
        have HY8 := Aside0.mk (HY7.out.next hb)
        have HZ8 := Aside0.mk (HZ7.out.next hb)
        have NX8 := Aside0.mk (NX7.out.below hb)
        have NY8 := Aside0.mk (NY7.out.below hb)
        have NZ8 := Aside0.mk (NZ7.out.below hb)
        have TT8 := Aside0.mk (blk_below TT7.out hb)
        clear hb HX7 HY7 HZ7 NX7 NY7 NZ7
        refine hK.out _ _ ⟨HX8.out.x0, HX8.out.x1, HX8.out.x2, HX8.out.x3, HY8.out.x0, HY8.out.x1, HY8.out.x2, HY8.out.x3⟩ (fun hHeld => ?_)
        clear hK K
        refine oz_ 4 36 HT_ (fun K hK => ?_)
        refine goes_ Try.func18 (by kernel_rfl) rfl #[.agg #[.int .i64 ak, .int .i64 as_, .slice A2 ai.length c2, .slice A3 ao.length c3], .agg #[.int .i64 bk, .int .i64 bs, .slice B2 bi.length d2, .slice B3 bo.length d3]] (by rfl) rfl rfl ma_ ?_
        refine (merge_ap NX8.out NY8.out (blk_lt TT8.out) ak as_ bk bs (by have := HL.out; omega) (im := im0) (os := os0) k0 s0 0 HM0.out).mono ?_
        rintro e v14w ⟨XA, xc, YA, yc, rfl, hn, hb⟩
        refine ⟨_, rfl, ?_⟩
        have HX9 := Aside0.mk (HX8.out.next hb)
        have HY9 := Aside0.mk (HY8.out.next hb)
        have HZ9 := Aside0.mk (HZ8.out.next hb)
        have NX9 := Aside0.mk (NX8.out.below hb)
        have NY9 := Aside0.mk (NY8.out.below hb)
        have NZ9 := Aside0.mk (NZ8.out.below hb)
        have TT9 := Aside0.mk (blk_below TT8.out hb)
        clear hb HX8 HY8 HZ8 NX8 NY8 NZ8
        have NNew9 := Aside0.mk hn
        refine hK.out _ _ ⟨HX9.out.x0, HX9.out.x1, HX9.out.x2, HX9.out.x3, HY9.out.x0, HY9.out.x1, HY9.out.x2, HY9.out.x3⟩ (fun hHeld => ?_)
        clear hK K
        refine pz_ 5 31 HT_ ?_
        refine pz_ 6 37 HT_ ?_
        refine pz_ 7 38 HT_ ?_
        exact norm_ pu_ (JNN.out ((XA, xc), (YA, yc), bM) _ ⟨HX9, HY9, HZ9, NX9, NY9, NZ9, NNew9, TT9, LT⟩)
    · refine value_ (by rfl) rfl (v := .pointer (some ⟨w5.heap.size, 0, none⟩)) (w1 := w5.alloc (.cells #[.int .i64 0, .int .i64 0, .slice none 0 0, .slice none 0 0] 27)) (by first | (go_simp; done) | (go_simp; rfl)) ?_
      have hb : Below w5.heap.size w5 (w5.alloc (.cells #[.int .i64 0, .int .i64 0, .slice none 0 0, .slice none 0 0] 27)) := (Below.refl _ _).alloc (Nat.le_refl _) _
      have hx := blk_new w5 (.cells #[.int .i64 0, .int .i64 0, .slice none 0 0, .slice none 0 0] 27)
      have hl0 := blk_lt HX5.out.at_
      have hl1 := blk_lt HY5.out.at_
      have hl2 := blk_lt HZ5.out.at_
      obtain ⟨bM, hbM⟩ : ∃ bM, w5.heap.size = bM := ⟨_, rfl⟩
      rw [hbM] at hx hl0 hl1 hl2
      rw [hbM]
      have hle := Nat.le_of_eq hbM
      clear hbM
      generalize w5.alloc (.cells #[.int .i64 0, .int .i64 0, .slice none 0 0, .slice none 0 0] 27) = v15w at *
      have LT := Aside0.mk (show b < bM ∧ b + 1 < bM ∧ b + 2 < bM from ⟨hl0, hl1, hl2⟩)
      clear hl0 hl1 hl2
      have HX6 := Aside0.mk (HX5.out.next hb)
      have HY6 := Aside0.mk (HY5.out.next hb)
      have HZ6 := Aside0.mk (HZ5.out.next hb)
      have NX6 := Aside0.mk ((NF.ap NX5.out (b := bM) hle).below hb)
      have NY6 := Aside0.mk ((NF.ap NY5.out (b := bM) hle).below hb)
      have NZ6 := Aside0.mk ((NF.ap NZ5.out (b := bM) hle).below hb)
      clear hb HX5 HY5 HZ5 NX5 NY5 NZ5 hle
      have TT6 := Aside0.mk hx
      refine hK.out _ _ ⟨HX6.out.x0, HX6.out.x1, HX6.out.x2, HX6.out.x3, HY6.out.x0, HY6.out.x1, HY6.out.x2, HY6.out.x3⟩ (fun hHeld => ?_)
      clear hK K
      refine oz_ 1 33 HT_ (fun K hK => ?_)
      refine goes_ Try.func16 (by kernel_rfl) rfl #[.agg #[.int .i64 ak, .int .i64 as_, .slice A2 ai.length c2, .slice A3 ao.length c3]] (by rfl) rfl rfl ma_ ?_
      refine (ours_c NX6.out.nc ak as_).mono ?_
      rintro e v16w ⟨rfl, hb⟩
      refine ⟨_, rfl, ?_⟩
      have HX7 := Aside0.mk (HX6.out.next hb)
      have HY7 := Aside0.mk (HY6.out.next hb)
      have HZ7 := Aside0.mk (HZ6.out.next hb)
      have NX7 := Aside0.mk (NX6.out.below hb)
      have NY7 := Aside0.mk (NY6.out.below hb)
      have NZ7 := Aside0.mk (NZ6.out.below hb)
      have TT7 := Aside0.mk (blk_below TT6.out hb)
      clear hb HX6 HY6 HZ6 NX6 NY6 NZ6
      refine hK.out _ _ ⟨HX7.out.x0, HX7.out.x1, HX7.out.x2, HX7.out.x3, HY7.out.x0, HY7.out.x1, HY7.out.x2, HY7.out.x3⟩ (fun hHeld => ?_)
      clear hK K
      refine oz_ 3 35 HT_ (fun K hK => ?_)
      refine goes_ Try.func16 (by kernel_rfl) rfl #[.agg #[.int .i64 bk, .int .i64 bs, .slice B2 bi.length d2, .slice B3 bo.length d3]] (by rfl) rfl rfl ma_ ?_
      refine (ours_c NY7.out.nc bk bs).mono ?_
      rintro e v17w ⟨rfl, hb⟩
      refine ⟨_, rfl, ?_⟩
      have HX8 := Aside0.mk (HX7.out.next hb)
      have HY8 := Aside0.mk (HY7.out.next hb)
      have HZ8 := Aside0.mk (HZ7.out.next hb)
      have NX8 := Aside0.mk (NX7.out.below hb)
      have NY8 := Aside0.mk (NY7.out.below hb)
      have NZ8 := Aside0.mk (NZ7.out.below hb)
      have TT8 := Aside0.mk (blk_below TT7.out hb)
      clear hb HX7 HY7 HZ7 NX7 NY7 NZ7
      refine hK.out _ _ ⟨HX8.out.x0, HX8.out.x1, HX8.out.x2, HX8.out.x3, HY8.out.x0, HY8.out.x1, HY8.out.x2, HY8.out.x3⟩ (fun hHeld => ?_)
      clear hK K
      refine oz_ 4 36 HT_ (fun K hK => ?_)
      refine goes_ Try.func18 (by kernel_rfl) rfl #[.agg #[.int .i64 ak, .int .i64 as_, .slice A2 ai.length c2, .slice A3 ao.length c3], .agg #[.int .i64 bk, .int .i64 bs, .slice B2 bi.length d2, .slice B3 bo.length d3]] (by rfl) rfl rfl ma_ ?_
      refine (merge_ap NX8.out NY8.out (blk_lt TT8.out) ak as_ bk bs (by have := HL.out; omega) (im := im0) (os := os0) k0 s0 0 HM0.out).mono ?_
      rintro e v18w ⟨XA, xc, YA, yc, rfl, hn, hb⟩
      refine ⟨_, rfl, ?_⟩
      have HX9 := Aside0.mk (HX8.out.next hb)
      have HY9 := Aside0.mk (HY8.out.next hb)
      have HZ9 := Aside0.mk (HZ8.out.next hb)
      have NX9 := Aside0.mk (NX8.out.below hb)
      have NY9 := Aside0.mk (NY8.out.below hb)
      have NZ9 := Aside0.mk (NZ8.out.below hb)
      have TT9 := Aside0.mk (blk_below TT8.out hb)
      clear hb HX8 HY8 HZ8 NX8 NY8 NZ8
      have NNew9 := Aside0.mk hn
      refine hK.out _ _ ⟨HX9.out.x0, HX9.out.x1, HX9.out.x2, HX9.out.x3, HY9.out.x0, HY9.out.x1, HY9.out.x2, HY9.out.x3⟩ (fun hHeld => ?_)
      clear hK K
      refine pz_ 5 31 HT_ ?_
      refine pz_ 6 37 HT_ ?_
      refine pz_ 7 38 HT_ ?_
      exact norm_ pu_ (JNN.out ((XA, xc), (YA, yc), bM) _ ⟨HX9, HY9, HZ9, NX9, NY9, NZ9, NNew9, TT9, LT⟩)
  case hcont =>
    rintro ⟨⟨X0A, x0c⟩, ⟨Y0A, y0c⟩, b0M⟩ w25 ⟨HX25, HY25, HZ25, NX25, NY25, NZ25, NNew, TT, LT⟩
    simp only at NNew TT LT
    refine norm_ (a' := ?_) ?_ ?_
    rotate_left
    · simp only [putAll, Act.put, List.setIfInBounds_toArray, List.set_cons_zero, List.set_cons_succ]; rfl
    clear HX5 HY5 HZ5 NX5 NY5 NZ5
    refine last_ (i := 9) (N := none) #[true, true, true, true, true, true, true, true, true, true, false] rfl rfl (one_of HT_.out (by kernel_rfl)) (by decide) (fun K hK => ?_)
    obtain ⟨z0, f0, z1, f1, z2, f2, z3, f3, k4⟩ := put4c (.int .i64 k0) (.int .i64 s0) (.slice X0A im0.length x0c) (.slice Y0A os0.length y0c) TT.out
    have hge : w.heap.size ≤ b0M := by have := HX25.out.ge; have := LT.out; omega
    have HX26 := Aside0.mk (B4.set (B4.set (B4.set (B4.set HX25.out (k := 0) (show b ≠ b0M by have := LT.out; omega) hge (.int .i64 k0)) (k := 1) (show b ≠ b0M by have := LT.out; omega) hge (.int .i64 s0)) (k := 2) (show b ≠ b0M by have := LT.out; omega) hge (.slice X0A im0.length x0c)) (k := 3) (show b ≠ b0M by have := LT.out; omega) hge (.slice Y0A os0.length y0c))
    have HY26 := Aside0.mk (B4.set (B4.set (B4.set (B4.set HY25.out (k := 0) (show b + 1 ≠ b0M by have := LT.out; omega) hge (.int .i64 k0)) (k := 1) (show b + 1 ≠ b0M by have := LT.out; omega) hge (.int .i64 s0)) (k := 2) (show b + 1 ≠ b0M by have := LT.out; omega) hge (.slice X0A im0.length x0c)) (k := 3) (show b + 1 ≠ b0M by have := LT.out; omega) hge (.slice Y0A os0.length y0c))
    have HZ26 := Aside0.mk (B4.set (B4.set (B4.set (B4.set HZ25.out (k := 0) (show b + 2 ≠ b0M by have := LT.out; omega) hge (.int .i64 k0)) (k := 1) (show b + 2 ≠ b0M by have := LT.out; omega) hge (.int .i64 s0)) (k := 2) (show b + 2 ≠ b0M by have := LT.out; omega) hge (.slice X0A im0.length x0c)) (k := 3) (show b + 2 ≠ b0M by have := LT.out; omega) hge (.slice Y0A os0.length y0c))
    have far : ∀ j, j ≠ b0M → ((((w25.setCell ⟨b0M, 0, none⟩ (.int .i64 k0)).setCell ⟨b0M, 1, none⟩ (.int .i64 s0)).setCell ⟨b0M, 2, none⟩ (.slice X0A im0.length x0c)).setCell ⟨b0M, 3, none⟩ (.slice Y0A os0.length y0c)).heap[j]? = w25.heap[j]? := fun j hj => far4 hj
    have NX26 := Aside0.mk (AP.far NX25.out far)
    have NY26 := Aside0.mk (AP.far NY25.out far)
    have NZ26 := Aside0.mk (AP.far NZ25.out far)
    have NM026 := Aside0.mk (AP.far NNew.out far)
    have HM026 := Aside0.mk (show B4 w b0M 27 (.int .i64 k0) (.int .i64 s0) (.slice X0A im0.length x0c) (.slice Y0A os0.length y0c) ((((w25.setCell ⟨b0M, 0, none⟩ (.int .i64 k0)).setCell ⟨b0M, 1, none⟩ (.int .i64 s0)).setCell ⟨b0M, 2, none⟩ (.slice X0A im0.length x0c)).setCell ⟨b0M, 3, none⟩ (.slice Y0A os0.length y0c)) from ⟨HX26.out.below, k4, hge⟩)
    clear k4 far hge TT LT NNew HX25 HY25 HZ25 NX25 NY25 NZ25
    refine skip_ (w1 := (((w25.setCell ⟨b0M, 0, none⟩ (.int .i64 k0)).setCell ⟨b0M, 1, none⟩ (.int .i64 s0)).setCell ⟨b0M, 2, none⟩ (.slice X0A im0.length x0c)).setCell ⟨b0M, 3, none⟩ (.slice Y0A os0.length y0c)) (by rfl) rfl (by first | (go_simp; done) | (go_simp; rfl)) ?_
    refine hK.out _ _ ?_
    clear hK K z0 f0 z1 f1 z2 f2 z3 f3
    refine last_ (i := 10) (N := some 9) #[true, true, true, true, true, true, true, true, true, true, true] rfl rfl (one_of HT_.out (by kernel_rfl)) (by decide) (fun K hK => ?_)
    refine value_ (v := .int .i64 0) (w1 := (((w25.setCell ⟨b0M, 0, none⟩ (.int .i64 k0)).setCell ⟨b0M, 1, none⟩ (.int .i64 s0)).setCell ⟨b0M, 2, none⟩ (.slice X0A im0.length x0c)).setCell ⟨b0M, 3, none⟩ (.slice Y0A os0.length y0c)) (by rfl) rfl (by first | (go_simp; done) | (go_simp; rfl)) ?_
    refine hK.out _ _ ?_
    clear hK K
    refine done_ (done_of HT_.out (by kernel_rfl)) ?_
    clear HT_ HW_ hHeld
    generalize (((w25.setCell ⟨b0M, 0, none⟩ (.int .i64 k0)).setCell ⟨b0M, 1, none⟩ (.int .i64 s0)).setCell ⟨b0M, 2, none⟩ (.slice X0A im0.length x0c)).setCell ⟨b0M, 3, none⟩ (.slice Y0A os0.length y0c) = w26 at *
    have xX0 := HX26.out.x0; have xX1 := HX26.out.x1; have xX2 := HX26.out.x2; have xX3 := HX26.out.x3; have xY0 := HY26.out.x0; have xY1 := HY26.out.x1; have xY2 := HY26.out.x2; have xY3 := HY26.out.x3; have xZ0 := HZ26.out.x0; have xZ1 := HZ26.out.x1; have xZ2 := HZ26.out.x2; have xZ3 := HZ26.out.x3; have xM00 := HM026.out.x0; have xM01 := HM026.out.x1; have xM02 := HM026.out.x2; have xM03 := HM026.out.x3
    go_upto_region 5 with (fail)
    have hb : Below w26.heap.size w26 w26.drew := (Below.refl _ _).drew
    clear xX0 xX1 xX2 xX3 xY0 xY1 xY2 xY3 xZ0 xZ1 xZ2 xZ3 xM00 xM01 xM02 xM03
    have HX27 := Aside0.mk (HX26.out.next hb)
    have HY27 := Aside0.mk (HY26.out.next hb)
    have HZ27 := Aside0.mk (HZ26.out.next hb)
    have HM027 := Aside0.mk (HM026.out.next hb)
    have NX27 := Aside0.mk (NX26.out.below hb)
    have NY27 := Aside0.mk (NY26.out.below hb)
    have NZ27 := Aside0.mk (NZ26.out.below hb)
    have NM027 := Aside0.mk (NM026.out.below hb)
    clear hb HX26 HY26 HZ26 HM026 NX26 NY26 NZ26 NM026
    refine start_ (n := 11) (S := fun w' => w'.cell? ⟨b + 1, 0, none⟩ = some (.int .i64 bk) ∧ w'.cell? ⟨b + 1, 1, none⟩ = some (.int .i64 bs) ∧ w'.cell? ⟨b + 1, 2, none⟩ = some (.slice B2 bi.length d2) ∧ w'.cell? ⟨b + 1, 3, none⟩ = some (.slice B3 bo.length d3) ∧ w'.cell? ⟨b + 2, 0, none⟩ = some (.int .i64 ck) ∧ w'.cell? ⟨b + 2, 1, none⟩ = some (.int .i64 cs_) ∧ w'.cell? ⟨b + 2, 2, none⟩ = some (.slice C2 ci.length e2) ∧ w'.cell? ⟨b + 2, 3, none⟩ = some (.slice C3 co.length e3)) (ds := [9, 10]) #[false, false, false, false, false, false, false, false, false, false, false] rfl rfl rfl ⟨HY27.out.x0, HY27.out.x1, HY27.out.x2, HY27.out.x3, HZ27.out.x0, HZ27.out.x1, HZ27.out.x2, HZ27.out.x3⟩ (fun hHeld => ?_)
    refine with_tabW regO5.tab regO5.bits (fun HT_ HW_ => ?_)
    generalize w26.drew = w27 at *
    clear w26
    refine tz_ 0 40 HT_ HW_ hHeld ?_
    refine tz_ 2 42 HT_ HW_ hHeld ?_
    refine join_ (σ := (Option Addr × Nat) × (Option Addr × Nat) × Nat) 2 #[true, true, true, true, true, true, true, true, true, false, false] (fun q => [(41, .agg #[.int .i64 bk, .int .i64 bs, .slice B2 bi.length d2, .slice B3 bo.length d3]), (43, .agg #[.int .i64 ck, .int .i64 cs_, .slice C2 ci.length e2, .slice C3 co.length e3]), (44, .tuple #[.agg #[.int .i64 k1, .int .i64 s1, .slice q.1.1 im1.length q.1.2, .slice q.2.1.1 os1.length q.2.1.2], .int .i64 0]), (39, .tuple #[.agg #[.int .i64 k1, .int .i64 s1, .slice q.1.1 im1.length q.1.2, .slice q.2.1.1 os1.length q.2.1.2], .int .i64 0]), (45, .agg #[.int .i64 k1, .int .i64 s1, .slice q.1.1 im1.length q.1.2, .slice q.2.1.1 os1.length q.2.1.2]), (46, .int .i64 0), (10, .pointer (some ⟨q.2.2, 0, none⟩))]) (fun q w' => Aside0 (B4 w (b) 32 (.int .i64 ak) (.int .i64 as_) (.slice A2 ai.length c2) (.slice A3 ao.length c3) w') ∧ Aside0 (B4 w (b + 1) 32 (.int .i64 bk) (.int .i64 bs) (.slice B2 bi.length d2) (.slice B3 bo.length d3) w') ∧ Aside0 (B4 w (b + 2) 32 (.int .i64 ck) (.int .i64 cs_) (.slice C2 ci.length e2) (.slice C3 co.length e3) w') ∧ Aside0 (B4 w (b0M) 27 (.int .i64 k0) (.int .i64 s0) (.slice X0A im0.length x0c) (.slice Y0A os0.length y0c) w') ∧ Aside0 (AP q.2.2 w' A2 c2 ai A3 c3 ao) ∧ Aside0 (AP q.2.2 w' B2 d2 bi B3 d3 bo) ∧ Aside0 (AP q.2.2 w' C2 e2 ci C3 e3 co) ∧ Aside0 (AP q.2.2 w' X0A x0c im0 Y0A y0c os0) ∧ Aside0 (AP q.2.2 w' q.1.1 q.1.2 im1 q.2.1.1 q.2.1.2 os1) ∧ Aside0 (w'.heap[q.2.2]? = some (.cells #[.int .i64 0, .int .i64 0, .slice none 0 0, .slice none 0 0] 27 (0, 0))) ∧ Aside0 (b < q.2.2 ∧ b + 1 < q.2.2 ∧ b + 2 < q.2.2 ∧ b0M < q.2.2)) ?hcont ?hord
    case hord =>
      intro JN
      have JNN := Aside0.mk JN
      clear JN
      refine two_ (i := 1) (j := 8) (Ni := some 41) (Nj := some 10) #[true, true, true, false, false, false, false, false, false, false, false] #[true, false, true, false, false, false, false, false, true, false, false] rfl rfl rfl rfl (two_of HT_.out (by kernel_rfl)) (by decide) (by decide) (fun K hK => ?_) (fun K hK => ?_)
      · refine goes_ Try.func16 (by kernel_rfl) rfl #[.agg #[.int .i64 bk, .int .i64 bs, .slice B2 bi.length d2, .slice B3 bo.length d3]] (by rfl) rfl rfl ma_ ?_
        refine (ours_c NY27.out.nc bk bs).mono ?_
        rintro e v28w ⟨rfl, hb⟩
        refine ⟨_, rfl, ?_⟩
        have HX28 := Aside0.mk (HX27.out.next hb)
        have HY28 := Aside0.mk (HY27.out.next hb)
        have HZ28 := Aside0.mk (HZ27.out.next hb)
        have HM028 := Aside0.mk (HM027.out.next hb)
        have NX28 := Aside0.mk (NX27.out.below hb)
        have NY28 := Aside0.mk (NY27.out.below hb)
        have NZ28 := Aside0.mk (NZ27.out.below hb)
        have NM028 := Aside0.mk (NM027.out.below hb)
        clear hb HX27 HY27 HZ27 HM027 NX27 NY27 NZ27 NM027
        refine hK.out _ _ ⟨HY28.out.x0, HY28.out.x1, HY28.out.x2, HY28.out.x3, HZ28.out.x0, HZ28.out.x1, HZ28.out.x2, HZ28.out.x3⟩ (fun hHeld => ?_)
        clear hK K
        refine two_ (i := 3) (j := 8) (Ni := some 43) (Nj := some 10) #[true, true, true, true, false, false, false, false, false, false, false] #[true, true, true, false, false, false, false, false, true, false, false] rfl rfl rfl rfl (two_of HT_.out (by kernel_rfl)) (by decide) (by decide) (fun K hK => ?_) (fun K hK => ?_)
        · refine goes_ Try.func16 (by kernel_rfl) rfl #[.agg #[.int .i64 ck, .int .i64 cs_, .slice C2 ci.length e2, .slice C3 co.length e3]] (by rfl) rfl rfl ma_ ?_
          refine (ours_c NZ28.out.nc ck cs_).mono ?_
          rintro e v29w ⟨rfl, hb⟩
          refine ⟨_, rfl, ?_⟩
          have HX29 := Aside0.mk (HX28.out.next hb)
          have HY29 := Aside0.mk (HY28.out.next hb)
          have HZ29 := Aside0.mk (HZ28.out.next hb)
          have HM029 := Aside0.mk (HM028.out.next hb)
          have NX29 := Aside0.mk (NX28.out.below hb)
          have NY29 := Aside0.mk (NY28.out.below hb)
          have NZ29 := Aside0.mk (NZ28.out.below hb)
          have NM029 := Aside0.mk (NM028.out.below hb)
          clear hb HX28 HY28 HZ28 HM028 NX28 NY28 NZ28 NM028
          refine hK.out _ _ ⟨HY29.out.x0, HY29.out.x1, HY29.out.x2, HY29.out.x3, HZ29.out.x0, HZ29.out.x1, HZ29.out.x2, HZ29.out.x3⟩ (fun hHeld => ?_)
          clear hK K
          refine two_ (i := 4) (j := 8) (Ni := some 44) (Nj := some 10) #[true, true, true, true, true, false, false, false, false, false, false] #[true, true, true, true, false, false, false, false, true, false, false] rfl rfl rfl rfl (two_of HT_.out (by kernel_rfl)) (by decide) (by decide) (fun K hK => ?_) (fun K hK => ?_)
          · refine goes_ Try.func18 (by kernel_rfl) rfl #[.agg #[.int .i64 bk, .int .i64 bs, .slice B2 bi.length d2, .slice B3 bo.length d3], .agg #[.int .i64 ck, .int .i64 cs_, .slice C2 ci.length e2, .slice C3 co.length e3]] (by rfl) rfl rfl ma_ ?_
            refine (merge_nf NY29.out NZ29.out bk bs ck cs_ (by have := HL.out; omega) (im := im1) (os := os1) k1 s1 0 HM1.out).mono ?_
            rintro e v30w ⟨XA, xc, YA, yc, rfl, hn, hb⟩
            refine ⟨_, rfl, ?_⟩
            have HX30 := Aside0.mk (HX29.out.next hb)
            have HY30 := Aside0.mk (HY29.out.next hb)
            have HZ30 := Aside0.mk (HZ29.out.next hb)
            have HM030 := Aside0.mk (HM029.out.next hb)
            have NX30 := Aside0.mk (NX29.out.below hb)
            have NY30 := Aside0.mk (NY29.out.below hb)
            have NZ30 := Aside0.mk (NZ29.out.below hb)
            have NM030 := Aside0.mk (NM029.out.below hb)
            clear hb HX29 HY29 HZ29 HM029 NX29 NY29 NZ29 NM029
            have NNew30 := Aside0.mk hn
            refine hK.out _ _ ⟨HY30.out.x0, HY30.out.x1, HY30.out.x2, HY30.out.x3, HZ30.out.x0, HZ30.out.x1, HZ30.out.x2, HZ30.out.x3⟩ (fun hHeld => ?_)
            clear hK K
            refine pz_ 5 39 HT_ ?_
            refine pz_ 6 45 HT_ ?_
            refine pz_ 7 46 HT_ ?_
            refine oz_ 8 10 HT_ (fun K hK => ?_)
            refine value_ (by rfl) rfl (v := .pointer (some ⟨v30w.heap.size, 0, none⟩)) (w1 := v30w.alloc (.cells #[.int .i64 0, .int .i64 0, .slice none 0 0, .slice none 0 0] 27)) (by first | (go_simp; done) | (go_simp; rfl)) ?_
            have hb : Below v30w.heap.size v30w (v30w.alloc (.cells #[.int .i64 0, .int .i64 0, .slice none 0 0, .slice none 0 0] 27)) := (Below.refl _ _).alloc (Nat.le_refl _) _
            have hx := blk_new v30w (.cells #[.int .i64 0, .int .i64 0, .slice none 0 0, .slice none 0 0] 27)
            have hl0 := blk_lt HX30.out.at_
            have hl1 := blk_lt HY30.out.at_
            have hl2 := blk_lt HZ30.out.at_
            have hl3 := blk_lt HM030.out.at_
            obtain ⟨bM, hbM⟩ : ∃ bM, v30w.heap.size = bM := ⟨_, rfl⟩
            rw [hbM] at hx hl0 hl1 hl2 hl3
            rw [hbM]
            have hle := Nat.le_of_eq hbM
            clear hbM
            generalize v30w.alloc (.cells #[.int .i64 0, .int .i64 0, .slice none 0 0, .slice none 0 0] 27) = v31w at *
            have LT := Aside0.mk (show b < bM ∧ b + 1 < bM ∧ b + 2 < bM ∧ b0M < bM from ⟨hl0, hl1, hl2, hl3⟩)
            clear hl0 hl1 hl2 hl3
            have HX31 := Aside0.mk (HX30.out.next hb)
            have HY31 := Aside0.mk (HY30.out.next hb)
            have HZ31 := Aside0.mk (HZ30.out.next hb)
            have HM031 := Aside0.mk (HM030.out.next hb)
            have NX31 := Aside0.mk ((NF.ap NX30.out (b := bM) hle).below hb)
            have NY31 := Aside0.mk ((NF.ap NY30.out (b := bM) hle).below hb)
            have NZ31 := Aside0.mk ((NF.ap NZ30.out (b := bM) hle).below hb)
            have NM031 := Aside0.mk ((NF.ap NM030.out (b := bM) hle).below hb)
            have NNew31 := Aside0.mk ((NF.ap NNew30.out (b := bM) hle).below hb)
            clear hb HX30 HY30 HZ30 HM030 NX30 NY30 NZ30 NM030 hle
            have TT31 := Aside0.mk hx
            refine hK.out _ _ ⟨HY31.out.x0, HY31.out.x1, HY31.out.x2, HY31.out.x3, HZ31.out.x0, HZ31.out.x1, HZ31.out.x2, HZ31.out.x3⟩ (fun hHeld => ?_)
            clear hK K
            exact norm_ pu_ (JNN.out ((XA, xc), (YA, yc), bM) _ ⟨HX31, HY31, HZ31, HM031, NX31, NY31, NZ31, NM031, NNew31, TT31, LT⟩)
          · refine value_ (by rfl) rfl (v := .pointer (some ⟨v29w.heap.size, 0, none⟩)) (w1 := v29w.alloc (.cells #[.int .i64 0, .int .i64 0, .slice none 0 0, .slice none 0 0] 27)) (by first | (go_simp; done) | (go_simp; rfl)) ?_
            have hb : Below v29w.heap.size v29w (v29w.alloc (.cells #[.int .i64 0, .int .i64 0, .slice none 0 0, .slice none 0 0] 27)) := (Below.refl _ _).alloc (Nat.le_refl _) _
            have hx := blk_new v29w (.cells #[.int .i64 0, .int .i64 0, .slice none 0 0, .slice none 0 0] 27)
            have hl0 := blk_lt HX29.out.at_
            have hl1 := blk_lt HY29.out.at_
            have hl2 := blk_lt HZ29.out.at_
            have hl3 := blk_lt HM029.out.at_
            obtain ⟨bM, hbM⟩ : ∃ bM, v29w.heap.size = bM := ⟨_, rfl⟩
            rw [hbM] at hx hl0 hl1 hl2 hl3
            rw [hbM]
            have hle := Nat.le_of_eq hbM
            clear hbM
            generalize v29w.alloc (.cells #[.int .i64 0, .int .i64 0, .slice none 0 0, .slice none 0 0] 27) = v32w at *
            have LT := Aside0.mk (show b < bM ∧ b + 1 < bM ∧ b + 2 < bM ∧ b0M < bM from ⟨hl0, hl1, hl2, hl3⟩)
            clear hl0 hl1 hl2 hl3
            have HX30 := Aside0.mk (HX29.out.next hb)
            have HY30 := Aside0.mk (HY29.out.next hb)
            have HZ30 := Aside0.mk (HZ29.out.next hb)
            have HM030 := Aside0.mk (HM029.out.next hb)
            have NX30 := Aside0.mk ((NF.ap NX29.out (b := bM) hle).below hb)
            have NY30 := Aside0.mk ((NF.ap NY29.out (b := bM) hle).below hb)
            have NZ30 := Aside0.mk ((NF.ap NZ29.out (b := bM) hle).below hb)
            have NM030 := Aside0.mk ((NF.ap NM029.out (b := bM) hle).below hb)
            clear hb HX29 HY29 HZ29 HM029 NX29 NY29 NZ29 NM029 hle
            have TT30 := Aside0.mk hx
            refine hK.out _ _ ⟨HY30.out.x0, HY30.out.x1, HY30.out.x2, HY30.out.x3, HZ30.out.x0, HZ30.out.x1, HZ30.out.x2, HZ30.out.x3⟩ (fun hHeld => ?_)
            clear hK K
            refine oz_ 4 44 HT_ (fun K hK => ?_)
            refine goes_ Try.func18 (by kernel_rfl) rfl #[.agg #[.int .i64 bk, .int .i64 bs, .slice B2 bi.length d2, .slice B3 bo.length d3], .agg #[.int .i64 ck, .int .i64 cs_, .slice C2 ci.length e2, .slice C3 co.length e3]] (by rfl) rfl rfl ma_ ?_
            refine (merge_ap NY30.out NZ30.out (blk_lt TT30.out) bk bs ck cs_ (by have := HL.out; omega) (im := im1) (os := os1) k1 s1 0 HM1.out).mono ?_
            rintro e v33w ⟨XA, xc, YA, yc, rfl, hn, hb⟩
            refine ⟨_, rfl, ?_⟩
            have HX31 := Aside0.mk (HX30.out.next hb)
            have HY31 := Aside0.mk (HY30.out.next hb)
            have HZ31 := Aside0.mk (HZ30.out.next hb)
            have HM031 := Aside0.mk (HM030.out.next hb)
            have NX31 := Aside0.mk (NX30.out.below hb)
            have NY31 := Aside0.mk (NY30.out.below hb)
            have NZ31 := Aside0.mk (NZ30.out.below hb)
            have NM031 := Aside0.mk (NM030.out.below hb)
            have TT31 := Aside0.mk (blk_below TT30.out hb)
            clear hb HX30 HY30 HZ30 HM030 NX30 NY30 NZ30 NM030
            have NNew31 := Aside0.mk hn
            refine hK.out _ _ ⟨HY31.out.x0, HY31.out.x1, HY31.out.x2, HY31.out.x3, HZ31.out.x0, HZ31.out.x1, HZ31.out.x2, HZ31.out.x3⟩ (fun hHeld => ?_)
            clear hK K
            refine pz_ 5 39 HT_ ?_
            refine pz_ 6 45 HT_ ?_
            refine pz_ 7 46 HT_ ?_
            exact norm_ pu_ (JNN.out ((XA, xc), (YA, yc), bM) _ ⟨HX31, HY31, HZ31, HM031, NX31, NY31, NZ31, NM031, NNew31, TT31, LT⟩)
        · refine value_ (by rfl) rfl (v := .pointer (some ⟨v28w.heap.size, 0, none⟩)) (w1 := v28w.alloc (.cells #[.int .i64 0, .int .i64 0, .slice none 0 0, .slice none 0 0] 27)) (by first | (go_simp; done) | (go_simp; rfl)) ?_
          have hb : Below v28w.heap.size v28w (v28w.alloc (.cells #[.int .i64 0, .int .i64 0, .slice none 0 0, .slice none 0 0] 27)) := (Below.refl _ _).alloc (Nat.le_refl _) _
          have hx := blk_new v28w (.cells #[.int .i64 0, .int .i64 0, .slice none 0 0, .slice none 0 0] 27)
          have hl0 := blk_lt HX28.out.at_
          have hl1 := blk_lt HY28.out.at_
          have hl2 := blk_lt HZ28.out.at_
          have hl3 := blk_lt HM028.out.at_
          obtain ⟨bM, hbM⟩ : ∃ bM, v28w.heap.size = bM := ⟨_, rfl⟩
          rw [hbM] at hx hl0 hl1 hl2 hl3
          rw [hbM]
          have hle := Nat.le_of_eq hbM
          clear hbM
          generalize v28w.alloc (.cells #[.int .i64 0, .int .i64 0, .slice none 0 0, .slice none 0 0] 27) = v34w at *
          have LT := Aside0.mk (show b < bM ∧ b + 1 < bM ∧ b + 2 < bM ∧ b0M < bM from ⟨hl0, hl1, hl2, hl3⟩)
          clear hl0 hl1 hl2 hl3
          have HX29 := Aside0.mk (HX28.out.next hb)
          have HY29 := Aside0.mk (HY28.out.next hb)
          have HZ29 := Aside0.mk (HZ28.out.next hb)
          have HM029 := Aside0.mk (HM028.out.next hb)
          have NX29 := Aside0.mk ((NF.ap NX28.out (b := bM) hle).below hb)
          have NY29 := Aside0.mk ((NF.ap NY28.out (b := bM) hle).below hb)
          have NZ29 := Aside0.mk ((NF.ap NZ28.out (b := bM) hle).below hb)
          have NM029 := Aside0.mk ((NF.ap NM028.out (b := bM) hle).below hb)
          clear hb HX28 HY28 HZ28 HM028 NX28 NY28 NZ28 NM028 hle
          have TT29 := Aside0.mk hx
          refine hK.out _ _ ⟨HY29.out.x0, HY29.out.x1, HY29.out.x2, HY29.out.x3, HZ29.out.x0, HZ29.out.x1, HZ29.out.x2, HZ29.out.x3⟩ (fun hHeld => ?_)
          clear hK K
          refine oz_ 3 43 HT_ (fun K hK => ?_)
          refine goes_ Try.func16 (by kernel_rfl) rfl #[.agg #[.int .i64 ck, .int .i64 cs_, .slice C2 ci.length e2, .slice C3 co.length e3]] (by rfl) rfl rfl ma_ ?_
          refine (ours_c NZ29.out.nc ck cs_).mono ?_
          rintro e v35w ⟨rfl, hb⟩
          refine ⟨_, rfl, ?_⟩
          have HX30 := Aside0.mk (HX29.out.next hb)
          have HY30 := Aside0.mk (HY29.out.next hb)
          have HZ30 := Aside0.mk (HZ29.out.next hb)
          have HM030 := Aside0.mk (HM029.out.next hb)
          have NX30 := Aside0.mk (NX29.out.below hb)
          have NY30 := Aside0.mk (NY29.out.below hb)
          have NZ30 := Aside0.mk (NZ29.out.below hb)
          have NM030 := Aside0.mk (NM029.out.below hb)
          have TT30 := Aside0.mk (blk_below TT29.out hb)
          clear hb HX29 HY29 HZ29 HM029 NX29 NY29 NZ29 NM029
          refine hK.out _ _ ⟨HY30.out.x0, HY30.out.x1, HY30.out.x2, HY30.out.x3, HZ30.out.x0, HZ30.out.x1, HZ30.out.x2, HZ30.out.x3⟩ (fun hHeld => ?_)
          clear hK K
          refine oz_ 4 44 HT_ (fun K hK => ?_)
          refine goes_ Try.func18 (by kernel_rfl) rfl #[.agg #[.int .i64 bk, .int .i64 bs, .slice B2 bi.length d2, .slice B3 bo.length d3], .agg #[.int .i64 ck, .int .i64 cs_, .slice C2 ci.length e2, .slice C3 co.length e3]] (by rfl) rfl rfl ma_ ?_
          refine (merge_ap NY30.out NZ30.out (blk_lt TT30.out) bk bs ck cs_ (by have := HL.out; omega) (im := im1) (os := os1) k1 s1 0 HM1.out).mono ?_
          rintro e v36w ⟨XA, xc, YA, yc, rfl, hn, hb⟩
          refine ⟨_, rfl, ?_⟩
          have HX31 := Aside0.mk (HX30.out.next hb)
          have HY31 := Aside0.mk (HY30.out.next hb)
          have HZ31 := Aside0.mk (HZ30.out.next hb)
          have HM031 := Aside0.mk (HM030.out.next hb)
          have NX31 := Aside0.mk (NX30.out.below hb)
          have NY31 := Aside0.mk (NY30.out.below hb)
          have NZ31 := Aside0.mk (NZ30.out.below hb)
          have NM031 := Aside0.mk (NM030.out.below hb)
          have TT31 := Aside0.mk (blk_below TT30.out hb)
          clear hb HX30 HY30 HZ30 HM030 NX30 NY30 NZ30 NM030
          have NNew31 := Aside0.mk hn
          refine hK.out _ _ ⟨HY31.out.x0, HY31.out.x1, HY31.out.x2, HY31.out.x3, HZ31.out.x0, HZ31.out.x1, HZ31.out.x2, HZ31.out.x3⟩ (fun hHeld => ?_)
          clear hK K
          refine pz_ 5 39 HT_ ?_
          refine pz_ 6 45 HT_ ?_
          refine pz_ 7 46 HT_ ?_
          exact norm_ pu_ (JNN.out ((XA, xc), (YA, yc), bM) _ ⟨HX31, HY31, HZ31, HM031, NX31, NY31, NZ31, NM031, NNew31, TT31, LT⟩)
      · refine value_ (by rfl) rfl (v := .pointer (some ⟨w27.heap.size, 0, none⟩)) (w1 := w27.alloc (.cells #[.int .i64 0, .int .i64 0, .slice none 0 0, .slice none 0 0] 27)) (by first | (go_simp; done) | (go_simp; rfl)) ?_
        have hb : Below w27.heap.size w27 (w27.alloc (.cells #[.int .i64 0, .int .i64 0, .slice none 0 0, .slice none 0 0] 27)) := (Below.refl _ _).alloc (Nat.le_refl _) _
        have hx := blk_new w27 (.cells #[.int .i64 0, .int .i64 0, .slice none 0 0, .slice none 0 0] 27)
        have hl0 := blk_lt HX27.out.at_
        have hl1 := blk_lt HY27.out.at_
        have hl2 := blk_lt HZ27.out.at_
        have hl3 := blk_lt HM027.out.at_
        obtain ⟨bM, hbM⟩ : ∃ bM, w27.heap.size = bM := ⟨_, rfl⟩
        rw [hbM] at hx hl0 hl1 hl2 hl3
        rw [hbM]
        have hle := Nat.le_of_eq hbM
        clear hbM
        generalize w27.alloc (.cells #[.int .i64 0, .int .i64 0, .slice none 0 0, .slice none 0 0] 27) = v37w at *
        have LT := Aside0.mk (show b < bM ∧ b + 1 < bM ∧ b + 2 < bM ∧ b0M < bM from ⟨hl0, hl1, hl2, hl3⟩)
        clear hl0 hl1 hl2 hl3
        have HX28 := Aside0.mk (HX27.out.next hb)
        have HY28 := Aside0.mk (HY27.out.next hb)
        have HZ28 := Aside0.mk (HZ27.out.next hb)
        have HM028 := Aside0.mk (HM027.out.next hb)
        have NX28 := Aside0.mk ((NF.ap NX27.out (b := bM) hle).below hb)
        have NY28 := Aside0.mk ((NF.ap NY27.out (b := bM) hle).below hb)
        have NZ28 := Aside0.mk ((NF.ap NZ27.out (b := bM) hle).below hb)
        have NM028 := Aside0.mk ((NF.ap NM027.out (b := bM) hle).below hb)
        clear hb HX27 HY27 HZ27 HM027 NX27 NY27 NZ27 NM027 hle
        have TT28 := Aside0.mk hx
        refine hK.out _ _ ⟨HY28.out.x0, HY28.out.x1, HY28.out.x2, HY28.out.x3, HZ28.out.x0, HZ28.out.x1, HZ28.out.x2, HZ28.out.x3⟩ (fun hHeld => ?_)
        clear hK K
        refine oz_ 1 41 HT_ (fun K hK => ?_)
        refine goes_ Try.func16 (by kernel_rfl) rfl #[.agg #[.int .i64 bk, .int .i64 bs, .slice B2 bi.length d2, .slice B3 bo.length d3]] (by rfl) rfl rfl ma_ ?_
        refine (ours_c NY28.out.nc bk bs).mono ?_
        rintro e v38w ⟨rfl, hb⟩
        refine ⟨_, rfl, ?_⟩
        have HX29 := Aside0.mk (HX28.out.next hb)
        have HY29 := Aside0.mk (HY28.out.next hb)
        have HZ29 := Aside0.mk (HZ28.out.next hb)
        have HM029 := Aside0.mk (HM028.out.next hb)
        have NX29 := Aside0.mk (NX28.out.below hb)
        have NY29 := Aside0.mk (NY28.out.below hb)
        have NZ29 := Aside0.mk (NZ28.out.below hb)
        have NM029 := Aside0.mk (NM028.out.below hb)
        have TT29 := Aside0.mk (blk_below TT28.out hb)
        clear hb HX28 HY28 HZ28 HM028 NX28 NY28 NZ28 NM028
        refine hK.out _ _ ⟨HY29.out.x0, HY29.out.x1, HY29.out.x2, HY29.out.x3, HZ29.out.x0, HZ29.out.x1, HZ29.out.x2, HZ29.out.x3⟩ (fun hHeld => ?_)
        clear hK K
        refine oz_ 3 43 HT_ (fun K hK => ?_)
        refine goes_ Try.func16 (by kernel_rfl) rfl #[.agg #[.int .i64 ck, .int .i64 cs_, .slice C2 ci.length e2, .slice C3 co.length e3]] (by rfl) rfl rfl ma_ ?_
        refine (ours_c NZ29.out.nc ck cs_).mono ?_
        rintro e v39w ⟨rfl, hb⟩
        refine ⟨_, rfl, ?_⟩
        have HX30 := Aside0.mk (HX29.out.next hb)
        have HY30 := Aside0.mk (HY29.out.next hb)
        have HZ30 := Aside0.mk (HZ29.out.next hb)
        have HM030 := Aside0.mk (HM029.out.next hb)
        have NX30 := Aside0.mk (NX29.out.below hb)
        have NY30 := Aside0.mk (NY29.out.below hb)
        have NZ30 := Aside0.mk (NZ29.out.below hb)
        have NM030 := Aside0.mk (NM029.out.below hb)
        have TT30 := Aside0.mk (blk_below TT29.out hb)
        clear hb HX29 HY29 HZ29 HM029 NX29 NY29 NZ29 NM029
        refine hK.out _ _ ⟨HY30.out.x0, HY30.out.x1, HY30.out.x2, HY30.out.x3, HZ30.out.x0, HZ30.out.x1, HZ30.out.x2, HZ30.out.x3⟩ (fun hHeld => ?_)
        clear hK K
        refine oz_ 4 44 HT_ (fun K hK => ?_)
        refine goes_ Try.func18 (by kernel_rfl) rfl #[.agg #[.int .i64 bk, .int .i64 bs, .slice B2 bi.length d2, .slice B3 bo.length d3], .agg #[.int .i64 ck, .int .i64 cs_, .slice C2 ci.length e2, .slice C3 co.length e3]] (by rfl) rfl rfl ma_ ?_
        refine (merge_ap NY30.out NZ30.out (blk_lt TT30.out) bk bs ck cs_ (by have := HL.out; omega) (im := im1) (os := os1) k1 s1 0 HM1.out).mono ?_
        rintro e v40w ⟨XA, xc, YA, yc, rfl, hn, hb⟩
        refine ⟨_, rfl, ?_⟩
        have HX31 := Aside0.mk (HX30.out.next hb)
        have HY31 := Aside0.mk (HY30.out.next hb)
        have HZ31 := Aside0.mk (HZ30.out.next hb)
        have HM031 := Aside0.mk (HM030.out.next hb)
        have NX31 := Aside0.mk (NX30.out.below hb)
        have NY31 := Aside0.mk (NY30.out.below hb)
        have NZ31 := Aside0.mk (NZ30.out.below hb)
        have NM031 := Aside0.mk (NM030.out.below hb)
        have TT31 := Aside0.mk (blk_below TT30.out hb)
        clear hb HX30 HY30 HZ30 HM030 NX30 NY30 NZ30 NM030
        have NNew31 := Aside0.mk hn
        refine hK.out _ _ ⟨HY31.out.x0, HY31.out.x1, HY31.out.x2, HY31.out.x3, HZ31.out.x0, HZ31.out.x1, HZ31.out.x2, HZ31.out.x3⟩ (fun hHeld => ?_)
        clear hK K
        refine pz_ 5 39 HT_ ?_
        refine pz_ 6 45 HT_ ?_
        refine pz_ 7 46 HT_ ?_
        exact norm_ pu_ (JNN.out ((XA, xc), (YA, yc), bM) _ ⟨HX31, HY31, HZ31, HM031, NX31, NY31, NZ31, NM031, NNew31, TT31, LT⟩)
    case hcont =>
      rintro ⟨⟨X1A, x1c⟩, ⟨Y1A, y1c⟩, b1M⟩ w47 ⟨HX47, HY47, HZ47, HM047, NX47, NY47, NZ47, NM047, NNew, TT, LT⟩
      simp only at NNew TT LT
      refine norm_ (a' := ?_) ?_ ?_
      rotate_left
      · simp only [putAll, Act.put, List.setIfInBounds_toArray, List.set_cons_zero, List.set_cons_succ]; rfl
      clear HX27 HY27 HZ27 HM027 NX27 NY27 NZ27 NM027
      refine last_ (i := 9) (N := none) #[true, true, true, true, true, true, true, true, true, true, false] rfl rfl (one_of HT_.out (by kernel_rfl)) (by decide) (fun K hK => ?_)
      obtain ⟨z0, f0, z1, f1, z2, f2, z3, f3, k4⟩ := put4c (.int .i64 k1) (.int .i64 s1) (.slice X1A im1.length x1c) (.slice Y1A os1.length y1c) TT.out
      have hge : w.heap.size ≤ b1M := by have := HX47.out.ge; have := LT.out; omega
      have HX48 := Aside0.mk (B4.set (B4.set (B4.set (B4.set HX47.out (k := 0) (show b ≠ b1M by have := LT.out; omega) hge (.int .i64 k1)) (k := 1) (show b ≠ b1M by have := LT.out; omega) hge (.int .i64 s1)) (k := 2) (show b ≠ b1M by have := LT.out; omega) hge (.slice X1A im1.length x1c)) (k := 3) (show b ≠ b1M by have := LT.out; omega) hge (.slice Y1A os1.length y1c))
      have HY48 := Aside0.mk (B4.set (B4.set (B4.set (B4.set HY47.out (k := 0) (show b + 1 ≠ b1M by have := LT.out; omega) hge (.int .i64 k1)) (k := 1) (show b + 1 ≠ b1M by have := LT.out; omega) hge (.int .i64 s1)) (k := 2) (show b + 1 ≠ b1M by have := LT.out; omega) hge (.slice X1A im1.length x1c)) (k := 3) (show b + 1 ≠ b1M by have := LT.out; omega) hge (.slice Y1A os1.length y1c))
      have HZ48 := Aside0.mk (B4.set (B4.set (B4.set (B4.set HZ47.out (k := 0) (show b + 2 ≠ b1M by have := LT.out; omega) hge (.int .i64 k1)) (k := 1) (show b + 2 ≠ b1M by have := LT.out; omega) hge (.int .i64 s1)) (k := 2) (show b + 2 ≠ b1M by have := LT.out; omega) hge (.slice X1A im1.length x1c)) (k := 3) (show b + 2 ≠ b1M by have := LT.out; omega) hge (.slice Y1A os1.length y1c))
      have HM048 := Aside0.mk (B4.set (B4.set (B4.set (B4.set HM047.out (k := 0) (show b0M ≠ b1M by have := LT.out; omega) hge (.int .i64 k1)) (k := 1) (show b0M ≠ b1M by have := LT.out; omega) hge (.int .i64 s1)) (k := 2) (show b0M ≠ b1M by have := LT.out; omega) hge (.slice X1A im1.length x1c)) (k := 3) (show b0M ≠ b1M by have := LT.out; omega) hge (.slice Y1A os1.length y1c))
      have far : ∀ j, j ≠ b1M → ((((w47.setCell ⟨b1M, 0, none⟩ (.int .i64 k1)).setCell ⟨b1M, 1, none⟩ (.int .i64 s1)).setCell ⟨b1M, 2, none⟩ (.slice X1A im1.length x1c)).setCell ⟨b1M, 3, none⟩ (.slice Y1A os1.length y1c)).heap[j]? = w47.heap[j]? := fun j hj => far4 hj
      have NX48 := Aside0.mk (AP.far NX47.out far)
      have NY48 := Aside0.mk (AP.far NY47.out far)
      have NZ48 := Aside0.mk (AP.far NZ47.out far)
      have NM048 := Aside0.mk (AP.far NM047.out far)
      have NM148 := Aside0.mk (AP.far NNew.out far)
      have HM148 := Aside0.mk (show B4 w b1M 27 (.int .i64 k1) (.int .i64 s1) (.slice X1A im1.length x1c) (.slice Y1A os1.length y1c) ((((w47.setCell ⟨b1M, 0, none⟩ (.int .i64 k1)).setCell ⟨b1M, 1, none⟩ (.int .i64 s1)).setCell ⟨b1M, 2, none⟩ (.slice X1A im1.length x1c)).setCell ⟨b1M, 3, none⟩ (.slice Y1A os1.length y1c)) from ⟨HX48.out.below, k4, hge⟩)
      clear k4 far hge TT LT NNew HX47 HY47 HZ47 HM047 NX47 NY47 NZ47 NM047
      refine skip_ (w1 := (((w47.setCell ⟨b1M, 0, none⟩ (.int .i64 k1)).setCell ⟨b1M, 1, none⟩ (.int .i64 s1)).setCell ⟨b1M, 2, none⟩ (.slice X1A im1.length x1c)).setCell ⟨b1M, 3, none⟩ (.slice Y1A os1.length y1c)) (by rfl) rfl (by first | (go_simp; done) | (go_simp; rfl)) ?_
      refine hK.out _ _ ?_
      clear hK K z0 f0 z1 f1 z2 f2 z3 f3
      refine last_ (i := 10) (N := some 11) #[true, true, true, true, true, true, true, true, true, true, true] rfl rfl (one_of HT_.out (by kernel_rfl)) (by decide) (fun K hK => ?_)
      refine value_ (v := .int .i64 0) (w1 := (((w47.setCell ⟨b1M, 0, none⟩ (.int .i64 k1)).setCell ⟨b1M, 1, none⟩ (.int .i64 s1)).setCell ⟨b1M, 2, none⟩ (.slice X1A im1.length x1c)).setCell ⟨b1M, 3, none⟩ (.slice Y1A os1.length y1c)) (by rfl) rfl (by first | (go_simp; done) | (go_simp; rfl)) ?_
      refine hK.out _ _ ?_
      clear hK K
      refine done_ (done_of HT_.out (by kernel_rfl)) ?_
      clear HT_ HW_ hHeld
      generalize (((w47.setCell ⟨b1M, 0, none⟩ (.int .i64 k1)).setCell ⟨b1M, 1, none⟩ (.int .i64 s1)).setCell ⟨b1M, 2, none⟩ (.slice X1A im1.length x1c)).setCell ⟨b1M, 3, none⟩ (.slice Y1A os1.length y1c) = w48 at *
      have xX0 := HX48.out.x0; have xX1 := HX48.out.x1; have xX2 := HX48.out.x2; have xX3 := HX48.out.x3; have xY0 := HY48.out.x0; have xY1 := HY48.out.x1; have xY2 := HY48.out.x2; have xY3 := HY48.out.x3; have xZ0 := HZ48.out.x0; have xZ1 := HZ48.out.x1; have xZ2 := HZ48.out.x2; have xZ3 := HZ48.out.x3; have xM00 := HM048.out.x0; have xM01 := HM048.out.x1; have xM02 := HM048.out.x2; have xM03 := HM048.out.x3; have xM10 := HM148.out.x0; have xM11 := HM148.out.x1; have xM12 := HM148.out.x2; have xM13 := HM148.out.x3
      go_upto_region 6 with (fail)
      have hb : Below w48.heap.size w48 w48.drew := (Below.refl _ _).drew
      clear xX0 xX1 xX2 xX3 xY0 xY1 xY2 xY3 xZ0 xZ1 xZ2 xZ3 xM00 xM01 xM02 xM03 xM10 xM11 xM12 xM13
      have HX49 := Aside0.mk (HX48.out.next hb)
      have HY49 := Aside0.mk (HY48.out.next hb)
      have HZ49 := Aside0.mk (HZ48.out.next hb)
      have HM049 := Aside0.mk (HM048.out.next hb)
      have HM149 := Aside0.mk (HM148.out.next hb)
      have NX49 := Aside0.mk (NX48.out.below hb)
      have NY49 := Aside0.mk (NY48.out.below hb)
      have NZ49 := Aside0.mk (NZ48.out.below hb)
      have NM049 := Aside0.mk (NM048.out.below hb)
      have NM149 := Aside0.mk (NM148.out.below hb)
      clear hb HX48 HY48 HZ48 HM048 HM148 NX48 NY48 NZ48 NM048 NM148
      refine start_ (n := 10) (S := fun w' => w'.cell? ⟨b0M, 0, none⟩ = some (.int .i64 k0) ∧ w'.cell? ⟨b0M, 1, none⟩ = some (.int .i64 s0) ∧ w'.cell? ⟨b0M, 2, none⟩ = some (.slice X0A im0.length x0c) ∧ w'.cell? ⟨b0M, 3, none⟩ = some (.slice Y0A os0.length y0c) ∧ w'.cell? ⟨b + 2, 0, none⟩ = some (.int .i64 ck) ∧ w'.cell? ⟨b + 2, 1, none⟩ = some (.int .i64 cs_) ∧ w'.cell? ⟨b + 2, 2, none⟩ = some (.slice C2 ci.length e2) ∧ w'.cell? ⟨b + 2, 3, none⟩ = some (.slice C3 co.length e3)) (ds := [8, 9]) #[false, false, false, false, false, false, false, false, false, false] rfl rfl rfl ⟨HM049.out.x0, HM049.out.x1, HM049.out.x2, HM049.out.x3, HZ49.out.x0, HZ49.out.x1, HZ49.out.x2, HZ49.out.x3⟩ (fun hHeld => ?_)
      refine with_tabW regO6.tab regO6.bits (fun HT_ HW_ => ?_)
      generalize w48.drew = w49 at *
      clear w48
      refine tz_ 0 48 HT_ HW_ hHeld ?_
      refine tz_ 1 49 HT_ HW_ hHeld ?_
      refine join_ (σ := (Option Addr × Nat) × (Option Addr × Nat) × Nat) 2 #[true, true, true, true, true, true, true, true, false, false] (fun q => [(50, .agg #[.int .i64 ck, .int .i64 cs_, .slice C2 ci.length e2, .slice C3 co.length e3]), (51, .tuple #[.agg #[.int .i64 k2, .int .i64 s2, .slice q.1.1 im2.length q.1.2, .slice q.2.1.1 os2.length q.2.1.2], .int .i64 r2]), (47, .tuple #[.agg #[.int .i64 k2, .int .i64 s2, .slice q.1.1 im2.length q.1.2, .slice q.2.1.1 os2.length q.2.1.2], .int .i64 r2]), (52, .agg #[.int .i64 k2, .int .i64 s2, .slice q.1.1 im2.length q.1.2, .slice q.2.1.1 os2.length q.2.1.2]), (53, .int .i64 r2), (12, .pointer (some ⟨q.2.2, 0, none⟩))]) (fun q w' => Aside0 (B4 w (b) 32 (.int .i64 ak) (.int .i64 as_) (.slice A2 ai.length c2) (.slice A3 ao.length c3) w') ∧ Aside0 (B4 w (b + 1) 32 (.int .i64 bk) (.int .i64 bs) (.slice B2 bi.length d2) (.slice B3 bo.length d3) w') ∧ Aside0 (B4 w (b + 2) 32 (.int .i64 ck) (.int .i64 cs_) (.slice C2 ci.length e2) (.slice C3 co.length e3) w') ∧ Aside0 (B4 w (b0M) 27 (.int .i64 k0) (.int .i64 s0) (.slice X0A im0.length x0c) (.slice Y0A os0.length y0c) w') ∧ Aside0 (B4 w (b1M) 27 (.int .i64 k1) (.int .i64 s1) (.slice X1A im1.length x1c) (.slice Y1A os1.length y1c) w') ∧ Aside0 (AP q.2.2 w' A2 c2 ai A3 c3 ao) ∧ Aside0 (AP q.2.2 w' B2 d2 bi B3 d3 bo) ∧ Aside0 (AP q.2.2 w' C2 e2 ci C3 e3 co) ∧ Aside0 (AP q.2.2 w' X0A x0c im0 Y0A y0c os0) ∧ Aside0 (AP q.2.2 w' X1A x1c im1 Y1A y1c os1) ∧ Aside0 (AP q.2.2 w' q.1.1 q.1.2 im2 q.2.1.1 q.2.1.2 os2) ∧ Aside0 (w'.heap[q.2.2]? = some (.cells #[.int .i64 0, .int .i64 0, .slice none 0 0, .slice none 0 0] 27 (0, 0))) ∧ Aside0 (b < q.2.2 ∧ b + 1 < q.2.2 ∧ b + 2 < q.2.2 ∧ b0M < q.2.2 ∧ b1M < q.2.2)) ?hcont ?hord
      case hord =>
        intro JN
        have JNN := Aside0.mk JN
        clear JN
        refine two_ (i := 2) (j := 7) (Ni := some 50) (Nj := some 12) #[true, true, true, false, false, false, false, false, false, false] #[true, true, false, false, false, false, false, true, false, false] rfl rfl rfl rfl (two_of HT_.out (by kernel_rfl)) (by decide) (by decide) (fun K hK => ?_) (fun K hK => ?_)
        · refine goes_ Try.func16 (by kernel_rfl) rfl #[.agg #[.int .i64 ck, .int .i64 cs_, .slice C2 ci.length e2, .slice C3 co.length e3]] (by rfl) rfl rfl ma_ ?_
          refine (ours_c NZ49.out.nc ck cs_).mono ?_
          rintro e v50w ⟨rfl, hb⟩
          refine ⟨_, rfl, ?_⟩
          have HX50 := Aside0.mk (HX49.out.next hb)
          have HY50 := Aside0.mk (HY49.out.next hb)
          have HZ50 := Aside0.mk (HZ49.out.next hb)
          have HM050 := Aside0.mk (HM049.out.next hb)
          have HM150 := Aside0.mk (HM149.out.next hb)
          have NX50 := Aside0.mk (NX49.out.below hb)
          have NY50 := Aside0.mk (NY49.out.below hb)
          have NZ50 := Aside0.mk (NZ49.out.below hb)
          have NM050 := Aside0.mk (NM049.out.below hb)
          have NM150 := Aside0.mk (NM149.out.below hb)
          clear hb HX49 HY49 HZ49 HM049 HM149 NX49 NY49 NZ49 NM049 NM149
          refine hK.out _ _ ⟨HM050.out.x0, HM050.out.x1, HM050.out.x2, HM050.out.x3, HZ50.out.x0, HZ50.out.x1, HZ50.out.x2, HZ50.out.x3⟩ (fun hHeld => ?_)
          clear hK K
          refine two_ (i := 3) (j := 7) (Ni := some 51) (Nj := some 12) #[true, true, true, true, false, false, false, false, false, false] #[true, true, true, false, false, false, false, true, false, false] rfl rfl rfl rfl (two_of HT_.out (by kernel_rfl)) (by decide) (by decide) (fun K hK => ?_) (fun K hK => ?_)
          · refine goes_ Try.func18 (by kernel_rfl) rfl #[.agg #[.int .i64 k0, .int .i64 s0, .slice X0A im0.length x0c, .slice Y0A os0.length y0c], .agg #[.int .i64 ck, .int .i64 cs_, .slice C2 ci.length e2, .slice C3 co.length e3]] (by rfl) rfl rfl ma_ ?_
            refine (merge_nf NM050.out NZ50.out k0 s0 ck cs_ (by have := HL.out; omega) (im := im2) (os := os2) k2 s2 r2 HM2.out).mono ?_
            rintro e v51w ⟨XA, xc, YA, yc, rfl, hn, hb⟩
            refine ⟨_, rfl, ?_⟩
            have HX51 := Aside0.mk (HX50.out.next hb)
            have HY51 := Aside0.mk (HY50.out.next hb)
            have HZ51 := Aside0.mk (HZ50.out.next hb)
            have HM051 := Aside0.mk (HM050.out.next hb)
            have HM151 := Aside0.mk (HM150.out.next hb)
            have NX51 := Aside0.mk (NX50.out.below hb)
            have NY51 := Aside0.mk (NY50.out.below hb)
            have NZ51 := Aside0.mk (NZ50.out.below hb)
            have NM051 := Aside0.mk (NM050.out.below hb)
            have NM151 := Aside0.mk (NM150.out.below hb)
            clear hb HX50 HY50 HZ50 HM050 HM150 NX50 NY50 NZ50 NM050 NM150
            have NNew51 := Aside0.mk hn
            refine hK.out _ _ ⟨HM051.out.x0, HM051.out.x1, HM051.out.x2, HM051.out.x3, HZ51.out.x0, HZ51.out.x1, HZ51.out.x2, HZ51.out.x3⟩ (fun hHeld => ?_)
            clear hK K
            refine pz_ 4 47 HT_ ?_
            refine pz_ 5 52 HT_ ?_
            refine pz_ 6 53 HT_ ?_
            refine oz_ 7 12 HT_ (fun K hK => ?_)
            refine value_ (by rfl) rfl (v := .pointer (some ⟨v51w.heap.size, 0, none⟩)) (w1 := v51w.alloc (.cells #[.int .i64 0, .int .i64 0, .slice none 0 0, .slice none 0 0] 27)) (by first | (go_simp; done) | (go_simp; rfl)) ?_
            have hb : Below v51w.heap.size v51w (v51w.alloc (.cells #[.int .i64 0, .int .i64 0, .slice none 0 0, .slice none 0 0] 27)) := (Below.refl _ _).alloc (Nat.le_refl _) _
            have hx := blk_new v51w (.cells #[.int .i64 0, .int .i64 0, .slice none 0 0, .slice none 0 0] 27)
            have hl0 := blk_lt HX51.out.at_
            have hl1 := blk_lt HY51.out.at_
            have hl2 := blk_lt HZ51.out.at_
            have hl3 := blk_lt HM051.out.at_
            have hl4 := blk_lt HM151.out.at_
            obtain ⟨bM, hbM⟩ : ∃ bM, v51w.heap.size = bM := ⟨_, rfl⟩
            rw [hbM] at hx hl0 hl1 hl2 hl3 hl4
            rw [hbM]
            have hle := Nat.le_of_eq hbM
            clear hbM
            generalize v51w.alloc (.cells #[.int .i64 0, .int .i64 0, .slice none 0 0, .slice none 0 0] 27) = v52w at *
            have LT := Aside0.mk (show b < bM ∧ b + 1 < bM ∧ b + 2 < bM ∧ b0M < bM ∧ b1M < bM from ⟨hl0, hl1, hl2, hl3, hl4⟩)
            clear hl0 hl1 hl2 hl3 hl4
            have HX52 := Aside0.mk (HX51.out.next hb)
            have HY52 := Aside0.mk (HY51.out.next hb)
            have HZ52 := Aside0.mk (HZ51.out.next hb)
            have HM052 := Aside0.mk (HM051.out.next hb)
            have HM152 := Aside0.mk (HM151.out.next hb)
            have NX52 := Aside0.mk ((NF.ap NX51.out (b := bM) hle).below hb)
            have NY52 := Aside0.mk ((NF.ap NY51.out (b := bM) hle).below hb)
            have NZ52 := Aside0.mk ((NF.ap NZ51.out (b := bM) hle).below hb)
            have NM052 := Aside0.mk ((NF.ap NM051.out (b := bM) hle).below hb)
            have NM152 := Aside0.mk ((NF.ap NM151.out (b := bM) hle).below hb)
            have NNew52 := Aside0.mk ((NF.ap NNew51.out (b := bM) hle).below hb)
            clear hb HX51 HY51 HZ51 HM051 HM151 NX51 NY51 NZ51 NM051 NM151 hle
            have TT52 := Aside0.mk hx
            refine hK.out _ _ ⟨HM052.out.x0, HM052.out.x1, HM052.out.x2, HM052.out.x3, HZ52.out.x0, HZ52.out.x1, HZ52.out.x2, HZ52.out.x3⟩ (fun hHeld => ?_)
            clear hK K
            exact norm_ pu_ (JNN.out ((XA, xc), (YA, yc), bM) _ ⟨HX52, HY52, HZ52, HM052, HM152, NX52, NY52, NZ52, NM052, NM152, NNew52, TT52, LT⟩)
          · refine value_ (by rfl) rfl (v := .pointer (some ⟨v50w.heap.size, 0, none⟩)) (w1 := v50w.alloc (.cells #[.int .i64 0, .int .i64 0, .slice none 0 0, .slice none 0 0] 27)) (by first | (go_simp; done) | (go_simp; rfl)) ?_
            have hb : Below v50w.heap.size v50w (v50w.alloc (.cells #[.int .i64 0, .int .i64 0, .slice none 0 0, .slice none 0 0] 27)) := (Below.refl _ _).alloc (Nat.le_refl _) _
            have hx := blk_new v50w (.cells #[.int .i64 0, .int .i64 0, .slice none 0 0, .slice none 0 0] 27)
            have hl0 := blk_lt HX50.out.at_
            have hl1 := blk_lt HY50.out.at_
            have hl2 := blk_lt HZ50.out.at_
            have hl3 := blk_lt HM050.out.at_
            have hl4 := blk_lt HM150.out.at_
            obtain ⟨bM, hbM⟩ : ∃ bM, v50w.heap.size = bM := ⟨_, rfl⟩
            rw [hbM] at hx hl0 hl1 hl2 hl3 hl4
            rw [hbM]
            have hle := Nat.le_of_eq hbM
            clear hbM
            generalize v50w.alloc (.cells #[.int .i64 0, .int .i64 0, .slice none 0 0, .slice none 0 0] 27) = v53w at *
            have LT := Aside0.mk (show b < bM ∧ b + 1 < bM ∧ b + 2 < bM ∧ b0M < bM ∧ b1M < bM from ⟨hl0, hl1, hl2, hl3, hl4⟩)
            clear hl0 hl1 hl2 hl3 hl4
            have HX51 := Aside0.mk (HX50.out.next hb)
            have HY51 := Aside0.mk (HY50.out.next hb)
            have HZ51 := Aside0.mk (HZ50.out.next hb)
            have HM051 := Aside0.mk (HM050.out.next hb)
            have HM151 := Aside0.mk (HM150.out.next hb)
            have NX51 := Aside0.mk ((NF.ap NX50.out (b := bM) hle).below hb)
            have NY51 := Aside0.mk ((NF.ap NY50.out (b := bM) hle).below hb)
            have NZ51 := Aside0.mk ((NF.ap NZ50.out (b := bM) hle).below hb)
            have NM051 := Aside0.mk ((NF.ap NM050.out (b := bM) hle).below hb)
            have NM151 := Aside0.mk ((NF.ap NM150.out (b := bM) hle).below hb)
            clear hb HX50 HY50 HZ50 HM050 HM150 NX50 NY50 NZ50 NM050 NM150 hle
            have TT51 := Aside0.mk hx
            refine hK.out _ _ ⟨HM051.out.x0, HM051.out.x1, HM051.out.x2, HM051.out.x3, HZ51.out.x0, HZ51.out.x1, HZ51.out.x2, HZ51.out.x3⟩ (fun hHeld => ?_)
            clear hK K
            refine oz_ 3 51 HT_ (fun K hK => ?_)
            refine goes_ Try.func18 (by kernel_rfl) rfl #[.agg #[.int .i64 k0, .int .i64 s0, .slice X0A im0.length x0c, .slice Y0A os0.length y0c], .agg #[.int .i64 ck, .int .i64 cs_, .slice C2 ci.length e2, .slice C3 co.length e3]] (by rfl) rfl rfl ma_ ?_
            refine (merge_ap NM051.out NZ51.out (blk_lt TT51.out) k0 s0 ck cs_ (by have := HL.out; omega) (im := im2) (os := os2) k2 s2 r2 HM2.out).mono ?_
            rintro e v54w ⟨XA, xc, YA, yc, rfl, hn, hb⟩
            refine ⟨_, rfl, ?_⟩
            have HX52 := Aside0.mk (HX51.out.next hb)
            have HY52 := Aside0.mk (HY51.out.next hb)
            have HZ52 := Aside0.mk (HZ51.out.next hb)
            have HM052 := Aside0.mk (HM051.out.next hb)
            have HM152 := Aside0.mk (HM151.out.next hb)
            have NX52 := Aside0.mk (NX51.out.below hb)
            have NY52 := Aside0.mk (NY51.out.below hb)
            have NZ52 := Aside0.mk (NZ51.out.below hb)
            have NM052 := Aside0.mk (NM051.out.below hb)
            have NM152 := Aside0.mk (NM151.out.below hb)
            have TT52 := Aside0.mk (blk_below TT51.out hb)
            clear hb HX51 HY51 HZ51 HM051 HM151 NX51 NY51 NZ51 NM051 NM151
            have NNew52 := Aside0.mk hn
            refine hK.out _ _ ⟨HM052.out.x0, HM052.out.x1, HM052.out.x2, HM052.out.x3, HZ52.out.x0, HZ52.out.x1, HZ52.out.x2, HZ52.out.x3⟩ (fun hHeld => ?_)
            clear hK K
            refine pz_ 4 47 HT_ ?_
            refine pz_ 5 52 HT_ ?_
            refine pz_ 6 53 HT_ ?_
            exact norm_ pu_ (JNN.out ((XA, xc), (YA, yc), bM) _ ⟨HX52, HY52, HZ52, HM052, HM152, NX52, NY52, NZ52, NM052, NM152, NNew52, TT52, LT⟩)
        · refine value_ (by rfl) rfl (v := .pointer (some ⟨w49.heap.size, 0, none⟩)) (w1 := w49.alloc (.cells #[.int .i64 0, .int .i64 0, .slice none 0 0, .slice none 0 0] 27)) (by first | (go_simp; done) | (go_simp; rfl)) ?_
          have hb : Below w49.heap.size w49 (w49.alloc (.cells #[.int .i64 0, .int .i64 0, .slice none 0 0, .slice none 0 0] 27)) := (Below.refl _ _).alloc (Nat.le_refl _) _
          have hx := blk_new w49 (.cells #[.int .i64 0, .int .i64 0, .slice none 0 0, .slice none 0 0] 27)
          have hl0 := blk_lt HX49.out.at_
          have hl1 := blk_lt HY49.out.at_
          have hl2 := blk_lt HZ49.out.at_
          have hl3 := blk_lt HM049.out.at_
          have hl4 := blk_lt HM149.out.at_
          obtain ⟨bM, hbM⟩ : ∃ bM, w49.heap.size = bM := ⟨_, rfl⟩
          rw [hbM] at hx hl0 hl1 hl2 hl3 hl4
          rw [hbM]
          have hle := Nat.le_of_eq hbM
          clear hbM
          generalize w49.alloc (.cells #[.int .i64 0, .int .i64 0, .slice none 0 0, .slice none 0 0] 27) = v55w at *
          have LT := Aside0.mk (show b < bM ∧ b + 1 < bM ∧ b + 2 < bM ∧ b0M < bM ∧ b1M < bM from ⟨hl0, hl1, hl2, hl3, hl4⟩)
          clear hl0 hl1 hl2 hl3 hl4
          have HX50 := Aside0.mk (HX49.out.next hb)
          have HY50 := Aside0.mk (HY49.out.next hb)
          have HZ50 := Aside0.mk (HZ49.out.next hb)
          have HM050 := Aside0.mk (HM049.out.next hb)
          have HM150 := Aside0.mk (HM149.out.next hb)
          have NX50 := Aside0.mk ((NF.ap NX49.out (b := bM) hle).below hb)
          have NY50 := Aside0.mk ((NF.ap NY49.out (b := bM) hle).below hb)
          have NZ50 := Aside0.mk ((NF.ap NZ49.out (b := bM) hle).below hb)
          have NM050 := Aside0.mk ((NF.ap NM049.out (b := bM) hle).below hb)
          have NM150 := Aside0.mk ((NF.ap NM149.out (b := bM) hle).below hb)
          clear hb HX49 HY49 HZ49 HM049 HM149 NX49 NY49 NZ49 NM049 NM149 hle
          have TT50 := Aside0.mk hx
          refine hK.out _ _ ⟨HM050.out.x0, HM050.out.x1, HM050.out.x2, HM050.out.x3, HZ50.out.x0, HZ50.out.x1, HZ50.out.x2, HZ50.out.x3⟩ (fun hHeld => ?_)
          clear hK K
          refine oz_ 2 50 HT_ (fun K hK => ?_)
          refine goes_ Try.func16 (by kernel_rfl) rfl #[.agg #[.int .i64 ck, .int .i64 cs_, .slice C2 ci.length e2, .slice C3 co.length e3]] (by rfl) rfl rfl ma_ ?_
          refine (ours_c NZ50.out.nc ck cs_).mono ?_
          rintro e v56w ⟨rfl, hb⟩
          refine ⟨_, rfl, ?_⟩
          have HX51 := Aside0.mk (HX50.out.next hb)
          have HY51 := Aside0.mk (HY50.out.next hb)
          have HZ51 := Aside0.mk (HZ50.out.next hb)
          have HM051 := Aside0.mk (HM050.out.next hb)
          have HM151 := Aside0.mk (HM150.out.next hb)
          have NX51 := Aside0.mk (NX50.out.below hb)
          have NY51 := Aside0.mk (NY50.out.below hb)
          have NZ51 := Aside0.mk (NZ50.out.below hb)
          have NM051 := Aside0.mk (NM050.out.below hb)
          have NM151 := Aside0.mk (NM150.out.below hb)
          have TT51 := Aside0.mk (blk_below TT50.out hb)
          clear hb HX50 HY50 HZ50 HM050 HM150 NX50 NY50 NZ50 NM050 NM150
          refine hK.out _ _ ⟨HM051.out.x0, HM051.out.x1, HM051.out.x2, HM051.out.x3, HZ51.out.x0, HZ51.out.x1, HZ51.out.x2, HZ51.out.x3⟩ (fun hHeld => ?_)
          clear hK K
          refine oz_ 3 51 HT_ (fun K hK => ?_)
          refine goes_ Try.func18 (by kernel_rfl) rfl #[.agg #[.int .i64 k0, .int .i64 s0, .slice X0A im0.length x0c, .slice Y0A os0.length y0c], .agg #[.int .i64 ck, .int .i64 cs_, .slice C2 ci.length e2, .slice C3 co.length e3]] (by rfl) rfl rfl ma_ ?_
          refine (merge_ap NM051.out NZ51.out (blk_lt TT51.out) k0 s0 ck cs_ (by have := HL.out; omega) (im := im2) (os := os2) k2 s2 r2 HM2.out).mono ?_
          rintro e v57w ⟨XA, xc, YA, yc, rfl, hn, hb⟩
          refine ⟨_, rfl, ?_⟩
          have HX52 := Aside0.mk (HX51.out.next hb)
          have HY52 := Aside0.mk (HY51.out.next hb)
          have HZ52 := Aside0.mk (HZ51.out.next hb)
          have HM052 := Aside0.mk (HM051.out.next hb)
          have HM152 := Aside0.mk (HM151.out.next hb)
          have NX52 := Aside0.mk (NX51.out.below hb)
          have NY52 := Aside0.mk (NY51.out.below hb)
          have NZ52 := Aside0.mk (NZ51.out.below hb)
          have NM052 := Aside0.mk (NM051.out.below hb)
          have NM152 := Aside0.mk (NM151.out.below hb)
          have TT52 := Aside0.mk (blk_below TT51.out hb)
          clear hb HX51 HY51 HZ51 HM051 HM151 NX51 NY51 NZ51 NM051 NM151
          have NNew52 := Aside0.mk hn
          refine hK.out _ _ ⟨HM052.out.x0, HM052.out.x1, HM052.out.x2, HM052.out.x3, HZ52.out.x0, HZ52.out.x1, HZ52.out.x2, HZ52.out.x3⟩ (fun hHeld => ?_)
          clear hK K
          refine pz_ 4 47 HT_ ?_
          refine pz_ 5 52 HT_ ?_
          refine pz_ 6 53 HT_ ?_
          exact norm_ pu_ (JNN.out ((XA, xc), (YA, yc), bM) _ ⟨HX52, HY52, HZ52, HM052, HM152, NX52, NY52, NZ52, NM052, NM152, NNew52, TT52, LT⟩)
      case hcont =>
        rintro ⟨⟨X2A, x2c⟩, ⟨Y2A, y2c⟩, b2M⟩ w69 ⟨HX69, HY69, HZ69, HM069, HM169, NX69, NY69, NZ69, NM069, NM169, NNew, TT, LT⟩
        simp only at NNew TT LT
        refine norm_ (a' := ?_) ?_ ?_
        rotate_left
        · simp only [putAll, Act.put, List.setIfInBounds_toArray, List.set_cons_zero, List.set_cons_succ]; rfl
        clear HX49 HY49 HZ49 HM049 HM149 NX49 NY49 NZ49 NM049 NM149
        refine last_ (i := 8) (N := none) #[true, true, true, true, true, true, true, true, true, false] rfl rfl (one_of HT_.out (by kernel_rfl)) (by decide) (fun K hK => ?_)
        obtain ⟨z0, f0, z1, f1, z2, f2, z3, f3, k4⟩ := put4c (.int .i64 k2) (.int .i64 s2) (.slice X2A im2.length x2c) (.slice Y2A os2.length y2c) TT.out
        have hge : w.heap.size ≤ b2M := by have := HX69.out.ge; have := LT.out; omega
        have HX70 := Aside0.mk (B4.set (B4.set (B4.set (B4.set HX69.out (k := 0) (show b ≠ b2M by have := LT.out; omega) hge (.int .i64 k2)) (k := 1) (show b ≠ b2M by have := LT.out; omega) hge (.int .i64 s2)) (k := 2) (show b ≠ b2M by have := LT.out; omega) hge (.slice X2A im2.length x2c)) (k := 3) (show b ≠ b2M by have := LT.out; omega) hge (.slice Y2A os2.length y2c))
        have HY70 := Aside0.mk (B4.set (B4.set (B4.set (B4.set HY69.out (k := 0) (show b + 1 ≠ b2M by have := LT.out; omega) hge (.int .i64 k2)) (k := 1) (show b + 1 ≠ b2M by have := LT.out; omega) hge (.int .i64 s2)) (k := 2) (show b + 1 ≠ b2M by have := LT.out; omega) hge (.slice X2A im2.length x2c)) (k := 3) (show b + 1 ≠ b2M by have := LT.out; omega) hge (.slice Y2A os2.length y2c))
        have HZ70 := Aside0.mk (B4.set (B4.set (B4.set (B4.set HZ69.out (k := 0) (show b + 2 ≠ b2M by have := LT.out; omega) hge (.int .i64 k2)) (k := 1) (show b + 2 ≠ b2M by have := LT.out; omega) hge (.int .i64 s2)) (k := 2) (show b + 2 ≠ b2M by have := LT.out; omega) hge (.slice X2A im2.length x2c)) (k := 3) (show b + 2 ≠ b2M by have := LT.out; omega) hge (.slice Y2A os2.length y2c))
        have HM070 := Aside0.mk (B4.set (B4.set (B4.set (B4.set HM069.out (k := 0) (show b0M ≠ b2M by have := LT.out; omega) hge (.int .i64 k2)) (k := 1) (show b0M ≠ b2M by have := LT.out; omega) hge (.int .i64 s2)) (k := 2) (show b0M ≠ b2M by have := LT.out; omega) hge (.slice X2A im2.length x2c)) (k := 3) (show b0M ≠ b2M by have := LT.out; omega) hge (.slice Y2A os2.length y2c))
        have HM170 := Aside0.mk (B4.set (B4.set (B4.set (B4.set HM169.out (k := 0) (show b1M ≠ b2M by have := LT.out; omega) hge (.int .i64 k2)) (k := 1) (show b1M ≠ b2M by have := LT.out; omega) hge (.int .i64 s2)) (k := 2) (show b1M ≠ b2M by have := LT.out; omega) hge (.slice X2A im2.length x2c)) (k := 3) (show b1M ≠ b2M by have := LT.out; omega) hge (.slice Y2A os2.length y2c))
        have far : ∀ j, j ≠ b2M → ((((w69.setCell ⟨b2M, 0, none⟩ (.int .i64 k2)).setCell ⟨b2M, 1, none⟩ (.int .i64 s2)).setCell ⟨b2M, 2, none⟩ (.slice X2A im2.length x2c)).setCell ⟨b2M, 3, none⟩ (.slice Y2A os2.length y2c)).heap[j]? = w69.heap[j]? := fun j hj => far4 hj
        have NX70 := Aside0.mk (AP.far NX69.out far)
        have NY70 := Aside0.mk (AP.far NY69.out far)
        have NZ70 := Aside0.mk (AP.far NZ69.out far)
        have NM070 := Aside0.mk (AP.far NM069.out far)
        have NM170 := Aside0.mk (AP.far NM169.out far)
        have NM270 := Aside0.mk (AP.far NNew.out far)
        have HM270 := Aside0.mk (show B4 w b2M 27 (.int .i64 k2) (.int .i64 s2) (.slice X2A im2.length x2c) (.slice Y2A os2.length y2c) ((((w69.setCell ⟨b2M, 0, none⟩ (.int .i64 k2)).setCell ⟨b2M, 1, none⟩ (.int .i64 s2)).setCell ⟨b2M, 2, none⟩ (.slice X2A im2.length x2c)).setCell ⟨b2M, 3, none⟩ (.slice Y2A os2.length y2c)) from ⟨HX70.out.below, k4, hge⟩)
        clear k4 far hge TT LT NNew HX69 HY69 HZ69 HM069 HM169 NX69 NY69 NZ69 NM069 NM169
        refine skip_ (w1 := (((w69.setCell ⟨b2M, 0, none⟩ (.int .i64 k2)).setCell ⟨b2M, 1, none⟩ (.int .i64 s2)).setCell ⟨b2M, 2, none⟩ (.slice X2A im2.length x2c)).setCell ⟨b2M, 3, none⟩ (.slice Y2A os2.length y2c)) (by rfl) rfl (by first | (go_simp; done) | (go_simp; rfl)) ?_
        refine hK.out _ _ ?_
        clear hK K z0 f0 z1 f1 z2 f2 z3 f3
        refine last_ (i := 9) (N := some 13) #[true, true, true, true, true, true, true, true, true, true] rfl rfl (one_of HT_.out (by kernel_rfl)) (by decide) (fun K hK => ?_)
        refine value_ (v := .int .i64 r2) (w1 := (((w69.setCell ⟨b2M, 0, none⟩ (.int .i64 k2)).setCell ⟨b2M, 1, none⟩ (.int .i64 s2)).setCell ⟨b2M, 2, none⟩ (.slice X2A im2.length x2c)).setCell ⟨b2M, 3, none⟩ (.slice Y2A os2.length y2c)) (by rfl) rfl (by first | (go_simp; done) | (go_simp; rfl)) ?_
        refine hK.out _ _ ?_
        clear hK K
        refine done_ (done_of HT_.out (by kernel_rfl)) ?_
        clear HT_ HW_ hHeld
        generalize (((w69.setCell ⟨b2M, 0, none⟩ (.int .i64 k2)).setCell ⟨b2M, 1, none⟩ (.int .i64 s2)).setCell ⟨b2M, 2, none⟩ (.slice X2A im2.length x2c)).setCell ⟨b2M, 3, none⟩ (.slice Y2A os2.length y2c) = w70 at *
        have xX0 := HX70.out.x0; have xX1 := HX70.out.x1; have xX2 := HX70.out.x2; have xX3 := HX70.out.x3; have xY0 := HY70.out.x0; have xY1 := HY70.out.x1; have xY2 := HY70.out.x2; have xY3 := HY70.out.x3; have xZ0 := HZ70.out.x0; have xZ1 := HZ70.out.x1; have xZ2 := HZ70.out.x2; have xZ3 := HZ70.out.x3; have xM00 := HM070.out.x0; have xM01 := HM070.out.x1; have xM02 := HM070.out.x2; have xM03 := HM070.out.x3; have xM10 := HM170.out.x0; have xM11 := HM170.out.x1; have xM12 := HM170.out.x2; have xM13 := HM170.out.x3; have xM20 := HM270.out.x0; have xM21 := HM270.out.x1; have xM22 := HM270.out.x2; have xM23 := HM270.out.x3
        go_upto_region 7 with (fail)
        have hb : Below w70.heap.size w70 w70.drew := (Below.refl _ _).drew
        clear xX0 xX1 xX2 xX3 xY0 xY1 xY2 xY3 xZ0 xZ1 xZ2 xZ3 xM00 xM01 xM02 xM03 xM10 xM11 xM12 xM13 xM20 xM21 xM22 xM23
        have HX71 := Aside0.mk (HX70.out.next hb)
        have HY71 := Aside0.mk (HY70.out.next hb)
        have HZ71 := Aside0.mk (HZ70.out.next hb)
        have HM071 := Aside0.mk (HM070.out.next hb)
        have HM171 := Aside0.mk (HM170.out.next hb)
        have HM271 := Aside0.mk (HM270.out.next hb)
        have NX71 := Aside0.mk (NX70.out.below hb)
        have NY71 := Aside0.mk (NY70.out.below hb)
        have NZ71 := Aside0.mk (NZ70.out.below hb)
        have NM071 := Aside0.mk (NM070.out.below hb)
        have NM171 := Aside0.mk (NM170.out.below hb)
        have NM271 := Aside0.mk (NM270.out.below hb)
        clear hb HX70 HY70 HZ70 HM070 HM170 HM270 NX70 NY70 NZ70 NM070 NM170 NM270
        refine start_ (n := 10) (S := fun w' => w'.cell? ⟨b, 0, none⟩ = some (.int .i64 ak) ∧ w'.cell? ⟨b, 1, none⟩ = some (.int .i64 as_) ∧ w'.cell? ⟨b, 2, none⟩ = some (.slice A2 ai.length c2) ∧ w'.cell? ⟨b, 3, none⟩ = some (.slice A3 ao.length c3) ∧ w'.cell? ⟨b1M, 0, none⟩ = some (.int .i64 k1) ∧ w'.cell? ⟨b1M, 1, none⟩ = some (.int .i64 s1) ∧ w'.cell? ⟨b1M, 2, none⟩ = some (.slice X1A im1.length x1c) ∧ w'.cell? ⟨b1M, 3, none⟩ = some (.slice Y1A os1.length y1c)) (ds := [8, 9]) #[false, false, false, false, false, false, false, false, false, false] rfl rfl rfl ⟨HX71.out.x0, HX71.out.x1, HX71.out.x2, HX71.out.x3, HM171.out.x0, HM171.out.x1, HM171.out.x2, HM171.out.x3⟩ (fun hHeld => ?_)
        refine with_tabW regO7.tab regO7.bits (fun HT_ HW_ => ?_)
        generalize w70.drew = w71 at *
        clear w70
        refine tz_ 0 55 HT_ HW_ hHeld ?_
        refine tz_ 2 57 HT_ HW_ hHeld ?_
        refine join_ (σ := (Option Addr × Nat) × (Option Addr × Nat) × Nat) 2 #[true, true, true, true, true, true, true, true, false, false] (fun q => [(56, .agg #[.int .i64 ak, .int .i64 as_, .slice A2 ai.length c2, .slice A3 ao.length c3]), (58, .tuple #[.agg #[.int .i64 k2, .int .i64 s2, .slice q.1.1 im2.length q.1.2, .slice q.2.1.1 os2.length q.2.1.2], .int .i64 r2]), (54, .tuple #[.agg #[.int .i64 k2, .int .i64 s2, .slice q.1.1 im2.length q.1.2, .slice q.2.1.1 os2.length q.2.1.2], .int .i64 r2]), (59, .agg #[.int .i64 k2, .int .i64 s2, .slice q.1.1 im2.length q.1.2, .slice q.2.1.1 os2.length q.2.1.2]), (60, .int .i64 r2), (14, .pointer (some ⟨q.2.2, 0, none⟩))]) (fun q w' => Aside0 (B4 w (b) 32 (.int .i64 ak) (.int .i64 as_) (.slice A2 ai.length c2) (.slice A3 ao.length c3) w') ∧ Aside0 (B4 w (b + 1) 32 (.int .i64 bk) (.int .i64 bs) (.slice B2 bi.length d2) (.slice B3 bo.length d3) w') ∧ Aside0 (B4 w (b + 2) 32 (.int .i64 ck) (.int .i64 cs_) (.slice C2 ci.length e2) (.slice C3 co.length e3) w') ∧ Aside0 (B4 w (b0M) 27 (.int .i64 k0) (.int .i64 s0) (.slice X0A im0.length x0c) (.slice Y0A os0.length y0c) w') ∧ Aside0 (B4 w (b1M) 27 (.int .i64 k1) (.int .i64 s1) (.slice X1A im1.length x1c) (.slice Y1A os1.length y1c) w') ∧ Aside0 (B4 w (b2M) 27 (.int .i64 k2) (.int .i64 s2) (.slice X2A im2.length x2c) (.slice Y2A os2.length y2c) w') ∧ Aside0 (AP q.2.2 w' A2 c2 ai A3 c3 ao) ∧ Aside0 (AP q.2.2 w' B2 d2 bi B3 d3 bo) ∧ Aside0 (AP q.2.2 w' C2 e2 ci C3 e3 co) ∧ Aside0 (AP q.2.2 w' X0A x0c im0 Y0A y0c os0) ∧ Aside0 (AP q.2.2 w' X1A x1c im1 Y1A y1c os1) ∧ Aside0 (AP q.2.2 w' X2A x2c im2 Y2A y2c os2) ∧ Aside0 (AP q.2.2 w' q.1.1 q.1.2 im2 q.2.1.1 q.2.1.2 os2) ∧ Aside0 (w'.heap[q.2.2]? = some (.cells #[.int .i64 0, .int .i64 0, .slice none 0 0, .slice none 0 0] 27 (0, 0))) ∧ Aside0 (b < q.2.2 ∧ b + 1 < q.2.2 ∧ b + 2 < q.2.2 ∧ b0M < q.2.2 ∧ b1M < q.2.2 ∧ b2M < q.2.2)) ?hcont ?hord
        case hord =>
          intro JN
          have JNN := Aside0.mk JN
          clear JN
          refine two_ (i := 1) (j := 7) (Ni := some 56) (Nj := some 14) #[true, true, true, false, false, false, false, false, false, false] #[true, false, true, false, false, false, false, true, false, false] rfl rfl rfl rfl (two_of HT_.out (by kernel_rfl)) (by decide) (by decide) (fun K hK => ?_) (fun K hK => ?_)
          · refine goes_ Try.func16 (by kernel_rfl) rfl #[.agg #[.int .i64 ak, .int .i64 as_, .slice A2 ai.length c2, .slice A3 ao.length c3]] (by rfl) rfl rfl ma_ ?_
            refine (ours_c NX71.out.nc ak as_).mono ?_
            rintro e v72w ⟨rfl, hb⟩
            refine ⟨_, rfl, ?_⟩
            have HX72 := Aside0.mk (HX71.out.next hb)
            have HY72 := Aside0.mk (HY71.out.next hb)
            have HZ72 := Aside0.mk (HZ71.out.next hb)
            have HM072 := Aside0.mk (HM071.out.next hb)
            have HM172 := Aside0.mk (HM171.out.next hb)
            have HM272 := Aside0.mk (HM271.out.next hb)
            have NX72 := Aside0.mk (NX71.out.below hb)
            have NY72 := Aside0.mk (NY71.out.below hb)
            have NZ72 := Aside0.mk (NZ71.out.below hb)
            have NM072 := Aside0.mk (NM071.out.below hb)
            have NM172 := Aside0.mk (NM171.out.below hb)
            have NM272 := Aside0.mk (NM271.out.below hb)
            clear hb HX71 HY71 HZ71 HM071 HM171 HM271 NX71 NY71 NZ71 NM071 NM171 NM271
            refine hK.out _ _ ⟨HX72.out.x0, HX72.out.x1, HX72.out.x2, HX72.out.x3, HM172.out.x0, HM172.out.x1, HM172.out.x2, HM172.out.x3⟩ (fun hHeld => ?_)
            clear hK K
            refine two_ (i := 3) (j := 7) (Ni := some 58) (Nj := some 14) #[true, true, true, true, false, false, false, false, false, false] #[true, true, true, false, false, false, false, true, false, false] rfl rfl rfl rfl (two_of HT_.out (by kernel_rfl)) (by decide) (by decide) (fun K hK => ?_) (fun K hK => ?_)
            · refine goes_ Try.func18 (by kernel_rfl) rfl #[.agg #[.int .i64 ak, .int .i64 as_, .slice A2 ai.length c2, .slice A3 ao.length c3], .agg #[.int .i64 k1, .int .i64 s1, .slice X1A im1.length x1c, .slice Y1A os1.length y1c]] (by rfl) rfl rfl ma_ ?_
              refine (merge_nf NX72.out NM172.out ak as_ k1 s1 (by have := HL.out; omega) (im := im2) (os := os2) k2 s2 r2 HM3.out).mono ?_
              rintro e v73w ⟨XA, xc, YA, yc, rfl, hn, hb⟩
              refine ⟨_, rfl, ?_⟩
              have HX73 := Aside0.mk (HX72.out.next hb)
              have HY73 := Aside0.mk (HY72.out.next hb)
              have HZ73 := Aside0.mk (HZ72.out.next hb)
              have HM073 := Aside0.mk (HM072.out.next hb)
              have HM173 := Aside0.mk (HM172.out.next hb)
              have HM273 := Aside0.mk (HM272.out.next hb)
              have NX73 := Aside0.mk (NX72.out.below hb)
              have NY73 := Aside0.mk (NY72.out.below hb)
              have NZ73 := Aside0.mk (NZ72.out.below hb)
              have NM073 := Aside0.mk (NM072.out.below hb)
              have NM173 := Aside0.mk (NM172.out.below hb)
              have NM273 := Aside0.mk (NM272.out.below hb)
              clear hb HX72 HY72 HZ72 HM072 HM172 HM272 NX72 NY72 NZ72 NM072 NM172 NM272
              have NNew73 := Aside0.mk hn
              refine hK.out _ _ ⟨HX73.out.x0, HX73.out.x1, HX73.out.x2, HX73.out.x3, HM173.out.x0, HM173.out.x1, HM173.out.x2, HM173.out.x3⟩ (fun hHeld => ?_)
              clear hK K
              refine pz_ 4 54 HT_ ?_
              refine pz_ 5 59 HT_ ?_
              refine pz_ 6 60 HT_ ?_
              refine oz_ 7 14 HT_ (fun K hK => ?_)
              refine value_ (by rfl) rfl (v := .pointer (some ⟨v73w.heap.size, 0, none⟩)) (w1 := v73w.alloc (.cells #[.int .i64 0, .int .i64 0, .slice none 0 0, .slice none 0 0] 27)) (by first | (go_simp; done) | (go_simp; rfl)) ?_
              have hb : Below v73w.heap.size v73w (v73w.alloc (.cells #[.int .i64 0, .int .i64 0, .slice none 0 0, .slice none 0 0] 27)) := (Below.refl _ _).alloc (Nat.le_refl _) _
              have hx := blk_new v73w (.cells #[.int .i64 0, .int .i64 0, .slice none 0 0, .slice none 0 0] 27)
              have hl0 := blk_lt HX73.out.at_
              have hl1 := blk_lt HY73.out.at_
              have hl2 := blk_lt HZ73.out.at_
              have hl3 := blk_lt HM073.out.at_
              have hl4 := blk_lt HM173.out.at_
              have hl5 := blk_lt HM273.out.at_
              obtain ⟨bM, hbM⟩ : ∃ bM, v73w.heap.size = bM := ⟨_, rfl⟩
              rw [hbM] at hx hl0 hl1 hl2 hl3 hl4 hl5
              rw [hbM]
              have hle := Nat.le_of_eq hbM
              clear hbM
              generalize v73w.alloc (.cells #[.int .i64 0, .int .i64 0, .slice none 0 0, .slice none 0 0] 27) = v74w at *
              have LT := Aside0.mk (show b < bM ∧ b + 1 < bM ∧ b + 2 < bM ∧ b0M < bM ∧ b1M < bM ∧ b2M < bM from ⟨hl0, hl1, hl2, hl3, hl4, hl5⟩)
              clear hl0 hl1 hl2 hl3 hl4 hl5
              have HX74 := Aside0.mk (HX73.out.next hb)
              have HY74 := Aside0.mk (HY73.out.next hb)
              have HZ74 := Aside0.mk (HZ73.out.next hb)
              have HM074 := Aside0.mk (HM073.out.next hb)
              have HM174 := Aside0.mk (HM173.out.next hb)
              have HM274 := Aside0.mk (HM273.out.next hb)
              have NX74 := Aside0.mk ((NF.ap NX73.out (b := bM) hle).below hb)
              have NY74 := Aside0.mk ((NF.ap NY73.out (b := bM) hle).below hb)
              have NZ74 := Aside0.mk ((NF.ap NZ73.out (b := bM) hle).below hb)
              have NM074 := Aside0.mk ((NF.ap NM073.out (b := bM) hle).below hb)
              have NM174 := Aside0.mk ((NF.ap NM173.out (b := bM) hle).below hb)
              have NM274 := Aside0.mk ((NF.ap NM273.out (b := bM) hle).below hb)
              have NNew74 := Aside0.mk ((NF.ap NNew73.out (b := bM) hle).below hb)
              clear hb HX73 HY73 HZ73 HM073 HM173 HM273 NX73 NY73 NZ73 NM073 NM173 NM273 hle
              have TT74 := Aside0.mk hx
              refine hK.out _ _ ⟨HX74.out.x0, HX74.out.x1, HX74.out.x2, HX74.out.x3, HM174.out.x0, HM174.out.x1, HM174.out.x2, HM174.out.x3⟩ (fun hHeld => ?_)
              clear hK K
              exact norm_ pu_ (JNN.out ((XA, xc), (YA, yc), bM) _ ⟨HX74, HY74, HZ74, HM074, HM174, HM274, NX74, NY74, NZ74, NM074, NM174, NM274, NNew74, TT74, LT⟩)
            · refine value_ (by rfl) rfl (v := .pointer (some ⟨v72w.heap.size, 0, none⟩)) (w1 := v72w.alloc (.cells #[.int .i64 0, .int .i64 0, .slice none 0 0, .slice none 0 0] 27)) (by first | (go_simp; done) | (go_simp; rfl)) ?_
              have hb : Below v72w.heap.size v72w (v72w.alloc (.cells #[.int .i64 0, .int .i64 0, .slice none 0 0, .slice none 0 0] 27)) := (Below.refl _ _).alloc (Nat.le_refl _) _
              have hx := blk_new v72w (.cells #[.int .i64 0, .int .i64 0, .slice none 0 0, .slice none 0 0] 27)
              have hl0 := blk_lt HX72.out.at_
              have hl1 := blk_lt HY72.out.at_
              have hl2 := blk_lt HZ72.out.at_
              have hl3 := blk_lt HM072.out.at_
              have hl4 := blk_lt HM172.out.at_
              have hl5 := blk_lt HM272.out.at_
              obtain ⟨bM, hbM⟩ : ∃ bM, v72w.heap.size = bM := ⟨_, rfl⟩
              rw [hbM] at hx hl0 hl1 hl2 hl3 hl4 hl5
              rw [hbM]
              have hle := Nat.le_of_eq hbM
              clear hbM
              generalize v72w.alloc (.cells #[.int .i64 0, .int .i64 0, .slice none 0 0, .slice none 0 0] 27) = v75w at *
              have LT := Aside0.mk (show b < bM ∧ b + 1 < bM ∧ b + 2 < bM ∧ b0M < bM ∧ b1M < bM ∧ b2M < bM from ⟨hl0, hl1, hl2, hl3, hl4, hl5⟩)
              clear hl0 hl1 hl2 hl3 hl4 hl5
              have HX73 := Aside0.mk (HX72.out.next hb)
              have HY73 := Aside0.mk (HY72.out.next hb)
              have HZ73 := Aside0.mk (HZ72.out.next hb)
              have HM073 := Aside0.mk (HM072.out.next hb)
              have HM173 := Aside0.mk (HM172.out.next hb)
              have HM273 := Aside0.mk (HM272.out.next hb)
              have NX73 := Aside0.mk ((NF.ap NX72.out (b := bM) hle).below hb)
              have NY73 := Aside0.mk ((NF.ap NY72.out (b := bM) hle).below hb)
              have NZ73 := Aside0.mk ((NF.ap NZ72.out (b := bM) hle).below hb)
              have NM073 := Aside0.mk ((NF.ap NM072.out (b := bM) hle).below hb)
              have NM173 := Aside0.mk ((NF.ap NM172.out (b := bM) hle).below hb)
              have NM273 := Aside0.mk ((NF.ap NM272.out (b := bM) hle).below hb)
              clear hb HX72 HY72 HZ72 HM072 HM172 HM272 NX72 NY72 NZ72 NM072 NM172 NM272 hle
              have TT73 := Aside0.mk hx
              refine hK.out _ _ ⟨HX73.out.x0, HX73.out.x1, HX73.out.x2, HX73.out.x3, HM173.out.x0, HM173.out.x1, HM173.out.x2, HM173.out.x3⟩ (fun hHeld => ?_)
              clear hK K
              refine oz_ 3 58 HT_ (fun K hK => ?_)
              refine goes_ Try.func18 (by kernel_rfl) rfl #[.agg #[.int .i64 ak, .int .i64 as_, .slice A2 ai.length c2, .slice A3 ao.length c3], .agg #[.int .i64 k1, .int .i64 s1, .slice X1A im1.length x1c, .slice Y1A os1.length y1c]] (by rfl) rfl rfl ma_ ?_
              refine (merge_ap NX73.out NM173.out (blk_lt TT73.out) ak as_ k1 s1 (by have := HL.out; omega) (im := im2) (os := os2) k2 s2 r2 HM3.out).mono ?_
              rintro e v76w ⟨XA, xc, YA, yc, rfl, hn, hb⟩
              refine ⟨_, rfl, ?_⟩
              have HX74 := Aside0.mk (HX73.out.next hb)
              have HY74 := Aside0.mk (HY73.out.next hb)
              have HZ74 := Aside0.mk (HZ73.out.next hb)
              have HM074 := Aside0.mk (HM073.out.next hb)
              have HM174 := Aside0.mk (HM173.out.next hb)
              have HM274 := Aside0.mk (HM273.out.next hb)
              have NX74 := Aside0.mk (NX73.out.below hb)
              have NY74 := Aside0.mk (NY73.out.below hb)
              have NZ74 := Aside0.mk (NZ73.out.below hb)
              have NM074 := Aside0.mk (NM073.out.below hb)
              have NM174 := Aside0.mk (NM173.out.below hb)
              have NM274 := Aside0.mk (NM273.out.below hb)
              have TT74 := Aside0.mk (blk_below TT73.out hb)
              clear hb HX73 HY73 HZ73 HM073 HM173 HM273 NX73 NY73 NZ73 NM073 NM173 NM273
              have NNew74 := Aside0.mk hn
              refine hK.out _ _ ⟨HX74.out.x0, HX74.out.x1, HX74.out.x2, HX74.out.x3, HM174.out.x0, HM174.out.x1, HM174.out.x2, HM174.out.x3⟩ (fun hHeld => ?_)
              clear hK K
              refine pz_ 4 54 HT_ ?_
              refine pz_ 5 59 HT_ ?_
              refine pz_ 6 60 HT_ ?_
              exact norm_ pu_ (JNN.out ((XA, xc), (YA, yc), bM) _ ⟨HX74, HY74, HZ74, HM074, HM174, HM274, NX74, NY74, NZ74, NM074, NM174, NM274, NNew74, TT74, LT⟩)
          · refine value_ (by rfl) rfl (v := .pointer (some ⟨w71.heap.size, 0, none⟩)) (w1 := w71.alloc (.cells #[.int .i64 0, .int .i64 0, .slice none 0 0, .slice none 0 0] 27)) (by first | (go_simp; done) | (go_simp; rfl)) ?_
            have hb : Below w71.heap.size w71 (w71.alloc (.cells #[.int .i64 0, .int .i64 0, .slice none 0 0, .slice none 0 0] 27)) := (Below.refl _ _).alloc (Nat.le_refl _) _
            have hx := blk_new w71 (.cells #[.int .i64 0, .int .i64 0, .slice none 0 0, .slice none 0 0] 27)
            have hl0 := blk_lt HX71.out.at_
            have hl1 := blk_lt HY71.out.at_
            have hl2 := blk_lt HZ71.out.at_
            have hl3 := blk_lt HM071.out.at_
            have hl4 := blk_lt HM171.out.at_
            have hl5 := blk_lt HM271.out.at_
            obtain ⟨bM, hbM⟩ : ∃ bM, w71.heap.size = bM := ⟨_, rfl⟩
            rw [hbM] at hx hl0 hl1 hl2 hl3 hl4 hl5
            rw [hbM]
            have hle := Nat.le_of_eq hbM
            clear hbM
            generalize w71.alloc (.cells #[.int .i64 0, .int .i64 0, .slice none 0 0, .slice none 0 0] 27) = v77w at *
            have LT := Aside0.mk (show b < bM ∧ b + 1 < bM ∧ b + 2 < bM ∧ b0M < bM ∧ b1M < bM ∧ b2M < bM from ⟨hl0, hl1, hl2, hl3, hl4, hl5⟩)
            clear hl0 hl1 hl2 hl3 hl4 hl5
            have HX72 := Aside0.mk (HX71.out.next hb)
            have HY72 := Aside0.mk (HY71.out.next hb)
            have HZ72 := Aside0.mk (HZ71.out.next hb)
            have HM072 := Aside0.mk (HM071.out.next hb)
            have HM172 := Aside0.mk (HM171.out.next hb)
            have HM272 := Aside0.mk (HM271.out.next hb)
            have NX72 := Aside0.mk ((NF.ap NX71.out (b := bM) hle).below hb)
            have NY72 := Aside0.mk ((NF.ap NY71.out (b := bM) hle).below hb)
            have NZ72 := Aside0.mk ((NF.ap NZ71.out (b := bM) hle).below hb)
            have NM072 := Aside0.mk ((NF.ap NM071.out (b := bM) hle).below hb)
            have NM172 := Aside0.mk ((NF.ap NM171.out (b := bM) hle).below hb)
            have NM272 := Aside0.mk ((NF.ap NM271.out (b := bM) hle).below hb)
            clear hb HX71 HY71 HZ71 HM071 HM171 HM271 NX71 NY71 NZ71 NM071 NM171 NM271 hle
            have TT72 := Aside0.mk hx
            refine hK.out _ _ ⟨HX72.out.x0, HX72.out.x1, HX72.out.x2, HX72.out.x3, HM172.out.x0, HM172.out.x1, HM172.out.x2, HM172.out.x3⟩ (fun hHeld => ?_)
            clear hK K
            refine oz_ 1 56 HT_ (fun K hK => ?_)
            refine goes_ Try.func16 (by kernel_rfl) rfl #[.agg #[.int .i64 ak, .int .i64 as_, .slice A2 ai.length c2, .slice A3 ao.length c3]] (by rfl) rfl rfl ma_ ?_
            refine (ours_c NX72.out.nc ak as_).mono ?_
            rintro e v78w ⟨rfl, hb⟩
            refine ⟨_, rfl, ?_⟩
            have HX73 := Aside0.mk (HX72.out.next hb)
            have HY73 := Aside0.mk (HY72.out.next hb)
            have HZ73 := Aside0.mk (HZ72.out.next hb)
            have HM073 := Aside0.mk (HM072.out.next hb)
            have HM173 := Aside0.mk (HM172.out.next hb)
            have HM273 := Aside0.mk (HM272.out.next hb)
            have NX73 := Aside0.mk (NX72.out.below hb)
            have NY73 := Aside0.mk (NY72.out.below hb)
            have NZ73 := Aside0.mk (NZ72.out.below hb)
            have NM073 := Aside0.mk (NM072.out.below hb)
            have NM173 := Aside0.mk (NM172.out.below hb)
            have NM273 := Aside0.mk (NM272.out.below hb)
            have TT73 := Aside0.mk (blk_below TT72.out hb)
            clear hb HX72 HY72 HZ72 HM072 HM172 HM272 NX72 NY72 NZ72 NM072 NM172 NM272
            refine hK.out _ _ ⟨HX73.out.x0, HX73.out.x1, HX73.out.x2, HX73.out.x3, HM173.out.x0, HM173.out.x1, HM173.out.x2, HM173.out.x3⟩ (fun hHeld => ?_)
            clear hK K
            refine oz_ 3 58 HT_ (fun K hK => ?_)
            refine goes_ Try.func18 (by kernel_rfl) rfl #[.agg #[.int .i64 ak, .int .i64 as_, .slice A2 ai.length c2, .slice A3 ao.length c3], .agg #[.int .i64 k1, .int .i64 s1, .slice X1A im1.length x1c, .slice Y1A os1.length y1c]] (by rfl) rfl rfl ma_ ?_
            refine (merge_ap NX73.out NM173.out (blk_lt TT73.out) ak as_ k1 s1 (by have := HL.out; omega) (im := im2) (os := os2) k2 s2 r2 HM3.out).mono ?_
            rintro e v79w ⟨XA, xc, YA, yc, rfl, hn, hb⟩
            refine ⟨_, rfl, ?_⟩
            have HX74 := Aside0.mk (HX73.out.next hb)
            have HY74 := Aside0.mk (HY73.out.next hb)
            have HZ74 := Aside0.mk (HZ73.out.next hb)
            have HM074 := Aside0.mk (HM073.out.next hb)
            have HM174 := Aside0.mk (HM173.out.next hb)
            have HM274 := Aside0.mk (HM273.out.next hb)
            have NX74 := Aside0.mk (NX73.out.below hb)
            have NY74 := Aside0.mk (NY73.out.below hb)
            have NZ74 := Aside0.mk (NZ73.out.below hb)
            have NM074 := Aside0.mk (NM073.out.below hb)
            have NM174 := Aside0.mk (NM173.out.below hb)
            have NM274 := Aside0.mk (NM273.out.below hb)
            have TT74 := Aside0.mk (blk_below TT73.out hb)
            clear hb HX73 HY73 HZ73 HM073 HM173 HM273 NX73 NY73 NZ73 NM073 NM173 NM273
            have NNew74 := Aside0.mk hn
            refine hK.out _ _ ⟨HX74.out.x0, HX74.out.x1, HX74.out.x2, HX74.out.x3, HM174.out.x0, HM174.out.x1, HM174.out.x2, HM174.out.x3⟩ (fun hHeld => ?_)
            clear hK K
            refine pz_ 4 54 HT_ ?_
            refine pz_ 5 59 HT_ ?_
            refine pz_ 6 60 HT_ ?_
            exact norm_ pu_ (JNN.out ((XA, xc), (YA, yc), bM) _ ⟨HX74, HY74, HZ74, HM074, HM174, HM274, NX74, NY74, NZ74, NM074, NM174, NM274, NNew74, TT74, LT⟩)
        case hcont =>
          rintro ⟨⟨X3A, x3c⟩, ⟨Y3A, y3c⟩, b3M⟩ w91 ⟨HX91, HY91, HZ91, HM091, HM191, HM291, NX91, NY91, NZ91, NM091, NM191, NM291, NNew, TT, LT⟩
          simp only at NNew TT LT
          refine norm_ (a' := ?_) ?_ ?_
          rotate_left
          · simp only [putAll, Act.put, List.setIfInBounds_toArray, List.set_cons_zero, List.set_cons_succ]; rfl
          clear HX71 HY71 HZ71 HM071 HM171 HM271 NX71 NY71 NZ71 NM071 NM171 NM271
          refine last_ (i := 8) (N := none) #[true, true, true, true, true, true, true, true, true, false] rfl rfl (one_of HT_.out (by kernel_rfl)) (by decide) (fun K hK => ?_)
          obtain ⟨z0, f0, z1, f1, z2, f2, z3, f3, k4⟩ := put4c (.int .i64 k2) (.int .i64 s2) (.slice X3A im2.length x3c) (.slice Y3A os2.length y3c) TT.out
          have hge : w.heap.size ≤ b3M := by have := HX91.out.ge; have := LT.out; omega
          have HX92 := Aside0.mk (B4.set (B4.set (B4.set (B4.set HX91.out (k := 0) (show b ≠ b3M by have := LT.out; omega) hge (.int .i64 k2)) (k := 1) (show b ≠ b3M by have := LT.out; omega) hge (.int .i64 s2)) (k := 2) (show b ≠ b3M by have := LT.out; omega) hge (.slice X3A im2.length x3c)) (k := 3) (show b ≠ b3M by have := LT.out; omega) hge (.slice Y3A os2.length y3c))
          have HY92 := Aside0.mk (B4.set (B4.set (B4.set (B4.set HY91.out (k := 0) (show b + 1 ≠ b3M by have := LT.out; omega) hge (.int .i64 k2)) (k := 1) (show b + 1 ≠ b3M by have := LT.out; omega) hge (.int .i64 s2)) (k := 2) (show b + 1 ≠ b3M by have := LT.out; omega) hge (.slice X3A im2.length x3c)) (k := 3) (show b + 1 ≠ b3M by have := LT.out; omega) hge (.slice Y3A os2.length y3c))
          have HZ92 := Aside0.mk (B4.set (B4.set (B4.set (B4.set HZ91.out (k := 0) (show b + 2 ≠ b3M by have := LT.out; omega) hge (.int .i64 k2)) (k := 1) (show b + 2 ≠ b3M by have := LT.out; omega) hge (.int .i64 s2)) (k := 2) (show b + 2 ≠ b3M by have := LT.out; omega) hge (.slice X3A im2.length x3c)) (k := 3) (show b + 2 ≠ b3M by have := LT.out; omega) hge (.slice Y3A os2.length y3c))
          have HM092 := Aside0.mk (B4.set (B4.set (B4.set (B4.set HM091.out (k := 0) (show b0M ≠ b3M by have := LT.out; omega) hge (.int .i64 k2)) (k := 1) (show b0M ≠ b3M by have := LT.out; omega) hge (.int .i64 s2)) (k := 2) (show b0M ≠ b3M by have := LT.out; omega) hge (.slice X3A im2.length x3c)) (k := 3) (show b0M ≠ b3M by have := LT.out; omega) hge (.slice Y3A os2.length y3c))
          have HM192 := Aside0.mk (B4.set (B4.set (B4.set (B4.set HM191.out (k := 0) (show b1M ≠ b3M by have := LT.out; omega) hge (.int .i64 k2)) (k := 1) (show b1M ≠ b3M by have := LT.out; omega) hge (.int .i64 s2)) (k := 2) (show b1M ≠ b3M by have := LT.out; omega) hge (.slice X3A im2.length x3c)) (k := 3) (show b1M ≠ b3M by have := LT.out; omega) hge (.slice Y3A os2.length y3c))
          have HM292 := Aside0.mk (B4.set (B4.set (B4.set (B4.set HM291.out (k := 0) (show b2M ≠ b3M by have := LT.out; omega) hge (.int .i64 k2)) (k := 1) (show b2M ≠ b3M by have := LT.out; omega) hge (.int .i64 s2)) (k := 2) (show b2M ≠ b3M by have := LT.out; omega) hge (.slice X3A im2.length x3c)) (k := 3) (show b2M ≠ b3M by have := LT.out; omega) hge (.slice Y3A os2.length y3c))
          have far : ∀ j, j ≠ b3M → ((((w91.setCell ⟨b3M, 0, none⟩ (.int .i64 k2)).setCell ⟨b3M, 1, none⟩ (.int .i64 s2)).setCell ⟨b3M, 2, none⟩ (.slice X3A im2.length x3c)).setCell ⟨b3M, 3, none⟩ (.slice Y3A os2.length y3c)).heap[j]? = w91.heap[j]? := fun j hj => far4 hj
          have NX92 := Aside0.mk (AP.far NX91.out far)
          have NY92 := Aside0.mk (AP.far NY91.out far)
          have NZ92 := Aside0.mk (AP.far NZ91.out far)
          have NM092 := Aside0.mk (AP.far NM091.out far)
          have NM192 := Aside0.mk (AP.far NM191.out far)
          have NM292 := Aside0.mk (AP.far NM291.out far)
          have NM392 := Aside0.mk (AP.far NNew.out far)
          have HM392 := Aside0.mk (show B4 w b3M 27 (.int .i64 k2) (.int .i64 s2) (.slice X3A im2.length x3c) (.slice Y3A os2.length y3c) ((((w91.setCell ⟨b3M, 0, none⟩ (.int .i64 k2)).setCell ⟨b3M, 1, none⟩ (.int .i64 s2)).setCell ⟨b3M, 2, none⟩ (.slice X3A im2.length x3c)).setCell ⟨b3M, 3, none⟩ (.slice Y3A os2.length y3c)) from ⟨HX92.out.below, k4, hge⟩)
          clear k4 far hge TT LT NNew HX91 HY91 HZ91 HM091 HM191 HM291 NX91 NY91 NZ91 NM091 NM191 NM291
          refine skip_ (w1 := (((w91.setCell ⟨b3M, 0, none⟩ (.int .i64 k2)).setCell ⟨b3M, 1, none⟩ (.int .i64 s2)).setCell ⟨b3M, 2, none⟩ (.slice X3A im2.length x3c)).setCell ⟨b3M, 3, none⟩ (.slice Y3A os2.length y3c)) (by rfl) rfl (by first | (go_simp; done) | (go_simp; rfl)) ?_
          refine hK.out _ _ ?_
          clear hK K z0 f0 z1 f1 z2 f2 z3 f3
          refine last_ (i := 9) (N := some 15) #[true, true, true, true, true, true, true, true, true, true] rfl rfl (one_of HT_.out (by kernel_rfl)) (by decide) (fun K hK => ?_)
          refine value_ (v := .int .i64 r2) (w1 := (((w91.setCell ⟨b3M, 0, none⟩ (.int .i64 k2)).setCell ⟨b3M, 1, none⟩ (.int .i64 s2)).setCell ⟨b3M, 2, none⟩ (.slice X3A im2.length x3c)).setCell ⟨b3M, 3, none⟩ (.slice Y3A os2.length y3c)) (by rfl) rfl (by first | (go_simp; done) | (go_simp; rfl)) ?_
          refine hK.out _ _ ?_
          clear hK K
          refine done_ (done_of HT_.out (by kernel_rfl)) ?_
          clear HT_ HW_ hHeld
          generalize (((w91.setCell ⟨b3M, 0, none⟩ (.int .i64 k2)).setCell ⟨b3M, 1, none⟩ (.int .i64 s2)).setCell ⟨b3M, 2, none⟩ (.slice X3A im2.length x3c)).setCell ⟨b3M, 3, none⟩ (.slice Y3A os2.length y3c) = w92 at *
          go_upto_region 10 with (fail)
          have hb : Below w92.heap.size w92 w92.drew := (Below.refl _ _).drew
          have HX93 := Aside0.mk (HX92.out.next hb)
          have HY93 := Aside0.mk (HY92.out.next hb)
          have HZ93 := Aside0.mk (HZ92.out.next hb)
          have HM093 := Aside0.mk (HM092.out.next hb)
          have HM193 := Aside0.mk (HM192.out.next hb)
          have HM293 := Aside0.mk (HM292.out.next hb)
          have HM393 := Aside0.mk (HM392.out.next hb)
          have NX93 := Aside0.mk (NX92.out.below hb)
          have NY93 := Aside0.mk (NY92.out.below hb)
          have NZ93 := Aside0.mk (NZ92.out.below hb)
          have NM093 := Aside0.mk (NM092.out.below hb)
          have NM193 := Aside0.mk (NM192.out.below hb)
          have NM293 := Aside0.mk (NM292.out.below hb)
          have NM393 := Aside0.mk (NM392.out.below hb)
          clear hb HX92 HY92 HZ92 HM092 HM192 HM292 HM392 NX92 NY92 NZ92 NM092 NM192 NM292 NM392
          refine start_ (n := 14) (S := fun w' => w'.cell? ⟨b2M, 0, none⟩ = some (.int .i64 k2) ∧ w'.cell? ⟨b2M, 1, none⟩ = some (.int .i64 s2) ∧ w'.cell? ⟨b2M, 2, none⟩ = some (.slice X2A im2.length x2c) ∧ w'.cell? ⟨b2M, 3, none⟩ = some (.slice Y2A os2.length y2c) ∧ w'.cell? ⟨b3M, 0, none⟩ = some (.int .i64 k2) ∧ w'.cell? ⟨b3M, 1, none⟩ = some (.int .i64 s2) ∧ w'.cell? ⟨b3M, 2, none⟩ = some (.slice X3A im2.length x3c) ∧ w'.cell? ⟨b3M, 3, none⟩ = some (.slice Y3A os2.length y3c)) (ds := [13]) #[false, false, false, false, false, false, false, false, false, false, false, false, false, false] rfl rfl rfl ⟨HM293.out.x0, HM293.out.x1, HM293.out.x2, HM293.out.x3, HM393.out.x0, HM393.out.x1, HM393.out.x2, HM393.out.x3⟩ (fun hHeld => ?_)
          refine with_tabW regO10.tab regO10.bits (fun HT_ HW_ => ?_)
          generalize w92.drew = w93 at *
          clear w92
          refine pz_ 0 68 HT_ ?_
          refine pz_ 1 69 HT_ ?_
          refine pz_ 2 70 HT_ ?_
          refine pz_ 3 71 HT_ ?_
          refine pz_ 4 72 HT_ ?_
          refine pz_ 5 73 HT_ ?_
          refine pz_ 6 74 HT_ ?_
          refine tz_ 7 75 HT_ HW_ hHeld ?_
          refine tz_ 9 77 HT_ HW_ hHeld ?_
          refine oz_ 8 76 HT_ (fun K hK => ?_)
          refine goes_ Try.func12 (by kernel_rfl) rfl #[.agg #[.int .i64 k2, .int .i64 s2, .slice X2A im2.length x2c, .slice Y2A os2.length y2c]] (by rfl) rfl rfl ma_ ?_
          refine (theirs_c NM293.out.nc k2 s2).mono ?_
          rintro e y1w ⟨rfl, hb⟩
          refine ⟨_, rfl, ?_⟩
          have HX94 := Aside0.mk (HX93.out.next hb)
          have HY94 := Aside0.mk (HY93.out.next hb)
          have HZ94 := Aside0.mk (HZ93.out.next hb)
          have HM094 := Aside0.mk (HM093.out.next hb)
          have HM194 := Aside0.mk (HM193.out.next hb)
          have HM294 := Aside0.mk (HM293.out.next hb)
          have HM394 := Aside0.mk (HM393.out.next hb)
          have NX94 := Aside0.mk (NX93.out.below hb)
          have NY94 := Aside0.mk (NY93.out.below hb)
          have NZ94 := Aside0.mk (NZ93.out.below hb)
          have NM094 := Aside0.mk (NM093.out.below hb)
          have NM194 := Aside0.mk (NM193.out.below hb)
          have NM294 := Aside0.mk (NM293.out.below hb)
          have NM394 := Aside0.mk (NM393.out.below hb)
          clear hb HX93 HY93 HZ93 HM093 HM193 HM293 HM393 NX93 NY93 NZ93 NM093 NM193 NM293 NM393
          refine hK.out _ _ ⟨HM294.out.x0, HM294.out.x1, HM294.out.x2, HM294.out.x3, HM394.out.x0, HM394.out.x1, HM394.out.x2, HM394.out.x3⟩ (fun hHeld => ?_)
          clear hK K
          refine oz_ 10 78 HT_ (fun K hK => ?_)
          refine goes_ Try.func12 (by kernel_rfl) rfl #[.agg #[.int .i64 k2, .int .i64 s2, .slice X3A im2.length x3c, .slice Y3A os2.length y3c]] (by rfl) rfl rfl ma_ ?_
          refine (theirs_c NM394.out.nc k2 s2).mono ?_
          rintro e y2w ⟨rfl, hb⟩
          refine ⟨_, rfl, ?_⟩
          have HX95 := Aside0.mk (HX94.out.next hb)
          have HY95 := Aside0.mk (HY94.out.next hb)
          have HZ95 := Aside0.mk (HZ94.out.next hb)
          have HM095 := Aside0.mk (HM094.out.next hb)
          have HM195 := Aside0.mk (HM194.out.next hb)
          have HM295 := Aside0.mk (HM294.out.next hb)
          have HM395 := Aside0.mk (HM394.out.next hb)
          have NX95 := Aside0.mk (NX94.out.below hb)
          have NY95 := Aside0.mk (NY94.out.below hb)
          have NZ95 := Aside0.mk (NZ94.out.below hb)
          have NM095 := Aside0.mk (NM094.out.below hb)
          have NM195 := Aside0.mk (NM194.out.below hb)
          have NM295 := Aside0.mk (NM294.out.below hb)
          have NM395 := Aside0.mk (NM394.out.below hb)
          clear hb HX94 HY94 HZ94 HM094 HM194 HM294 HM394 NX94 NY94 NZ94 NM094 NM194 NM294 NM394
          refine hK.out _ _ ⟨HM295.out.x0, HM295.out.x1, HM295.out.x2, HM295.out.x3, HM395.out.x0, HM395.out.x1, HM395.out.x2, HM395.out.x3⟩ (fun hHeld => ?_)
          clear hK K
          refine oz_ 11 79 HT_ (fun K hK => ?_)
          refine goes_ Try.func11 (by kernel_rfl) rfl #[.agg #[.int .i64 k2, .int .i64 s2, .slice X2A im2.length x2c, .slice Y2A os2.length y2c], .agg #[.int .i64 k2, .int .i64 s2, .slice X3A im2.length x3c, .slice Y3A os2.length y3c]] (by rfl) rfl rfl ma_ ?_
          refine (same_c NM295.out.nc NM395.out.nc k2 s2 (by have := HL.out; omega) (by have := HL.out; omega)).mono ?_
          rintro e y3w ⟨rfl, hb⟩
          refine ⟨_, rfl, ?_⟩
          have HX96 := Aside0.mk (HX95.out.next hb)
          have HY96 := Aside0.mk (HY95.out.next hb)
          have HZ96 := Aside0.mk (HZ95.out.next hb)
          have HM096 := Aside0.mk (HM095.out.next hb)
          have HM196 := Aside0.mk (HM195.out.next hb)
          have HM296 := Aside0.mk (HM295.out.next hb)
          have HM396 := Aside0.mk (HM395.out.next hb)
          have NX96 := Aside0.mk (NX95.out.below hb)
          have NY96 := Aside0.mk (NY95.out.below hb)
          have NZ96 := Aside0.mk (NZ95.out.below hb)
          have NM096 := Aside0.mk (NM095.out.below hb)
          have NM196 := Aside0.mk (NM195.out.below hb)
          have NM296 := Aside0.mk (NM295.out.below hb)
          have NM396 := Aside0.mk (NM395.out.below hb)
          clear hb HX95 HY95 HZ95 HM095 HM195 HM295 HM395 NX95 NY95 NZ95 NM095 NM195 NM295 NM395
          refine hK.out _ _ ⟨HM296.out.x0, HM296.out.x1, HM296.out.x2, HM296.out.x3, HM396.out.x0, HM396.out.x1, HM396.out.x2, HM396.out.x3⟩ (fun hHeld => ?_)
          clear hK K
          refine pz_ 12 80 HT_ ?_
          refine last_ (i := 13) (N := some 6) #[true, true, true, true, true, true, true, true, true, true, true, true, true, true] rfl rfl (one_of HT_.out (by kernel_rfl)) (by decide) (fun K hK => ?_)
          refine value_ (v := .bool true) (w1 := y3w) (by rfl) rfl (by first | (go_simp; done) | (go_simp; rfl)) ?_
          refine hK.out _ _ ?_
          clear hK K
          refine done_ (done_of HT_.out (by kernel_rfl)) ?_
          clear HT_ HW_ hHeld
          go_wp2
          go_ret
          exact ⟨rfl, HX96.out.below⟩
end
end Go.Proofs.Ythcikbbglpdjhaa.Q
