/- note.Merge: the walk. No condition. -/
import Derived.Test.YthcikbbglpdjhaaMG
namespace Go.Proofs.Ythcikbbglpdjhaa.Q
open Go.RowKit Go.Proofs.YthcikbbglpdjhaaW Go.Proofs.YthcikbbglpdjhaaW.PrintWords Go.Proofs.YthcikbbglpdjhaaW.PrintLast Go.Proofs.YthcikbbglpdjhaaW.PrintMore
set_option linter.unusedVariables false
set_option linter.unusedSimpArgs false
theorem boxes3 (w : World) (t : Nat) (a0 a1 a2 a3 b0 b1 b2 b3 e0 e1 e2 e3 : Value) (W : World) (hW : ((w.alloc (.cells #[a0, a1, a2, a3] t)).alloc (.cells #[b0, b1, b2, b3] t)).alloc (.cells #[e0, e1, e2, e3] t) = W) :
    B4 w w.heap.size t a0 a1 a2 a3 W ∧ B4 w (w.heap.size + 1) t b0 b1 b2 b3 W ∧ B4 w (w.heap.size + 2) t e0 e1 e2 e3 W := by
  have h1 := B4.new w t a0 a1 a2 a3 (Below.refl w.heap.size w)
  have h2 := B4.new w t b0 b1 b2 b3 h1.below
  have h3 := B4.new w t e0 e1 e2 e3 h2.below
  have s1 : (w.alloc (.cells #[a0, a1, a2, a3] t)).heap.size = w.heap.size + 1 := by simp
  have s2 : ((w.alloc (.cells #[a0, a1, a2, a3] t)).alloc (.cells #[b0, b1, b2, b3] t)).heap.size = w.heap.size + 2 := by simp
  rw [s1] at h2
  rw [s2] at h3
  subst hW
  have al : ∀ (X : World) (o : Obj), Below X.heap.size X (X.alloc o) := fun X o => (Below.refl _ _).alloc (Nat.le_refl _) _
  exact ⟨(h1.next (al _ _)).next (al _ _), h2.next (al _ _), h3⟩
section
variable (ak as_ : Int) (A2 : Option Addr) (c2 : Nat) (ai : List S44) (A3 : Option Addr) (c3 : Nat) (ao : List S46) (bk bs : Int) (B2 : Option Addr) (d2 : Nat) (bi : List S44) (B3 : Option Addr) (d3 : Nat) (bo : List S46) (w : World)
def Merges (P : Nat → Prop) (k s : Int) (im : List S44) (os : List S46) (r : Int) : Prop := Calls Try.prog 18 #[.agg #[.int .i64 ak, .int .i64 as_, .slice A2 ai.length c2, .slice A3 ao.length c3], .agg #[.int .i64 bk, .int .i64 bs, .slice B2 bi.length d2, .slice B3 bo.length d3]] w fun e w' => ∃ X2 x2 X3 x3, e = .returned (.tuple #[.agg #[.int .i64 k, .int .i64 s, .slice X2 im.length x2, .slice X3 os.length x3], .int .i64 r]) ∧ NCF w' P X2 x2 im X3 x3 os ∧ Below w.heap.size w w'
set_option maxRecDepth 100000 in
set_option maxHeartbeats 6400000 in
theorem merge_bad1 (hna : NC w A2 c2 ai A3 c3 ao) (hnb : NC w B2 d2 bi B3 d3 bo) (hl : ai.length < 1000000000 ∧ ao.length < 1000000000 ∧ bi.length < 1000000000 ∧ bo.length < 1000000000) (P : Nat → Prop) (hs : saneN ak as_ ai ao = false) : Merges ak as_ A2 c2 ai A3 c3 ao bk bs B2 d2 bi B3 d3 bo w P 0 0 [] [] 1 := by
  obtain ⟨W1, hW1⟩ : ∃ W1, ((w.alloc (.cells #[.int .i64 ak, .int .i64 as_, .slice A2 ai.length c2, .slice A3 ao.length c3] 27)).alloc (.cells #[.int .i64 bk, .int .i64 bs, .slice B2 bi.length d2, .slice B3 bo.length d3] 27)).alloc (.cells #[.int .i64 0, .int .i64 0, .slice none 0 0, .slice none 0 0] 27) = W1 := ⟨_, rfl⟩
  obtain ⟨hA, hB, hZ⟩ := boxes3 w 27 _ _ _ _ _ _ _ _ _ _ _ _ W1 hW1
  have hu := Try.underlying27
  have HNA := Aside0.mk hna
  have HNB := Aside0.mk hnb
  have HL := Aside0.mk hl
  have CA := Aside0.mk (fun W (h : NC W A2 c2 ai A3 c3 ao) => sane_c h ak as_ HL.out.1 HL.out.2.1)
  have CB := Aside0.mk (fun W (h : NC W B2 d2 bi B3 d3 bo) => sane_c h bk bs HL.out.2.2.1 HL.out.2.2.2)
  simp only [hs] at CA CB
  clear hna hnb hl
  unfold Merges
  obtain ⟨b, hb⟩ : ∃ b, w.heap.size = b := ⟨_, rfl⟩
  rw [hb] at hA hB hZ
  have HBS := Aside0.mk hb
  have HA0 := Aside0.mk hA
  have HB0 := Aside0.mk hB
  have HZ0 := Aside0.mk hZ
  clear hA hB hZ
  go_enter Try.func18, Try.ntmps18
  go_upto_region 1 with (fail)
  (try rw [hW1])
  clear hW1 hb
  have x0 := HA0.out.x0; have x1 := HA0.out.x1; have x2 := HA0.out.x2; have x3 := HA0.out.x3
  have y0 := HB0.out.x0; have y1 := HB0.out.x1; have y2 := HB0.out.x2; have y3 := HB0.out.x3
  have z0 := HZ0.out.x0; have z1 := HZ0.out.x1; have z2 := HZ0.out.x2; have z3 := HZ0.out.x3
  go_wp2_with (first | (go_at_call 14; refine (CA.out _ (HNA.out.below HA0.out.below)).mono ?_; rintro e w2 ⟨rfl, hb⟩; clear CA; have HA1 := Aside0.mk (HA0.out.next hb); have HB1 := Aside0.mk (HB0.out.next hb); have HZ1 := Aside0.mk (HZ0.out.next hb); clear HA0 HB0 HZ0 hb; clear x0 x1 x2 x3 y0 y1 y2 y3 z0 z1 z2 z3; have x0 := HA1.out.x0; have x1 := HA1.out.x1; have x2 := HA1.out.x2; have x3 := HA1.out.x3; have y0 := HB1.out.x0; have y1 := HB1.out.x1; have y2 := HB1.out.x2; have y3 := HB1.out.x3; obtain ⟨z0, f0, z1, f1, z2, f2, z3, f3, k4⟩ := put4c (.int .i64 0) (.int .i64 0) (.slice none 0 0) (.slice none 0 0) HZ1.out.at_; have K4 := Aside0.mk k4; clear k4))
  clear z0 f0 z1 f1 z2 f2 z3 f3
  have hbn : Below w.heap.size w ((((w2.setCell ⟨b + 2, 0, none⟩ (.int .i64 0)).setCell ⟨b + 2, 1, none⟩ (.int .i64 0)).setCell ⟨b + 2, 2, none⟩ (.slice none 0 0)).setCell ⟨b + 2, 3, none⟩ (.slice none 0 0)) :=
    (((HZ1.out.below.setCell (p := ⟨b + 2, 0, none⟩) HZ1.out.ge (.int .i64 0)).setCell (p := ⟨b + 2, 1, none⟩) HZ1.out.ge (.int .i64 0)).setCell (p := ⟨b + 2, 2, none⟩) HZ1.out.ge (.slice none 0 0)).setCell (p := ⟨b + 2, 3, none⟩) HZ1.out.ge (.slice none 0 0)
  generalize (((w2.setCell ⟨b + 2, 0, none⟩ (.int .i64 0)).setCell ⟨b + 2, 1, none⟩ (.int .i64 0)).setCell ⟨b + 2, 2, none⟩ (.slice none 0 0)).setCell ⟨b + 2, 3, none⟩ (.slice none 0 0) = w9 at *
  have r0 : w9.cell? ⟨b + 2, 0, none⟩ = some (.int .i64 0) := (blk_cell K4.out 0).trans rfl
  have r1 : w9.cell? ⟨b + 2, 1, none⟩ = some (.int .i64 0) := (blk_cell K4.out 1).trans rfl
  have r2 : w9.cell? ⟨b + 2, 2, none⟩ = some (.slice none 0 0) := (blk_cell K4.out 2).trans rfl
  have r3 : w9.cell? ⟨b + 2, 3, none⟩ = some (.slice none 0 0) := (blk_cell K4.out 3).trans rfl
  refine bodyPost_ret (v := .tuple #[.agg #[.int .i64 0, .int .i64 0, .slice none 0 0, .slice none 0 0], .int .i64 1]) ?_ rfl ⟨none, 0, none, 0, rfl, NCF.nil _ _, hbn⟩
  have hf : Try.f18.results = #[.cell 4 27, .tmp 5] := rfl
  unfold results
  rw [hf]
  go_simp
  try rfl

set_option maxRecDepth 100000 in
set_option maxHeartbeats 6400000 in
theorem merge_bad2 (hna : NC w A2 c2 ai A3 c3 ao) (hnb : NC w B2 d2 bi B3 d3 bo) (hl : ai.length < 1000000000 ∧ ao.length < 1000000000 ∧ bi.length < 1000000000 ∧ bo.length < 1000000000) (P : Nat → Prop) (hs : saneN ak as_ ai ao = true) (ht : saneN bk bs bi bo = false) : Merges ak as_ A2 c2 ai A3 c3 ao bk bs B2 d2 bi B3 d3 bo w P 0 0 [] [] 1 := by
  obtain ⟨W1, hW1⟩ : ∃ W1, ((w.alloc (.cells #[.int .i64 ak, .int .i64 as_, .slice A2 ai.length c2, .slice A3 ao.length c3] 27)).alloc (.cells #[.int .i64 bk, .int .i64 bs, .slice B2 bi.length d2, .slice B3 bo.length d3] 27)).alloc (.cells #[.int .i64 0, .int .i64 0, .slice none 0 0, .slice none 0 0] 27) = W1 := ⟨_, rfl⟩
  obtain ⟨hA, hB, hZ⟩ := boxes3 w 27 _ _ _ _ _ _ _ _ _ _ _ _ W1 hW1
  have hu := Try.underlying27
  have HNA := Aside0.mk hna
  have HNB := Aside0.mk hnb
  have HL := Aside0.mk hl
  have CA := Aside0.mk (fun W (h : NC W A2 c2 ai A3 c3 ao) => sane_c h ak as_ HL.out.1 HL.out.2.1)
  have CB := Aside0.mk (fun W (h : NC W B2 d2 bi B3 d3 bo) => sane_c h bk bs HL.out.2.2.1 HL.out.2.2.2)
  simp only [hs, ht] at CA CB
  clear hna hnb hl
  unfold Merges
  obtain ⟨b, hb⟩ : ∃ b, w.heap.size = b := ⟨_, rfl⟩
  rw [hb] at hA hB hZ
  have HBS := Aside0.mk hb
  have HA0 := Aside0.mk hA
  have HB0 := Aside0.mk hB
  have HZ0 := Aside0.mk hZ
  clear hA hB hZ
  go_enter Try.func18, Try.ntmps18
  go_upto_region 1 with (fail)
  (try rw [hW1])
  clear hW1 hb
  have x0 := HA0.out.x0; have x1 := HA0.out.x1; have x2 := HA0.out.x2; have x3 := HA0.out.x3
  have y0 := HB0.out.x0; have y1 := HB0.out.x1; have y2 := HB0.out.x2; have y3 := HB0.out.x3
  have z0 := HZ0.out.x0; have z1 := HZ0.out.x1; have z2 := HZ0.out.x2; have z3 := HZ0.out.x3
  go_wp2_with (first | (go_at_call 14; refine (CA.out _ (HNA.out.below HA0.out.below)).mono ?_; rintro e w2 ⟨rfl, hb⟩; clear CA; have HA1 := Aside0.mk (HA0.out.next hb); have HB1 := Aside0.mk (HB0.out.next hb); have HZ1 := Aside0.mk (HZ0.out.next hb); clear HA0 HB0 HZ0 hb; clear x0 x1 x2 x3 y0 y1 y2 y3 z0 z1 z2 z3; have x0 := HA1.out.x0; have x1 := HA1.out.x1; have x2 := HA1.out.x2; have x3 := HA1.out.x3; have y0 := HB1.out.x0; have y1 := HB1.out.x1; have y2 := HB1.out.x2; have y3 := HB1.out.x3; have z0 := HZ1.out.x0; have z1 := HZ1.out.x1; have z2 := HZ1.out.x2; have z3 := HZ1.out.x3) | (go_at_call 14; refine (CB.out _ (HNB.out.below HA1.out.below)).mono ?_; rintro e w3 ⟨rfl, hb⟩; clear CB; have HA2 := Aside0.mk (HA1.out.next hb); have HB2 := Aside0.mk (HB1.out.next hb); have HZ2 := Aside0.mk (HZ1.out.next hb); clear HA1 HB1 HZ1 hb; clear x0 x1 x2 x3 y0 y1 y2 y3 z0 z1 z2 z3; have x0 := HA2.out.x0; have x1 := HA2.out.x1; have x2 := HA2.out.x2; have x3 := HA2.out.x3; have y0 := HB2.out.x0; have y1 := HB2.out.x1; have y2 := HB2.out.x2; have y3 := HB2.out.x3; obtain ⟨z0, f0, z1, f1, z2, f2, z3, f3, k4⟩ := put4c (.int .i64 0) (.int .i64 0) (.slice none 0 0) (.slice none 0 0) HZ2.out.at_; have K4 := Aside0.mk k4; clear k4))
  clear z0 f0 z1 f1 z2 f2 z3 f3
  have hbn : Below w.heap.size w ((((w3.setCell ⟨b + 2, 0, none⟩ (.int .i64 0)).setCell ⟨b + 2, 1, none⟩ (.int .i64 0)).setCell ⟨b + 2, 2, none⟩ (.slice none 0 0)).setCell ⟨b + 2, 3, none⟩ (.slice none 0 0)) :=
    (((HZ2.out.below.setCell (p := ⟨b + 2, 0, none⟩) HZ2.out.ge (.int .i64 0)).setCell (p := ⟨b + 2, 1, none⟩) HZ2.out.ge (.int .i64 0)).setCell (p := ⟨b + 2, 2, none⟩) HZ2.out.ge (.slice none 0 0)).setCell (p := ⟨b + 2, 3, none⟩) HZ2.out.ge (.slice none 0 0)
  generalize (((w3.setCell ⟨b + 2, 0, none⟩ (.int .i64 0)).setCell ⟨b + 2, 1, none⟩ (.int .i64 0)).setCell ⟨b + 2, 2, none⟩ (.slice none 0 0)).setCell ⟨b + 2, 3, none⟩ (.slice none 0 0) = w9 at *
  have r0 : w9.cell? ⟨b + 2, 0, none⟩ = some (.int .i64 0) := (blk_cell K4.out 0).trans rfl
  have r1 : w9.cell? ⟨b + 2, 1, none⟩ = some (.int .i64 0) := (blk_cell K4.out 1).trans rfl
  have r2 : w9.cell? ⟨b + 2, 2, none⟩ = some (.slice none 0 0) := (blk_cell K4.out 2).trans rfl
  have r3 : w9.cell? ⟨b + 2, 3, none⟩ = some (.slice none 0 0) := (blk_cell K4.out 3).trans rfl
  refine bodyPost_ret (v := .tuple #[.agg #[.int .i64 0, .int .i64 0, .slice none 0 0, .slice none 0 0], .int .i64 1]) ?_ rfl ⟨none, 0, none, 0, rfl, NCF.nil _ _, hbn⟩
  have hf : Try.f18.results = #[.cell 4 27, .tmp 5] := rfl
  unfold results
  rw [hf]
  go_simp
  try rfl

set_option maxRecDepth 100000 in
set_option maxHeartbeats 6400000 in
theorem merge_bad3 (hna : NC w A2 c2 ai A3 c3 ao) (hnb : NC w B2 d2 bi B3 d3 bo) (hl : ai.length < 1000000000 ∧ ao.length < 1000000000 ∧ bi.length < 1000000000 ∧ bo.length < 1000000000) (P : Nat → Prop) (hs : saneN 2 as_ ai ao = true) (ht : saneN bk bs bi bo = true) : Merges 2 as_ A2 c2 ai A3 c3 ao bk bs B2 d2 bi B3 d3 bo w P 0 0 [] [] 1 := by
  obtain ⟨W1, hW1⟩ : ∃ W1, ((w.alloc (.cells #[.int .i64 2, .int .i64 as_, .slice A2 ai.length c2, .slice A3 ao.length c3] 27)).alloc (.cells #[.int .i64 bk, .int .i64 bs, .slice B2 bi.length d2, .slice B3 bo.length d3] 27)).alloc (.cells #[.int .i64 0, .int .i64 0, .slice none 0 0, .slice none 0 0] 27) = W1 := ⟨_, rfl⟩
  obtain ⟨hA, hB, hZ⟩ := boxes3 w 27 _ _ _ _ _ _ _ _ _ _ _ _ W1 hW1
  have hu := Try.underlying27
  have HNA := Aside0.mk hna
  have HNB := Aside0.mk hnb
  have HL := Aside0.mk hl
  have CA := Aside0.mk (fun W (h : NC W A2 c2 ai A3 c3 ao) => sane_c h 2 as_ HL.out.1 HL.out.2.1)
  have CB := Aside0.mk (fun W (h : NC W B2 d2 bi B3 d3 bo) => sane_c h bk bs HL.out.2.2.1 HL.out.2.2.2)
  simp only [hs, ht] at CA CB
  clear hna hnb hl
  unfold Merges
  obtain ⟨b, hb⟩ : ∃ b, w.heap.size = b := ⟨_, rfl⟩
  rw [hb] at hA hB hZ
  have HBS := Aside0.mk hb
  have HA0 := Aside0.mk hA
  have HB0 := Aside0.mk hB
  have HZ0 := Aside0.mk hZ
  clear hA hB hZ
  go_enter Try.func18, Try.ntmps18
  go_upto_region 1 with (fail)
  (try rw [hW1])
  clear hW1 hb
  have x0 := HA0.out.x0; have x1 := HA0.out.x1; have x2 := HA0.out.x2; have x3 := HA0.out.x3
  have y0 := HB0.out.x0; have y1 := HB0.out.x1; have y2 := HB0.out.x2; have y3 := HB0.out.x3
  have z0 := HZ0.out.x0; have z1 := HZ0.out.x1; have z2 := HZ0.out.x2; have z3 := HZ0.out.x3
  go_wp2_with (first | (go_at_call 14; refine (CA.out _ (HNA.out.below HA0.out.below)).mono ?_; rintro e w2 ⟨rfl, hb⟩; clear CA; have HA1 := Aside0.mk (HA0.out.next hb); have HB1 := Aside0.mk (HB0.out.next hb); have HZ1 := Aside0.mk (HZ0.out.next hb); clear HA0 HB0 HZ0 hb; clear x0 x1 x2 x3 y0 y1 y2 y3 z0 z1 z2 z3; have x0 := HA1.out.x0; have x1 := HA1.out.x1; have x2 := HA1.out.x2; have x3 := HA1.out.x3; have y0 := HB1.out.x0; have y1 := HB1.out.x1; have y2 := HB1.out.x2; have y3 := HB1.out.x3; have z0 := HZ1.out.x0; have z1 := HZ1.out.x1; have z2 := HZ1.out.x2; have z3 := HZ1.out.x3) | (go_at_call 14; refine (CB.out _ (HNB.out.below HA1.out.below)).mono ?_; rintro e w3 ⟨rfl, hb⟩; clear CB; have HA2 := Aside0.mk (HA1.out.next hb); have HB2 := Aside0.mk (HB1.out.next hb); have HZ2 := Aside0.mk (HZ1.out.next hb); clear HA1 HB1 HZ1 hb; clear x0 x1 x2 x3 y0 y1 y2 y3 z0 z1 z2 z3; have x0 := HA2.out.x0; have x1 := HA2.out.x1; have x2 := HA2.out.x2; have x3 := HA2.out.x3; have y0 := HB2.out.x0; have y1 := HB2.out.x1; have y2 := HB2.out.x2; have y3 := HB2.out.x3; obtain ⟨z0, f0, z1, f1, z2, f2, z3, f3, k4⟩ := put4c (.int .i64 0) (.int .i64 0) (.slice none 0 0) (.slice none 0 0) HZ2.out.at_; have K4 := Aside0.mk k4; clear k4))
  clear z0 f0 z1 f1 z2 f2 z3 f3
  have hbn : Below w.heap.size w ((((w3.setCell ⟨b + 2, 0, none⟩ (.int .i64 0)).setCell ⟨b + 2, 1, none⟩ (.int .i64 0)).setCell ⟨b + 2, 2, none⟩ (.slice none 0 0)).setCell ⟨b + 2, 3, none⟩ (.slice none 0 0)) :=
    (((HZ2.out.below.setCell (p := ⟨b + 2, 0, none⟩) HZ2.out.ge (.int .i64 0)).setCell (p := ⟨b + 2, 1, none⟩) HZ2.out.ge (.int .i64 0)).setCell (p := ⟨b + 2, 2, none⟩) HZ2.out.ge (.slice none 0 0)).setCell (p := ⟨b + 2, 3, none⟩) HZ2.out.ge (.slice none 0 0)
  generalize (((w3.setCell ⟨b + 2, 0, none⟩ (.int .i64 0)).setCell ⟨b + 2, 1, none⟩ (.int .i64 0)).setCell ⟨b + 2, 2, none⟩ (.slice none 0 0)).setCell ⟨b + 2, 3, none⟩ (.slice none 0 0) = w9 at *
  have r0 : w9.cell? ⟨b + 2, 0, none⟩ = some (.int .i64 0) := (blk_cell K4.out 0).trans rfl
  have r1 : w9.cell? ⟨b + 2, 1, none⟩ = some (.int .i64 0) := (blk_cell K4.out 1).trans rfl
  have r2 : w9.cell? ⟨b + 2, 2, none⟩ = some (.slice none 0 0) := (blk_cell K4.out 2).trans rfl
  have r3 : w9.cell? ⟨b + 2, 3, none⟩ = some (.slice none 0 0) := (blk_cell K4.out 3).trans rfl
  refine bodyPost_ret (v := .tuple #[.agg #[.int .i64 0, .int .i64 0, .slice none 0 0, .slice none 0 0], .int .i64 1]) ?_ rfl ⟨none, 0, none, 0, rfl, NCF.nil _ _, hbn⟩
  have hf : Try.f18.results = #[.cell 4 27, .tmp 5] := rfl
  unfold results
  rw [hf]
  go_simp
  try rfl

set_option maxRecDepth 100000 in
set_option maxHeartbeats 6400000 in
theorem merge_bad4 (hna : NC w A2 c2 ai A3 c3 ao) (hnb : NC w B2 d2 bi B3 d3 bo) (hl : ai.length < 1000000000 ∧ ao.length < 1000000000 ∧ bi.length < 1000000000 ∧ bo.length < 1000000000) (P : Nat → Prop) (hs : saneN 1 as_ ai ao = true) (ht : saneN 2 bs bi bo = true) : Merges 1 as_ A2 c2 ai A3 c3 ao 2 bs B2 d2 bi B3 d3 bo w P 0 0 [] [] 1 := by
  obtain ⟨W1, hW1⟩ : ∃ W1, ((w.alloc (.cells #[.int .i64 1, .int .i64 as_, .slice A2 ai.length c2, .slice A3 ao.length c3] 27)).alloc (.cells #[.int .i64 2, .int .i64 bs, .slice B2 bi.length d2, .slice B3 bo.length d3] 27)).alloc (.cells #[.int .i64 0, .int .i64 0, .slice none 0 0, .slice none 0 0] 27) = W1 := ⟨_, rfl⟩
  obtain ⟨hA, hB, hZ⟩ := boxes3 w 27 _ _ _ _ _ _ _ _ _ _ _ _ W1 hW1
  have hu := Try.underlying27
  have HNA := Aside0.mk hna
  have HNB := Aside0.mk hnb
  have HL := Aside0.mk hl
  have CA := Aside0.mk (fun W (h : NC W A2 c2 ai A3 c3 ao) => sane_c h 1 as_ HL.out.1 HL.out.2.1)
  have CB := Aside0.mk (fun W (h : NC W B2 d2 bi B3 d3 bo) => sane_c h 2 bs HL.out.2.2.1 HL.out.2.2.2)
  simp only [hs, ht] at CA CB
  clear hna hnb hl
  unfold Merges
  obtain ⟨b, hb⟩ : ∃ b, w.heap.size = b := ⟨_, rfl⟩
  rw [hb] at hA hB hZ
  have HBS := Aside0.mk hb
  have HA0 := Aside0.mk hA
  have HB0 := Aside0.mk hB
  have HZ0 := Aside0.mk hZ
  clear hA hB hZ
  go_enter Try.func18, Try.ntmps18
  go_upto_region 1 with (fail)
  (try rw [hW1])
  clear hW1 hb
  have x0 := HA0.out.x0; have x1 := HA0.out.x1; have x2 := HA0.out.x2; have x3 := HA0.out.x3
  have y0 := HB0.out.x0; have y1 := HB0.out.x1; have y2 := HB0.out.x2; have y3 := HB0.out.x3
  have z0 := HZ0.out.x0; have z1 := HZ0.out.x1; have z2 := HZ0.out.x2; have z3 := HZ0.out.x3
  go_wp2_with (first | (go_at_call 14; refine (CA.out _ (HNA.out.below HA0.out.below)).mono ?_; rintro e w2 ⟨rfl, hb⟩; clear CA; have HA1 := Aside0.mk (HA0.out.next hb); have HB1 := Aside0.mk (HB0.out.next hb); have HZ1 := Aside0.mk (HZ0.out.next hb); clear HA0 HB0 HZ0 hb; clear x0 x1 x2 x3 y0 y1 y2 y3 z0 z1 z2 z3; have x0 := HA1.out.x0; have x1 := HA1.out.x1; have x2 := HA1.out.x2; have x3 := HA1.out.x3; have y0 := HB1.out.x0; have y1 := HB1.out.x1; have y2 := HB1.out.x2; have y3 := HB1.out.x3; have z0 := HZ1.out.x0; have z1 := HZ1.out.x1; have z2 := HZ1.out.x2; have z3 := HZ1.out.x3) | (go_at_call 14; refine (CB.out _ (HNB.out.below HA1.out.below)).mono ?_; rintro e w3 ⟨rfl, hb⟩; clear CB; have HA2 := Aside0.mk (HA1.out.next hb); have HB2 := Aside0.mk (HB1.out.next hb); have HZ2 := Aside0.mk (HZ1.out.next hb); clear HA1 HB1 HZ1 hb; clear x0 x1 x2 x3 y0 y1 y2 y3 z0 z1 z2 z3; have x0 := HA2.out.x0; have x1 := HA2.out.x1; have x2 := HA2.out.x2; have x3 := HA2.out.x3; have y0 := HB2.out.x0; have y1 := HB2.out.x1; have y2 := HB2.out.x2; have y3 := HB2.out.x3; obtain ⟨z0, f0, z1, f1, z2, f2, z3, f3, k4⟩ := put4c (.int .i64 0) (.int .i64 0) (.slice none 0 0) (.slice none 0 0) HZ2.out.at_; have K4 := Aside0.mk k4; clear k4))
  clear z0 f0 z1 f1 z2 f2 z3 f3
  have hbn : Below w.heap.size w ((((w3.setCell ⟨b + 2, 0, none⟩ (.int .i64 0)).setCell ⟨b + 2, 1, none⟩ (.int .i64 0)).setCell ⟨b + 2, 2, none⟩ (.slice none 0 0)).setCell ⟨b + 2, 3, none⟩ (.slice none 0 0)) :=
    (((HZ2.out.below.setCell (p := ⟨b + 2, 0, none⟩) HZ2.out.ge (.int .i64 0)).setCell (p := ⟨b + 2, 1, none⟩) HZ2.out.ge (.int .i64 0)).setCell (p := ⟨b + 2, 2, none⟩) HZ2.out.ge (.slice none 0 0)).setCell (p := ⟨b + 2, 3, none⟩) HZ2.out.ge (.slice none 0 0)
  generalize (((w3.setCell ⟨b + 2, 0, none⟩ (.int .i64 0)).setCell ⟨b + 2, 1, none⟩ (.int .i64 0)).setCell ⟨b + 2, 2, none⟩ (.slice none 0 0)).setCell ⟨b + 2, 3, none⟩ (.slice none 0 0) = w9 at *
  have r0 : w9.cell? ⟨b + 2, 0, none⟩ = some (.int .i64 0) := (blk_cell K4.out 0).trans rfl
  have r1 : w9.cell? ⟨b + 2, 1, none⟩ = some (.int .i64 0) := (blk_cell K4.out 1).trans rfl
  have r2 : w9.cell? ⟨b + 2, 2, none⟩ = some (.slice none 0 0) := (blk_cell K4.out 2).trans rfl
  have r3 : w9.cell? ⟨b + 2, 3, none⟩ = some (.slice none 0 0) := (blk_cell K4.out 3).trans rfl
  refine bodyPost_ret (v := .tuple #[.agg #[.int .i64 0, .int .i64 0, .slice none 0 0, .slice none 0 0], .int .i64 1]) ?_ rfl ⟨none, 0, none, 0, rfl, NCF.nil _ _, hbn⟩
  have hf : Try.f18.results = #[.cell 4 27, .tmp 5] := rfl
  unfold results
  rw [hf]
  go_simp
  try rfl

end
def reg18.T3 : Bool × List (List Nat × List Nat) := (true, [([], []), ([0], [0]), ([], []), ([2], [2]), ([3], [3]), ([], []), ([5], [5]), ([], []), ([7], [7]), ([6, 8], [6, 8]), ([9, 4], [9]), ([1, 4, 10], [1, 4, 10]), ([], []), ([12, 11, 10, 0, 1, 2, 3, 4, 5, 6, 7, 8, 9, 10, 11, 12], [11, 12])])
def reg18.B3 : List Nat := [0, 1, 0, 4, 12, 0, 32, 0, 128, 480, 1020, 2047, 0, 8191]
theorem reg18.tab3 : rtab .any (opsOf Try.f18 3) = reg18.T3 := by kernel_rfl
theorem reg18.bits3 : waitsOk reg18.T3.2 reg18.B3 = true := by kernel_rfl
def reg18.T9 : Bool × List (List Nat × List Nat) := (true, [([], []), ([0], [0]), ([], []), ([], []), ([3], [3]), ([], []), ([5], [5]), ([6], [6]), ([4, 7], [4, 7]), ([8], [8]), ([1, 2, 9, 7], [1, 2, 9]), ([0, 1, 2, 3, 4, 5, 6, 7, 8, 9, 10], []), ([11, 10, 10, 0, 1, 2, 3, 4, 5, 6, 7, 8, 9, 10], [10, 11])])
def reg18.B9 : List Nat := [0, 1, 0, 0, 8, 0, 32, 96, 248, 504, 1023, 2047, 4095]
theorem reg18.tab9 : rtab .any (opsOf Try.f18 9) = reg18.T9 := by kernel_rfl
theorem reg18.bits9 : waitsOk reg18.T9.2 reg18.B9 = true := by kernel_rfl
theorem nx_ (i : Nat) (h : i < 1000000) : (Value.int .i64 (wrap64 ((i : Int) + 1))) = .int .i64 ((i + 1 : Nat) : Int) := by rw [w64_of (by omega) (by omega)]; rfl
theorem B4.set {w : World} {b t : Nat} {c0 c1 c2 c3 : Value} {W : World} (h : B4 w b t c0 c1 c2 c3 W) {g k : Nat} (hne : b ≠ g) (hge : w.heap.size ≤ g) (u : Value) : B4 w b t c0 c1 c2 c3 (W.setCell ⟨g, k, none⟩ u) :=
  ⟨h.below.setCell (p := ⟨g, k, none⟩) hge u, (Below.heap_setCell W ⟨g, k, none⟩ u b hne).trans h.at_, h.ge⟩
section
variable (ak as_ : Int) (A2 : Option Addr) (c2 : Nat) (ai : List S44) (A3 : Option Addr) (c3 : Nat) (ao : List S46) (bk bs : Int) (B2 : Option Addr) (d2 : Nat) (bi : List S44) (B3 : Option Addr) (d3 : Nat) (bo : List S46) (w : World)
set_option maxRecDepth 100000 in
set_option maxHeartbeats 6400000 in
theorem merge_main (hna : NC w A2 c2 ai A3 c3 ao) (hnb : NC w B2 d2 bi B3 d3 bo) (hl : ai.length < 1000000000 ∧ ao.length < 1000000000 ∧ bi.length < 1000000000 ∧ bo.length < 1000000000) (P : Nat → Prop) (hP : ∀ k, w.heap.size ≤ k → P k) (hfb : NCF w P B2 d2 bi B3 d3 bo) (hs : saneN 1 as_ ai ao = true) (ht : saneN 1 bs bi bo = true) (k s : Int) (im : List S44) (os : List S46) (r : Int) (hr : (if saneN 1 bs (mergeI ai bi) (ao ++ bo) = true then ((1 : Int), bs, mergeI ai bi, ao ++ bo, (0 : Int)) else (0, 0, [], [], 13)) = (k, s, im, os, r)) : Merges 1 as_ A2 c2 ai A3 c3 ao 1 bs B2 d2 bi B3 d3 bo w P k s im os r := by
  have HRES := Aside0.mk hr
  have HPP := Aside0.mk hP
  obtain ⟨h32, ha1, ha2⟩ := sane_data hs
  have HD32 := Aside0.mk h32
  obtain ⟨_, hb1, hb2⟩ := sane_data ht
  have HLN := Aside0.mk (show ai.length ≤ 256 ∧ ao.length ≤ 256 ∧ bi.length ≤ 256 ∧ bo.length ≤ 256 from ⟨ha1, ha2, hb1, hb2⟩)
  have hsb : SrtS bi := by
    obtain ⟨_, _, ⟨h0, _⟩ | ⟨_, hg, _⟩⟩ := saneN_parts ht
    · exact absurd h0 (by decide)
    · exact ((good_srt bi (-1)).1 hg).1
  obtain ⟨ga, hga, hCa, hDa⟩ := to_flat hna.i
  obtain ⟨gb, hgb, hCb, hDb⟩ := to_flatF hfb.bound.i
  have HSB := Aside0.mk (show SrtB gb from (srtB_iff gb).2 (by rw [hgb]; exact hsb))
  have hgl : gb.length = bi.length := by rw [← hgb, List.length_map]
  have hgla : ga.length = ai.length := by rw [← hga, List.length_map]
  have HGL := Aside0.mk hgl
  have HGLA := Aside0.mk hgla
  have HGA := Aside0.mk hga
  have HGB := Aside0.mk hgb
  have HCa := Aside0.mk hCa
  have HDa := Aside0.mk hDa
  have HDb := Aside0.mk hDb
  have hcl := fun W (h : Below w.heap.size w W) => clone_gi.calls B2 d2 gb gb W (by rw [hgl]; exact Kd.C_below hCb h) (by rw [hgl]; exact hnb.ic) (if_pos (show gb.length < 1000000000 by omega))
  rw [hgl] at hcl
  have CL := Aside0.mk hcl
  have CC := Aside0.mk (fun (W : World) (g : Nat) (h : Below w.heap.size w W) (hg : W.heap[g]? = some (.cells #[.slice A3 ao.length c3, .slice B3 bo.length d3] 25 (0, 0))) => concat_ok A3 B3 c3 d3 g ao bo W hg (Kd.C_below hna.o h) hna.oc (Kd.C_below hnb.o h) hnb.oc (by omega) (by omega))
  clear hr h32 ha1 ha2 hb1 hb2 hsb hga hCa hDa hgb hCb hDb hgl hgla hcl hP hfb
  obtain ⟨W1, hW1⟩ : ∃ W1, ((w.alloc (.cells #[.int .i64 1, .int .i64 as_, .slice A2 ai.length c2, .slice A3 ao.length c3] 27)).alloc (.cells #[.int .i64 1, .int .i64 bs, .slice B2 bi.length d2, .slice B3 bo.length d3] 27)).alloc (.cells #[.int .i64 0, .int .i64 0, .slice none 0 0, .slice none 0 0] 27) = W1 := ⟨_, rfl⟩
  obtain ⟨hA, hB, hZ⟩ := boxes3 w 27 _ _ _ _ _ _ _ _ _ _ _ _ W1 hW1
  have hu := Try.underlying27
  have HNA := Aside0.mk hna
  have HNB := Aside0.mk hnb
  have HL := Aside0.mk hl
  have CA := Aside0.mk (fun W (h : NC W A2 c2 ai A3 c3 ao) => sane_c h 1 as_ HL.out.1 HL.out.2.1)
  have CB := Aside0.mk (fun W (h : NC W B2 d2 bi B3 d3 bo) => sane_c h 1 bs HL.out.2.2.1 HL.out.2.2.2)
  simp only [hs, ht] at CA CB
  clear hna hnb hl
  unfold Merges
  obtain ⟨b, hb⟩ : ∃ b, w.heap.size = b := ⟨_, rfl⟩
  rw [hb] at hA hB hZ
  have HBS := Aside0.mk hb
  have HA0 := Aside0.mk hA
  have HB0 := Aside0.mk hB
  have HZ0 := Aside0.mk hZ
  clear hA hB hZ
  go_enter Try.func18, Try.ntmps18
  go_upto_region 1 with (fail)
  (try rw [hW1])
  clear hW1 hb
  have x0 := HA0.out.x0; have x1 := HA0.out.x1; have x2 := HA0.out.x2; have x3 := HA0.out.x3
  have y0 := HB0.out.x0; have y1 := HB0.out.x1; have y2 := HB0.out.x2; have y3 := HB0.out.x3
  have z0 := HZ0.out.x0; have z1 := HZ0.out.x1; have z2 := HZ0.out.x2; have z3 := HZ0.out.x3
  clear hs ht
  go_upto_region 3 with (first | (go_at_call 14; refine (CA.out _ (HNA.out.below HA0.out.below)).mono ?_; rintro e w2 ⟨rfl, hb⟩; clear CA; have HA1 := Aside0.mk (HA0.out.next hb); have HB1 := Aside0.mk (HB0.out.next hb); have HZ1 := Aside0.mk (HZ0.out.next hb); clear HA0 HB0 HZ0 hb; clear x0 x1 x2 x3 y0 y1 y2 y3 z0 z1 z2 z3; have x0 := HA1.out.x0; have x1 := HA1.out.x1; have x2 := HA1.out.x2; have x3 := HA1.out.x3; have y0 := HB1.out.x0; have y1 := HB1.out.x1; have y2 := HB1.out.x2; have y3 := HB1.out.x3; have z0 := HZ1.out.x0; have z1 := HZ1.out.x1; have z2 := HZ1.out.x2; have z3 := HZ1.out.x3) | (go_at_call 14; refine (CB.out _ (HNB.out.below HA1.out.below)).mono ?_; rintro e w3 ⟨rfl, hb⟩; clear CB; have HA2 := Aside0.mk (HA1.out.next hb); have HB2 := Aside0.mk (HB1.out.next hb); have HZ2 := Aside0.mk (HZ1.out.next hb); clear HA1 HB1 HZ1 hb; clear x0 x1 x2 x3 y0 y1 y2 y3 z0 z1 z2 z3; have x0 := HA2.out.x0; have x1 := HA2.out.x1; have x2 := HA2.out.x2; have x3 := HA2.out.x3; have y0 := HB2.out.x0; have y1 := HB2.out.x1; have y2 := HB2.out.x2; have y3 := HB2.out.x3; have z0 := HZ2.out.x0; have z1 := HZ2.out.x1; have z2 := HZ2.out.x2; have z3 := HZ2.out.x3))
  clear x0 x1 x2 x3 y0 y1 y2 y3 z0 z1 z2 z3
  have hb : Below w3.heap.size w3 w3.drew := (Below.refl _ _).drew
  have HA3 := Aside0.mk (HA2.out.next hb)
  have HB3 := Aside0.mk (HB2.out.next hb)
  have HZ3 := Aside0.mk (HZ2.out.next hb)
  clear HA2 HB2 HZ2 hb
  refine start_ (n := 14) (S := fun w' => w'.cell? ⟨b + 1, 1, none⟩ = some (.int .i64 bs) ∧ w'.cell? ⟨b + 1, 2, none⟩ = some (.slice B2 bi.length d2) ∧ w'.cell? ⟨b, 3, none⟩ = some (.slice A3 ao.length c3) ∧ w'.cell? ⟨b + 1, 3, none⟩ = some (.slice B3 bo.length d3)) (ds := [13]) #[false, false, false, false, false, false, false, false, false, false, false, false, false, false] rfl rfl rfl ⟨HB3.out.x1, HB3.out.x2, HA3.out.x3, HB3.out.x3⟩ (fun hHeld => ?_)
  refine with_tabW reg18.tab3 reg18.bits3 (fun HT_ HW_ => ?_)
  generalize w3.drew = w3 at *
  refine pz_ 0 30 HT_ ?_
  refine tz_ 1 31 HT_ HW_ hHeld ?_
  refine pz_ 2 32 HT_ ?_
  refine tz_ 3 33 HT_ HW_ hHeld ?_
  refine pz_ 5 35 HT_ ?_
  refine tz_ 6 36 HT_ HW_ hHeld ?_
  refine pz_ 7 37 HT_ ?_
  refine tz_ 8 38 HT_ HW_ hHeld ?_
  refine join_ (σ := (Option Addr × Nat) × (Option Addr × Nat) × Nat × Nat) 1 #[true, true, true, true, true, true, true, true, true, true, true, true, true, false] (fun q => [(34, .slice q.1.1 gb.length q.1.2), (39, .slice (some ⟨q.2.2.2, 0, none⟩) 2 2), (40, .slice q.2.1.1 (ao.length + bo.length) q.2.1.2), (41, .agg #[.int .i64 1, .int .i64 bs, .slice q.1.1 gb.length q.1.2, .slice q.2.1.1 (ao.length + bo.length) q.2.1.2]), (6, .pointer (some ⟨q.2.2.1, 0, none⟩))]) (fun q w' => Aside0 (B4 w b 27 (.int .i64 1) (.int .i64 as_) (.slice A2 ai.length c2) (.slice A3 ao.length c3) w') ∧ Aside0 (B4 w (b + 2) 27 (.int .i64 0) (.int .i64 0) (.slice none 0 0) (.slice none 0 0) w') ∧ Aside0 (kGI.R 44 w' w.heap.size (fun _ => True) (.slice q.1.1 gb.length q.1.2) gb) ∧ Aside0 (Kd.R k46 46 w' w.heap.size (fun _ => True) (.slice q.2.1.1 (ao.length + bo.length) q.2.1.2) (ao ++ bo)) ∧ Aside0 (w'.heap[q.2.2.1]? = some (.cells #[.int .i64 0, .int .i64 0, .slice none 0 0, .slice none 0 0] 27 (0, 0))) ∧ Aside0 (b + 2 < q.2.2.1)) ?hcont ?hord
  case hord =>
    intro JN
    have JNN := Aside0.mk JN
    clear JN
    refine three_ (i := 4) (j := 9) (k := 12) (Ni := some 34) (Nj := some 39) (Nk := some 6) #[true, true, true, true, true, true, true, true, true, false, false, false, false, false] #[true, true, true, true, false, true, true, true, true, true, false, false, false, false] #[true, true, true, true, false, true, true, true, true, false, false, false, true, false]  rfl rfl rfl rfl rfl rfl  (three_of HT_.out (by kernel_rfl)) (by decide) (by decide) (by decide) (fun K hK => ?_) (fun K hK => ?_) (fun K hK => ?_)
    · refine goes_ Try.func31 (by kernel_rfl) rfl #[.slice B2 bi.length d2] (by rfl) rfl rfl ma_ ?_
      refine (CL.out _ HB3.out.below).mono ?_
      rintro e v4w ⟨v2, rfl, hr, hb⟩
      obtain ⟨XA, xc, e2⟩ := Kd.R_slice hr
      subst e2
      refine ⟨_, rfl, ?_⟩
      have HA4 := Aside0.mk (HA3.out.next hb)
      have HB4 := Aside0.mk (HB3.out.next hb)
      have HZ4 := Aside0.mk (HZ3.out.next hb)
      have RV4 := Aside0.mk (Kd.R_lower hr HB3.out.below.size)
      refine hK.out _ _ ⟨HB4.out.x1, HB4.out.x2, HA4.out.x3, HB4.out.x3⟩ (fun hHeld => ?_)
      clear hK K hb
      refine two_ (i := 9) (j := 12) (Ni := some 39) (Nj := some 6) #[true, true, true, true, true, true, true, true, true, true, false, false, false, false] #[true, true, true, true, true, true, true, true, true, false, false, false, true, false]  rfl rfl rfl rfl  (two_of HT_.out (by kernel_rfl)) (by decide) (by decide) (fun K hK => ?_) (fun K hK => ?_)
      · refine value_ (by rfl) rfl (v := .slice (some ⟨v4w.heap.size, 0, none⟩) 2 2) (w1 := v4w.alloc (.cells #[.slice A3 ao.length c3, .slice B3 bo.length d3] 25)) (by first | (go_simp; done) | (go_simp; rfl)) ?_
        have hb : Below v4w.heap.size v4w (v4w.alloc (.cells #[.slice A3 ao.length c3, .slice B3 bo.length d3] 25)) := (Below.refl _ _).alloc (Nat.le_refl _) _
        have hx := blk_new v4w (.cells #[.slice A3 ao.length c3, .slice B3 bo.length d3] 25)
        obtain ⟨gs, hgs⟩ : ∃ gs, v4w.heap.size = gs := ⟨_, rfl⟩
        rw [hgs] at hx
        rw [hgs]
        clear hgs
        generalize v4w.alloc (.cells #[.slice A3 ao.length c3, .slice B3 bo.length d3] 25) = v5w at *
        have HA5 := Aside0.mk (HA4.out.next hb)
        have HB5 := Aside0.mk (HB4.out.next hb)
        have HZ5 := Aside0.mk (HZ4.out.next hb)
        have RV5 := Aside0.mk (Kd.R_below RV4.out hb)
        have SS5 := Aside0.mk hx
        refine hK.out _ _ ⟨HB5.out.x1, HB5.out.x2, HA5.out.x3, HB5.out.x3⟩ (fun hHeld => ?_)
        clear hK K hb
        refine two_ (i := 10) (j := 12) (Ni := some 40) (Nj := some 6) #[true, true, true, true, true, true, true, true, true, true, true, false, false, false] #[true, true, true, true, true, true, true, true, true, true, false, false, true, false]  rfl rfl rfl rfl  (two_of HT_.out (by kernel_rfl)) (by decide) (by decide) (fun K hK => ?_) (fun K hK => ?_)
        · refine goes_ Try.func32 (by kernel_rfl) rfl #[.slice (some ⟨gs, 0, none⟩) 2 2] (by rfl) rfl rfl ma_ ?_
          refine (CC.out _ gs HB5.out.below SS5.out).mono ?_
          rintro e v6w ⟨v3, rfl, hr, hb⟩
          obtain ⟨YA, yc, e3⟩ := Kd.R_slice hr
          rw [List.length_append] at e3
          subst e3
          refine ⟨_, rfl, ?_⟩
          have HA6 := Aside0.mk (HA5.out.next hb)
          have HB6 := Aside0.mk (HB5.out.next hb)
          have HZ6 := Aside0.mk (HZ5.out.next hb)
          have RV6 := Aside0.mk (Kd.R_below RV5.out hb)
          have SS6 := Aside0.mk (blk_below SS5.out hb)
          have RP6 := Aside0.mk (Kd.R_lower hr HB5.out.below.size)
          refine hK.out _ _ ⟨HB6.out.x1, HB6.out.x2, HA6.out.x3, HB6.out.x3⟩ (fun hHeld => ?_)
          clear hK K hb
          refine pz_ 11 41 HT_ ?_
          refine oz_ 12 6 HT_ (fun K hK => ?_)
          refine value_ (by rfl) rfl (v := .pointer (some ⟨v6w.heap.size, 0, none⟩)) (w1 := v6w.alloc (.cells #[.int .i64 0, .int .i64 0, .slice none 0 0, .slice none 0 0] 27)) (by first | (go_simp; done) | (go_simp; rfl)) ?_
          have hb : Below v6w.heap.size v6w (v6w.alloc (.cells #[.int .i64 0, .int .i64 0, .slice none 0 0, .slice none 0 0] 27)) := (Below.refl _ _).alloc (Nat.le_refl _) _
          have hx := blk_new v6w (.cells #[.int .i64 0, .int .i64 0, .slice none 0 0, .slice none 0 0] 27)
          have hlt := blk_lt HZ6.out.at_
          obtain ⟨b6, hb6⟩ : ∃ b6, v6w.heap.size = b6 := ⟨_, rfl⟩
          rw [hb6] at hx hlt
          rw [hb6]
          clear hb6
          generalize v6w.alloc (.cells #[.int .i64 0, .int .i64 0, .slice none 0 0, .slice none 0 0] 27) = v7w at *
          have LT := Aside0.mk hlt
          have HA7 := Aside0.mk (HA6.out.next hb)
          have HB7 := Aside0.mk (HB6.out.next hb)
          have HZ7 := Aside0.mk (HZ6.out.next hb)
          have RV7 := Aside0.mk (Kd.R_below RV6.out hb)
          have SS7 := Aside0.mk (blk_below SS6.out hb)
          have RP7 := Aside0.mk (Kd.R_below RP6.out hb)
          have TT7 := Aside0.mk hx
          refine hK.out _ _ ⟨HB7.out.x1, HB7.out.x2, HA7.out.x3, HB7.out.x3⟩ (fun hHeld => ?_)
          clear hK K hb
          exact norm_ pu_ (JNN.out ((XA, xc), (YA, yc), b6, gs) _ ⟨HA7, HZ7, RV7, RP7, TT7, LT⟩)
        · refine value_ (by rfl) rfl (v := .pointer (some ⟨v5w.heap.size, 0, none⟩)) (w1 := v5w.alloc (.cells #[.int .i64 0, .int .i64 0, .slice none 0 0, .slice none 0 0] 27)) (by first | (go_simp; done) | (go_simp; rfl)) ?_
          have hb : Below v5w.heap.size v5w (v5w.alloc (.cells #[.int .i64 0, .int .i64 0, .slice none 0 0, .slice none 0 0] 27)) := (Below.refl _ _).alloc (Nat.le_refl _) _
          have hx := blk_new v5w (.cells #[.int .i64 0, .int .i64 0, .slice none 0 0, .slice none 0 0] 27)
          have hlt := blk_lt HZ5.out.at_
          obtain ⟨b6, hb6⟩ : ∃ b6, v5w.heap.size = b6 := ⟨_, rfl⟩
          rw [hb6] at hx hlt
          rw [hb6]
          clear hb6
          generalize v5w.alloc (.cells #[.int .i64 0, .int .i64 0, .slice none 0 0, .slice none 0 0] 27) = v8w at *
          have LT := Aside0.mk hlt
          have HA8 := Aside0.mk (HA5.out.next hb)
          have HB8 := Aside0.mk (HB5.out.next hb)
          have HZ8 := Aside0.mk (HZ5.out.next hb)
          have RV8 := Aside0.mk (Kd.R_below RV5.out hb)
          have SS8 := Aside0.mk (blk_below SS5.out hb)
          have TT8 := Aside0.mk hx
          refine hK.out _ _ ⟨HB8.out.x1, HB8.out.x2, HA8.out.x3, HB8.out.x3⟩ (fun hHeld => ?_)
          clear hK K hb
          refine oz_ 10 40 HT_ (fun K hK => ?_)
          refine goes_ Try.func32 (by kernel_rfl) rfl #[.slice (some ⟨gs, 0, none⟩) 2 2] (by rfl) rfl rfl ma_ ?_
          refine (CC.out _ gs HB8.out.below SS8.out).mono ?_
          rintro e v9w ⟨v3, rfl, hr, hb⟩
          obtain ⟨YA, yc, e3⟩ := Kd.R_slice hr
          rw [List.length_append] at e3
          subst e3
          refine ⟨_, rfl, ?_⟩
          have HA9 := Aside0.mk (HA8.out.next hb)
          have HB9 := Aside0.mk (HB8.out.next hb)
          have HZ9 := Aside0.mk (HZ8.out.next hb)
          have RV9 := Aside0.mk (Kd.R_below RV8.out hb)
          have SS9 := Aside0.mk (blk_below SS8.out hb)
          have TT9 := Aside0.mk (blk_below TT8.out hb)
          have RP9 := Aside0.mk (Kd.R_lower hr HB8.out.below.size)
          refine hK.out _ _ ⟨HB9.out.x1, HB9.out.x2, HA9.out.x3, HB9.out.x3⟩ (fun hHeld => ?_)
          clear hK K hb
          refine pz_ 11 41 HT_ ?_
          exact norm_ pu_ (JNN.out ((XA, xc), (YA, yc), b6, gs) _ ⟨HA9, HZ9, RV9, RP9, TT9, LT⟩)
      · refine value_ (by rfl) rfl (v := .pointer (some ⟨v4w.heap.size, 0, none⟩)) (w1 := v4w.alloc (.cells #[.int .i64 0, .int .i64 0, .slice none 0 0, .slice none 0 0] 27)) (by first | (go_simp; done) | (go_simp; rfl)) ?_
        have hb : Below v4w.heap.size v4w (v4w.alloc (.cells #[.int .i64 0, .int .i64 0, .slice none 0 0, .slice none 0 0] 27)) := (Below.refl _ _).alloc (Nat.le_refl _) _
        have hx := blk_new v4w (.cells #[.int .i64 0, .int .i64 0, .slice none 0 0, .slice none 0 0] 27)
        have hlt := blk_lt HZ4.out.at_
        obtain ⟨b6, hb6⟩ : ∃ b6, v4w.heap.size = b6 := ⟨_, rfl⟩
        rw [hb6] at hx hlt
        rw [hb6]
        clear hb6
        generalize v4w.alloc (.cells #[.int .i64 0, .int .i64 0, .slice none 0 0, .slice none 0 0] 27) = v10w at *
        have LT := Aside0.mk hlt
        have HA10 := Aside0.mk (HA4.out.next hb)
        have HB10 := Aside0.mk (HB4.out.next hb)
        have HZ10 := Aside0.mk (HZ4.out.next hb)
        have RV10 := Aside0.mk (Kd.R_below RV4.out hb)
        have TT10 := Aside0.mk hx
        refine hK.out _ _ ⟨HB10.out.x1, HB10.out.x2, HA10.out.x3, HB10.out.x3⟩ (fun hHeld => ?_)
        clear hK K hb
        refine oz_ 9 39 HT_ (fun K hK => ?_)
        refine value_ (by rfl) rfl (v := .slice (some ⟨v10w.heap.size, 0, none⟩) 2 2) (w1 := v10w.alloc (.cells #[.slice A3 ao.length c3, .slice B3 bo.length d3] 25)) (by first | (go_simp; done) | (go_simp; rfl)) ?_
        have hb : Below v10w.heap.size v10w (v10w.alloc (.cells #[.slice A3 ao.length c3, .slice B3 bo.length d3] 25)) := (Below.refl _ _).alloc (Nat.le_refl _) _
        have hx := blk_new v10w (.cells #[.slice A3 ao.length c3, .slice B3 bo.length d3] 25)
        obtain ⟨gs, hgs⟩ : ∃ gs, v10w.heap.size = gs := ⟨_, rfl⟩
        rw [hgs] at hx
        rw [hgs]
        clear hgs
        generalize v10w.alloc (.cells #[.slice A3 ao.length c3, .slice B3 bo.length d3] 25) = v11w at *
        have HA11 := Aside0.mk (HA10.out.next hb)
        have HB11 := Aside0.mk (HB10.out.next hb)
        have HZ11 := Aside0.mk (HZ10.out.next hb)
        have RV11 := Aside0.mk (Kd.R_below RV10.out hb)
        have TT11 := Aside0.mk (blk_below TT10.out hb)
        have SS11 := Aside0.mk hx
        refine hK.out _ _ ⟨HB11.out.x1, HB11.out.x2, HA11.out.x3, HB11.out.x3⟩ (fun hHeld => ?_)
        clear hK K hb
        refine oz_ 10 40 HT_ (fun K hK => ?_)
        refine goes_ Try.func32 (by kernel_rfl) rfl #[.slice (some ⟨gs, 0, none⟩) 2 2] (by rfl) rfl rfl ma_ ?_
        refine (CC.out _ gs HB11.out.below SS11.out).mono ?_
        rintro e v12w ⟨v3, rfl, hr, hb⟩
        obtain ⟨YA, yc, e3⟩ := Kd.R_slice hr
        rw [List.length_append] at e3
        subst e3
        refine ⟨_, rfl, ?_⟩
        have HA12 := Aside0.mk (HA11.out.next hb)
        have HB12 := Aside0.mk (HB11.out.next hb)
        have HZ12 := Aside0.mk (HZ11.out.next hb)
        have RV12 := Aside0.mk (Kd.R_below RV11.out hb)
        have SS12 := Aside0.mk (blk_below SS11.out hb)
        have TT12 := Aside0.mk (blk_below TT11.out hb)
        have RP12 := Aside0.mk (Kd.R_lower hr HB11.out.below.size)
        refine hK.out _ _ ⟨HB12.out.x1, HB12.out.x2, HA12.out.x3, HB12.out.x3⟩ (fun hHeld => ?_)
        clear hK K hb
        refine pz_ 11 41 HT_ ?_
        exact norm_ pu_ (JNN.out ((XA, xc), (YA, yc), b6, gs) _ ⟨HA12, HZ12, RV12, RP12, TT12, LT⟩)
    · refine value_ (by rfl) rfl (v := .slice (some ⟨w3.heap.size, 0, none⟩) 2 2) (w1 := w3.alloc (.cells #[.slice A3 ao.length c3, .slice B3 bo.length d3] 25)) (by first | (go_simp; done) | (go_simp; rfl)) ?_
      have hb : Below w3.heap.size w3 (w3.alloc (.cells #[.slice A3 ao.length c3, .slice B3 bo.length d3] 25)) := (Below.refl _ _).alloc (Nat.le_refl _) _
      have hx := blk_new w3 (.cells #[.slice A3 ao.length c3, .slice B3 bo.length d3] 25)
      obtain ⟨gs, hgs⟩ : ∃ gs, w3.heap.size = gs := ⟨_, rfl⟩
      rw [hgs] at hx
      rw [hgs]
      clear hgs
      generalize w3.alloc (.cells #[.slice A3 ao.length c3, .slice B3 bo.length d3] 25) = v13w at *
      have HA13 := Aside0.mk (HA3.out.next hb)
      have HB13 := Aside0.mk (HB3.out.next hb)
      have HZ13 := Aside0.mk (HZ3.out.next hb)
      have SS13 := Aside0.mk hx
      refine hK.out _ _ ⟨HB13.out.x1, HB13.out.x2, HA13.out.x3, HB13.out.x3⟩ (fun hHeld => ?_)
      clear hK K hb
      refine two_ (i := 4) (j := 12) (Ni := some 34) (Nj := some 6) #[true, true, true, true, true, true, true, true, true, true, false, false, false, false] #[true, true, true, true, false, true, true, true, true, true, false, false, true, false]  rfl rfl rfl rfl  (two_of HT_.out (by kernel_rfl)) (by decide) (by decide) (fun K hK => ?_) (fun K hK => ?_)
      · refine goes_ Try.func31 (by kernel_rfl) rfl #[.slice B2 bi.length d2] (by rfl) rfl rfl ma_ ?_
        refine (CL.out _ HB13.out.below).mono ?_
        rintro e v14w ⟨v2, rfl, hr, hb⟩
        obtain ⟨XA, xc, e2⟩ := Kd.R_slice hr
        subst e2
        refine ⟨_, rfl, ?_⟩
        have HA14 := Aside0.mk (HA13.out.next hb)
        have HB14 := Aside0.mk (HB13.out.next hb)
        have HZ14 := Aside0.mk (HZ13.out.next hb)
        have SS14 := Aside0.mk (blk_below SS13.out hb)
        have RV14 := Aside0.mk (Kd.R_lower hr HB13.out.below.size)
        refine hK.out _ _ ⟨HB14.out.x1, HB14.out.x2, HA14.out.x3, HB14.out.x3⟩ (fun hHeld => ?_)
        clear hK K hb
        refine two_ (i := 10) (j := 12) (Ni := some 40) (Nj := some 6) #[true, true, true, true, true, true, true, true, true, true, true, false, false, false] #[true, true, true, true, true, true, true, true, true, true, false, false, true, false]  rfl rfl rfl rfl  (two_of HT_.out (by kernel_rfl)) (by decide) (by decide) (fun K hK => ?_) (fun K hK => ?_)
        · refine goes_ Try.func32 (by kernel_rfl) rfl #[.slice (some ⟨gs, 0, none⟩) 2 2] (by rfl) rfl rfl ma_ ?_
          refine (CC.out _ gs HB14.out.below SS14.out).mono ?_
          rintro e v15w ⟨v3, rfl, hr, hb⟩
          obtain ⟨YA, yc, e3⟩ := Kd.R_slice hr
          rw [List.length_append] at e3
          subst e3
          refine ⟨_, rfl, ?_⟩
          have HA15 := Aside0.mk (HA14.out.next hb)
          have HB15 := Aside0.mk (HB14.out.next hb)
          have HZ15 := Aside0.mk (HZ14.out.next hb)
          have RV15 := Aside0.mk (Kd.R_below RV14.out hb)
          have SS15 := Aside0.mk (blk_below SS14.out hb)
          have RP15 := Aside0.mk (Kd.R_lower hr HB14.out.below.size)
          refine hK.out _ _ ⟨HB15.out.x1, HB15.out.x2, HA15.out.x3, HB15.out.x3⟩ (fun hHeld => ?_)
          clear hK K hb
          refine pz_ 11 41 HT_ ?_
          refine oz_ 12 6 HT_ (fun K hK => ?_)
          refine value_ (by rfl) rfl (v := .pointer (some ⟨v15w.heap.size, 0, none⟩)) (w1 := v15w.alloc (.cells #[.int .i64 0, .int .i64 0, .slice none 0 0, .slice none 0 0] 27)) (by first | (go_simp; done) | (go_simp; rfl)) ?_
          have hb : Below v15w.heap.size v15w (v15w.alloc (.cells #[.int .i64 0, .int .i64 0, .slice none 0 0, .slice none 0 0] 27)) := (Below.refl _ _).alloc (Nat.le_refl _) _
          have hx := blk_new v15w (.cells #[.int .i64 0, .int .i64 0, .slice none 0 0, .slice none 0 0] 27)
          have hlt := blk_lt HZ15.out.at_
          obtain ⟨b6, hb6⟩ : ∃ b6, v15w.heap.size = b6 := ⟨_, rfl⟩
          rw [hb6] at hx hlt
          rw [hb6]
          clear hb6
          generalize v15w.alloc (.cells #[.int .i64 0, .int .i64 0, .slice none 0 0, .slice none 0 0] 27) = v16w at *
          have LT := Aside0.mk hlt
          have HA16 := Aside0.mk (HA15.out.next hb)
          have HB16 := Aside0.mk (HB15.out.next hb)
          have HZ16 := Aside0.mk (HZ15.out.next hb)
          have RV16 := Aside0.mk (Kd.R_below RV15.out hb)
          have SS16 := Aside0.mk (blk_below SS15.out hb)
          have RP16 := Aside0.mk (Kd.R_below RP15.out hb)
          have TT16 := Aside0.mk hx
          refine hK.out _ _ ⟨HB16.out.x1, HB16.out.x2, HA16.out.x3, HB16.out.x3⟩ (fun hHeld => ?_)
          clear hK K hb
          exact norm_ pu_ (JNN.out ((XA, xc), (YA, yc), b6, gs) _ ⟨HA16, HZ16, RV16, RP16, TT16, LT⟩)
        · refine value_ (by rfl) rfl (v := .pointer (some ⟨v14w.heap.size, 0, none⟩)) (w1 := v14w.alloc (.cells #[.int .i64 0, .int .i64 0, .slice none 0 0, .slice none 0 0] 27)) (by first | (go_simp; done) | (go_simp; rfl)) ?_
          have hb : Below v14w.heap.size v14w (v14w.alloc (.cells #[.int .i64 0, .int .i64 0, .slice none 0 0, .slice none 0 0] 27)) := (Below.refl _ _).alloc (Nat.le_refl _) _
          have hx := blk_new v14w (.cells #[.int .i64 0, .int .i64 0, .slice none 0 0, .slice none 0 0] 27)
          have hlt := blk_lt HZ14.out.at_
          obtain ⟨b6, hb6⟩ : ∃ b6, v14w.heap.size = b6 := ⟨_, rfl⟩
          rw [hb6] at hx hlt
          rw [hb6]
          clear hb6
          generalize v14w.alloc (.cells #[.int .i64 0, .int .i64 0, .slice none 0 0, .slice none 0 0] 27) = v17w at *
          have LT := Aside0.mk hlt
          have HA17 := Aside0.mk (HA14.out.next hb)
          have HB17 := Aside0.mk (HB14.out.next hb)
          have HZ17 := Aside0.mk (HZ14.out.next hb)
          have RV17 := Aside0.mk (Kd.R_below RV14.out hb)
          have SS17 := Aside0.mk (blk_below SS14.out hb)
          have TT17 := Aside0.mk hx
          refine hK.out _ _ ⟨HB17.out.x1, HB17.out.x2, HA17.out.x3, HB17.out.x3⟩ (fun hHeld => ?_)
          clear hK K hb
          refine oz_ 10 40 HT_ (fun K hK => ?_)
          refine goes_ Try.func32 (by kernel_rfl) rfl #[.slice (some ⟨gs, 0, none⟩) 2 2] (by rfl) rfl rfl ma_ ?_
          refine (CC.out _ gs HB17.out.below SS17.out).mono ?_
          rintro e v18w ⟨v3, rfl, hr, hb⟩
          obtain ⟨YA, yc, e3⟩ := Kd.R_slice hr
          rw [List.length_append] at e3
          subst e3
          refine ⟨_, rfl, ?_⟩
          have HA18 := Aside0.mk (HA17.out.next hb)
          have HB18 := Aside0.mk (HB17.out.next hb)
          have HZ18 := Aside0.mk (HZ17.out.next hb)
          have RV18 := Aside0.mk (Kd.R_below RV17.out hb)
          have SS18 := Aside0.mk (blk_below SS17.out hb)
          have TT18 := Aside0.mk (blk_below TT17.out hb)
          have RP18 := Aside0.mk (Kd.R_lower hr HB17.out.below.size)
          refine hK.out _ _ ⟨HB18.out.x1, HB18.out.x2, HA18.out.x3, HB18.out.x3⟩ (fun hHeld => ?_)
          clear hK K hb
          refine pz_ 11 41 HT_ ?_
          exact norm_ pu_ (JNN.out ((XA, xc), (YA, yc), b6, gs) _ ⟨HA18, HZ18, RV18, RP18, TT18, LT⟩)
      · refine value_ (by rfl) rfl (v := .pointer (some ⟨v13w.heap.size, 0, none⟩)) (w1 := v13w.alloc (.cells #[.int .i64 0, .int .i64 0, .slice none 0 0, .slice none 0 0] 27)) (by first | (go_simp; done) | (go_simp; rfl)) ?_
        have hb : Below v13w.heap.size v13w (v13w.alloc (.cells #[.int .i64 0, .int .i64 0, .slice none 0 0, .slice none 0 0] 27)) := (Below.refl _ _).alloc (Nat.le_refl _) _
        have hx := blk_new v13w (.cells #[.int .i64 0, .int .i64 0, .slice none 0 0, .slice none 0 0] 27)
        have hlt := blk_lt HZ13.out.at_
        obtain ⟨b6, hb6⟩ : ∃ b6, v13w.heap.size = b6 := ⟨_, rfl⟩
        rw [hb6] at hx hlt
        rw [hb6]
        clear hb6
        generalize v13w.alloc (.cells #[.int .i64 0, .int .i64 0, .slice none 0 0, .slice none 0 0] 27) = v19w at *
        have LT := Aside0.mk hlt
        have HA19 := Aside0.mk (HA13.out.next hb)
        have HB19 := Aside0.mk (HB13.out.next hb)
        have HZ19 := Aside0.mk (HZ13.out.next hb)
        have SS19 := Aside0.mk (blk_below SS13.out hb)
        have TT19 := Aside0.mk hx
        refine hK.out _ _ ⟨HB19.out.x1, HB19.out.x2, HA19.out.x3, HB19.out.x3⟩ (fun hHeld => ?_)
        clear hK K hb
        refine oz_ 4 34 HT_ (fun K hK => ?_)
        refine goes_ Try.func31 (by kernel_rfl) rfl #[.slice B2 bi.length d2] (by rfl) rfl rfl ma_ ?_
        refine (CL.out _ HB19.out.below).mono ?_
        rintro e v20w ⟨v2, rfl, hr, hb⟩
        obtain ⟨XA, xc, e2⟩ := Kd.R_slice hr
        subst e2
        refine ⟨_, rfl, ?_⟩
        have HA20 := Aside0.mk (HA19.out.next hb)
        have HB20 := Aside0.mk (HB19.out.next hb)
        have HZ20 := Aside0.mk (HZ19.out.next hb)
        have SS20 := Aside0.mk (blk_below SS19.out hb)
        have TT20 := Aside0.mk (blk_below TT19.out hb)
        have RV20 := Aside0.mk (Kd.R_lower hr HB19.out.below.size)
        refine hK.out _ _ ⟨HB20.out.x1, HB20.out.x2, HA20.out.x3, HB20.out.x3⟩ (fun hHeld => ?_)
        clear hK K hb
        refine oz_ 10 40 HT_ (fun K hK => ?_)
        refine goes_ Try.func32 (by kernel_rfl) rfl #[.slice (some ⟨gs, 0, none⟩) 2 2] (by rfl) rfl rfl ma_ ?_
        refine (CC.out _ gs HB20.out.below SS20.out).mono ?_
        rintro e v21w ⟨v3, rfl, hr, hb⟩
        obtain ⟨YA, yc, e3⟩ := Kd.R_slice hr
        rw [List.length_append] at e3
        subst e3
        refine ⟨_, rfl, ?_⟩
        have HA21 := Aside0.mk (HA20.out.next hb)
        have HB21 := Aside0.mk (HB20.out.next hb)
        have HZ21 := Aside0.mk (HZ20.out.next hb)
        have RV21 := Aside0.mk (Kd.R_below RV20.out hb)
        have SS21 := Aside0.mk (blk_below SS20.out hb)
        have TT21 := Aside0.mk (blk_below TT20.out hb)
        have RP21 := Aside0.mk (Kd.R_lower hr HB20.out.below.size)
        refine hK.out _ _ ⟨HB21.out.x1, HB21.out.x2, HA21.out.x3, HB21.out.x3⟩ (fun hHeld => ?_)
        clear hK K hb
        refine pz_ 11 41 HT_ ?_
        exact norm_ pu_ (JNN.out ((XA, xc), (YA, yc), b6, gs) _ ⟨HA21, HZ21, RV21, RP21, TT21, LT⟩)
    · refine value_ (by rfl) rfl (v := .pointer (some ⟨w3.heap.size, 0, none⟩)) (w1 := w3.alloc (.cells #[.int .i64 0, .int .i64 0, .slice none 0 0, .slice none 0 0] 27)) (by first | (go_simp; done) | (go_simp; rfl)) ?_
      have hb : Below w3.heap.size w3 (w3.alloc (.cells #[.int .i64 0, .int .i64 0, .slice none 0 0, .slice none 0 0] 27)) := (Below.refl _ _).alloc (Nat.le_refl _) _
      have hx := blk_new w3 (.cells #[.int .i64 0, .int .i64 0, .slice none 0 0, .slice none 0 0] 27)
      have hlt := blk_lt HZ3.out.at_
      obtain ⟨b6, hb6⟩ : ∃ b6, w3.heap.size = b6 := ⟨_, rfl⟩
      rw [hb6] at hx hlt
      rw [hb6]
      clear hb6
      generalize w3.alloc (.cells #[.int .i64 0, .int .i64 0, .slice none 0 0, .slice none 0 0] 27) = v22w at *
      have LT := Aside0.mk hlt
      have HA22 := Aside0.mk (HA3.out.next hb)
      have HB22 := Aside0.mk (HB3.out.next hb)
      have HZ22 := Aside0.mk (HZ3.out.next hb)
      have TT22 := Aside0.mk hx
      refine hK.out _ _ ⟨HB22.out.x1, HB22.out.x2, HA22.out.x3, HB22.out.x3⟩ (fun hHeld => ?_)
      clear hK K hb
      refine two_ (i := 4) (j := 9) (Ni := some 34) (Nj := some 39) #[true, true, true, true, true, true, true, true, true, false, false, false, true, false] #[true, true, true, true, false, true, true, true, true, true, false, false, true, false]  rfl rfl rfl rfl  (two_of HT_.out (by kernel_rfl)) (by decide) (by decide) (fun K hK => ?_) (fun K hK => ?_)
      · refine goes_ Try.func31 (by kernel_rfl) rfl #[.slice B2 bi.length d2] (by rfl) rfl rfl ma_ ?_
        refine (CL.out _ HB22.out.below).mono ?_
        rintro e v23w ⟨v2, rfl, hr, hb⟩
        obtain ⟨XA, xc, e2⟩ := Kd.R_slice hr
        subst e2
        refine ⟨_, rfl, ?_⟩
        have HA23 := Aside0.mk (HA22.out.next hb)
        have HB23 := Aside0.mk (HB22.out.next hb)
        have HZ23 := Aside0.mk (HZ22.out.next hb)
        have TT23 := Aside0.mk (blk_below TT22.out hb)
        have RV23 := Aside0.mk (Kd.R_lower hr HB22.out.below.size)
        refine hK.out _ _ ⟨HB23.out.x1, HB23.out.x2, HA23.out.x3, HB23.out.x3⟩ (fun hHeld => ?_)
        clear hK K hb
        refine oz_ 9 39 HT_ (fun K hK => ?_)
        refine value_ (by rfl) rfl (v := .slice (some ⟨v23w.heap.size, 0, none⟩) 2 2) (w1 := v23w.alloc (.cells #[.slice A3 ao.length c3, .slice B3 bo.length d3] 25)) (by first | (go_simp; done) | (go_simp; rfl)) ?_
        have hb : Below v23w.heap.size v23w (v23w.alloc (.cells #[.slice A3 ao.length c3, .slice B3 bo.length d3] 25)) := (Below.refl _ _).alloc (Nat.le_refl _) _
        have hx := blk_new v23w (.cells #[.slice A3 ao.length c3, .slice B3 bo.length d3] 25)
        obtain ⟨gs, hgs⟩ : ∃ gs, v23w.heap.size = gs := ⟨_, rfl⟩
        rw [hgs] at hx
        rw [hgs]
        clear hgs
        generalize v23w.alloc (.cells #[.slice A3 ao.length c3, .slice B3 bo.length d3] 25) = v24w at *
        have HA24 := Aside0.mk (HA23.out.next hb)
        have HB24 := Aside0.mk (HB23.out.next hb)
        have HZ24 := Aside0.mk (HZ23.out.next hb)
        have RV24 := Aside0.mk (Kd.R_below RV23.out hb)
        have TT24 := Aside0.mk (blk_below TT23.out hb)
        have SS24 := Aside0.mk hx
        refine hK.out _ _ ⟨HB24.out.x1, HB24.out.x2, HA24.out.x3, HB24.out.x3⟩ (fun hHeld => ?_)
        clear hK K hb
        refine oz_ 10 40 HT_ (fun K hK => ?_)
        refine goes_ Try.func32 (by kernel_rfl) rfl #[.slice (some ⟨gs, 0, none⟩) 2 2] (by rfl) rfl rfl ma_ ?_
        refine (CC.out _ gs HB24.out.below SS24.out).mono ?_
        rintro e v25w ⟨v3, rfl, hr, hb⟩
        obtain ⟨YA, yc, e3⟩ := Kd.R_slice hr
        rw [List.length_append] at e3
        subst e3
        refine ⟨_, rfl, ?_⟩
        have HA25 := Aside0.mk (HA24.out.next hb)
        have HB25 := Aside0.mk (HB24.out.next hb)
        have HZ25 := Aside0.mk (HZ24.out.next hb)
        have RV25 := Aside0.mk (Kd.R_below RV24.out hb)
        have SS25 := Aside0.mk (blk_below SS24.out hb)
        have TT25 := Aside0.mk (blk_below TT24.out hb)
        have RP25 := Aside0.mk (Kd.R_lower hr HB24.out.below.size)
        refine hK.out _ _ ⟨HB25.out.x1, HB25.out.x2, HA25.out.x3, HB25.out.x3⟩ (fun hHeld => ?_)
        clear hK K hb
        refine pz_ 11 41 HT_ ?_
        exact norm_ pu_ (JNN.out ((XA, xc), (YA, yc), b6, gs) _ ⟨HA25, HZ25, RV25, RP25, TT25, LT⟩)
      · refine value_ (by rfl) rfl (v := .slice (some ⟨v22w.heap.size, 0, none⟩) 2 2) (w1 := v22w.alloc (.cells #[.slice A3 ao.length c3, .slice B3 bo.length d3] 25)) (by first | (go_simp; done) | (go_simp; rfl)) ?_
        have hb : Below v22w.heap.size v22w (v22w.alloc (.cells #[.slice A3 ao.length c3, .slice B3 bo.length d3] 25)) := (Below.refl _ _).alloc (Nat.le_refl _) _
        have hx := blk_new v22w (.cells #[.slice A3 ao.length c3, .slice B3 bo.length d3] 25)
        obtain ⟨gs, hgs⟩ : ∃ gs, v22w.heap.size = gs := ⟨_, rfl⟩
        rw [hgs] at hx
        rw [hgs]
        clear hgs
        generalize v22w.alloc (.cells #[.slice A3 ao.length c3, .slice B3 bo.length d3] 25) = v26w at *
        have HA26 := Aside0.mk (HA22.out.next hb)
        have HB26 := Aside0.mk (HB22.out.next hb)
        have HZ26 := Aside0.mk (HZ22.out.next hb)
        have TT26 := Aside0.mk (blk_below TT22.out hb)
        have SS26 := Aside0.mk hx
        refine hK.out _ _ ⟨HB26.out.x1, HB26.out.x2, HA26.out.x3, HB26.out.x3⟩ (fun hHeld => ?_)
        clear hK K hb
        refine oz_ 4 34 HT_ (fun K hK => ?_)
        refine goes_ Try.func31 (by kernel_rfl) rfl #[.slice B2 bi.length d2] (by rfl) rfl rfl ma_ ?_
        refine (CL.out _ HB26.out.below).mono ?_
        rintro e v27w ⟨v2, rfl, hr, hb⟩
        obtain ⟨XA, xc, e2⟩ := Kd.R_slice hr
        subst e2
        refine ⟨_, rfl, ?_⟩
        have HA27 := Aside0.mk (HA26.out.next hb)
        have HB27 := Aside0.mk (HB26.out.next hb)
        have HZ27 := Aside0.mk (HZ26.out.next hb)
        have SS27 := Aside0.mk (blk_below SS26.out hb)
        have TT27 := Aside0.mk (blk_below TT26.out hb)
        have RV27 := Aside0.mk (Kd.R_lower hr HB26.out.below.size)
        refine hK.out _ _ ⟨HB27.out.x1, HB27.out.x2, HA27.out.x3, HB27.out.x3⟩ (fun hHeld => ?_)
        clear hK K hb
        refine oz_ 10 40 HT_ (fun K hK => ?_)
        refine goes_ Try.func32 (by kernel_rfl) rfl #[.slice (some ⟨gs, 0, none⟩) 2 2] (by rfl) rfl rfl ma_ ?_
        refine (CC.out _ gs HB27.out.below SS27.out).mono ?_
        rintro e v28w ⟨v3, rfl, hr, hb⟩
        obtain ⟨YA, yc, e3⟩ := Kd.R_slice hr
        rw [List.length_append] at e3
        subst e3
        refine ⟨_, rfl, ?_⟩
        have HA28 := Aside0.mk (HA27.out.next hb)
        have HB28 := Aside0.mk (HB27.out.next hb)
        have HZ28 := Aside0.mk (HZ27.out.next hb)
        have RV28 := Aside0.mk (Kd.R_below RV27.out hb)
        have SS28 := Aside0.mk (blk_below SS27.out hb)
        have TT28 := Aside0.mk (blk_below TT27.out hb)
        have RP28 := Aside0.mk (Kd.R_lower hr HB27.out.below.size)
        refine hK.out _ _ ⟨HB28.out.x1, HB28.out.x2, HA28.out.x3, HB28.out.x3⟩ (fun hHeld => ?_)
        clear hK K hb
        refine pz_ 11 41 HT_ ?_
        exact norm_ pu_ (JNN.out ((XA, xc), (YA, yc), b6, gs) _ ⟨HA28, HZ28, RV28, RP28, TT28, LT⟩)
  case hcont =>
    rintro ⟨⟨XA, xc⟩, ⟨YA, yc⟩, b6, gs⟩ w5 ⟨HA5, HZ5, RV5, RP5, TT5, LT⟩
    simp only at HA5 HZ5 RV5 RP5 TT5 LT
    refine norm_ (a' := ?_) ?_ ?_
    rotate_left
    · simp only [putAll, Act.put, List.setIfInBounds_toArray, List.set_cons_zero, List.set_cons_succ]; rfl
    refine last_ (i := 13) (N := none) #[true, true, true, true, true, true, true, true, true, true, true, true, true, true] rfl rfl (one_of HT_.out (by kernel_rfl)) (by decide) (fun K hK => ?_)
    obtain ⟨z0, f0, z1, f1, z2, f2, z3, f3, k4⟩ := put4c (.int .i64 1) (.int .i64 bs) (.slice XA gb.length xc) (.slice YA (ao.length + bo.length) yc) TT5.out
    have hge : w.heap.size ≤ b6 := by have := HBS.out; have := LT.out; omega
    have hlt := LT.out
    have hro := Kd.R_mono (Kd.R_far (p := ⟨b6, 3, none⟩) (Kd.R_far (p := ⟨b6, 2, none⟩) (Kd.R_far (p := ⟨b6, 1, none⟩) (Kd.R_far (p := ⟨b6, 0, none⟩) (Kd.R_types RV5.out TT5.out (by decide)) (fun _ hk => hk.2) (.int .i64 1)) (fun _ hk => hk.2) (.int .i64 bs)) (fun _ hk => hk.2) (.slice XA gb.length xc)) (fun _ hk => hk.2) (.slice YA (ao.length + bo.length) yc)) (fun _ _ => trivial)
    have hrp := Kd.R_mono (Kd.R_far (p := ⟨b6, 3, none⟩) (Kd.R_far (p := ⟨b6, 2, none⟩) (Kd.R_far (p := ⟨b6, 1, none⟩) (Kd.R_far (p := ⟨b6, 0, none⟩) (Kd.R_types RP5.out TT5.out (by decide)) (fun _ hk => hk.2) (.int .i64 1)) (fun _ hk => hk.2) (.int .i64 bs)) (fun _ hk => hk.2) (.slice XA gb.length xc)) (fun _ hk => hk.2) (.slice YA (ao.length + bo.length) yc)) (fun _ _ => trivial)
    have ha := (B4.set (B4.set (B4.set (B4.set HA5.out (k := 0) (show b ≠ b6 by omega) hge (.int .i64 1)) (k := 1) (show b ≠ b6 by omega) hge (.int .i64 bs)) (k := 2) (show b ≠ b6 by omega) hge (.slice XA gb.length xc)) (k := 3) (show b ≠ b6 by omega) hge (.slice YA (ao.length + bo.length) yc))
    have hz := (B4.set (B4.set (B4.set (B4.set HZ5.out (k := 0) (show b + 2 ≠ b6 by omega) hge (.int .i64 1)) (k := 1) (show b + 2 ≠ b6 by omega) hge (.int .i64 bs)) (k := 2) (show b + 2 ≠ b6 by omega) hge (.slice XA gb.length xc)) (k := 3) (show b + 2 ≠ b6 by omega) hge (.slice YA (ao.length + bo.length) yc))
    have hms : MS P w (b + 2) b6 (.int .i64 0) (.int .i64 0) (.slice none 0 0) (.slice none 0 0) bs (.slice XA gb.length xc) (.slice YA (ao.length + bo.length) yc) gb (ao ++ bo) ((((w5.setCell ⟨b6, 0, none⟩ (.int .i64 1)).setCell ⟨b6, 1, none⟩ (.int .i64 bs)).setCell ⟨b6, 2, none⟩ (.slice XA gb.length xc)).setCell ⟨b6, 3, none⟩ (.slice YA (ao.length + bo.length) yc)) := ⟨hz, ⟨hz.below, k4, hge⟩, by omega, hro, hrp, fun g hg => ((HDb.out g hg).below ha.below).mono (fun k hk => ⟨fun e => by have := Kd.R_base hro k e.symm; have := hk.2; omega, by have := hk.2; omega, by have := hk.2; have := HBS.out; omega, hk.1⟩)⟩
    have MS6 := Aside0.mk hms
    have HA6 := Aside0.mk ha
    clear k4 hro hrp ha hz hms HA5 HZ5 RV5 RP5 TT5 hge HA3 HB3 HZ3
    refine skip_ (w1 := (((w5.setCell ⟨b6, 0, none⟩ (.int .i64 1)).setCell ⟨b6, 1, none⟩ (.int .i64 bs)).setCell ⟨b6, 2, none⟩ (.slice XA gb.length xc)).setCell ⟨b6, 3, none⟩ (.slice YA (ao.length + bo.length) yc)) (by rfl) rfl (by first | (go_simp; done) | (go_simp; rfl)) ?_
    refine hK.out _ _ ?_
    clear hK K z0 f0 z1 f1 z2 f2 z3 f3
    refine done_ (done_of HT_.out (by kernel_rfl)) ?_
    clear HT_ HW_ hHeld
    generalize (((w5.setCell ⟨b6, 0, none⟩ (.int .i64 1)).setCell ⟨b6, 1, none⟩ (.int .i64 bs)).setCell ⟨b6, 2, none⟩ (.slice XA gb.length xc)).setCell ⟨b6, 3, none⟩ (.slice YA (ao.length + bo.length) yc) = w6 at *
    have x2 := HA6.out.x2
    go_wp2
    clear x2 HA6 CL CC HDb
    go_loopg [45] ai.length (fun gg s45 wr => ∃ (i : Nat) (acc : List GI) (v : Value), i ≤ ai.length ∧ ai.length - i ≤ gg ∧ s45 = .int .i64 i ∧ Aside0 (MS P w (b + 2) b6 (.int .i64 0) (.int .i64 0) (.slice none 0 0) (.slice none 0 0) bs v (.slice YA (ao.length + bo.length) yc) acc (ao ++ bo) wr) ∧ Aside0 (acc.map GI.x = (ai.take i).foldl insS bi) ∧ Aside0 (SrtB acc) ∧ Aside0 (acc.length ≤ 256 + i))
    case atStart =>
      exact ⟨0, gb, _, by omega, by omega, rfl, MS6, ⟨by rw [HGB.out]; rfl⟩, HSB, ⟨by rw [HGL.out]; have := HLN.out; omega⟩⟩
    case round =>
      obtain ⟨i, acc, v, hi, hgi, rfl, HM, HMAP, HSRT, HLEN⟩ := hrel
      clear MS6
      obtain ⟨VA, vc, ev, _, _⟩ := Kd.R_reads HM.out.ro
      subst ev
      by_cases hlt : i < ai.length
      · have hlg : i < ga.length := by rw [HGLA.out]; exact hlt
        obtain ⟨g, hg⟩ : ∃ g, ga[i] = g := ⟨_, rfl⟩
        have HGM := Aside0.mk (show g ∈ ga by rw [← hg]; exact List.getElem_mem hlg)
        have hgx : g.x = ai[i] := by
          have h2 : (ga.map GI.x)[i]? = ai[i]? := by rw [HGA.out]
          rw [List.getElem?_map, List.getElem?_eq_getElem hlg, List.getElem?_eq_getElem hlt, hg] at h2
          injection h2
        have HSTEP := Aside0.mk (show (ai.take (i + 1)).foldl insS bi = insS ((ai.take i).foldl insS bi) g.x by rw [List.take_succ_eq_append_getElem hlt, List.foldl_append, hgx]; rfl)
        have HG32 := Aside0.mk (show g.d.length = 32 from HD32.out g.x (by rw [hgx]; exact List.getElem_mem hlt))
        obtain ⟨ad, hA2, e1, e2⟩ := at_GI (Kd.C_below HCa.out HM.out.br.below) i hlg
        rw [hg] at e1 e2
        clear hg hgx
        subst hA2
        have q1 : (0 ≤ (i : Int)) = True := eq_true (by omega)
        have q2 : ((i : Int) < (ai.length : Int)) = True := eq_true (by omega)
        have q3 : (i < ai.length) = True := eq_true hlt
        go_upto_region 7 with (fail)
        clear q1 q2 q3 e1 e2
        have hb : Below wr.heap.size wr (wr.alloc (.cells #[.int .i64 g.f0, .slice g.A g.d.length g.c] 44)) := (Below.refl _ _).alloc (Nat.le_refl _) _
        have hx := blk_new wr (.cells #[.int .i64 g.f0, .slice g.A g.d.length g.c] 44)
        have HV8 := Aside0.mk (fun k (hk : (Value.slice VA acc.length vc).ownBlock = some k) => Kd.R_lt HM.out.ro k hk)
        have HM7 := Aside0.mk (HM.out.next hb)
        obtain ⟨b8, hb8⟩ : ∃ b8, wr.heap.size = b8 := ⟨_, rfl⟩
        rw [hb8] at hx HV8
        rw [hb8]
        clear hb8 hb HM
        generalize wr.alloc (.cells #[.int .i64 g.f0, .slice g.A g.d.length g.c] 44) = w7 at *
        have HX7 := Aside0.mk hx
        have c0 : w7.cell? ⟨b8, 0, none⟩ = some (.int .i64 g.f0) := (blk_cell hx 0).trans rfl
        have c1 : w7.cell? ⟨b8, 1, none⟩ = some (.slice g.A g.d.length g.c) := (blk_cell hx 1).trans rfl
        have m2 := HM7.out.bo.x2
        have BSC := Aside0.mk (bs_gi VA vc acc g.f0 g.A g.d.length g.c w7 (Kd.R_reads' HM7.out.ro).2.2 HSRT.out (by have := HLEN.out; have := HLN.out; omega))
        clear hx
        go_upto_region 8 with (go_at_call 33; refine BSC.out.mono ?_; rintro e w8 ⟨rfl, hb⟩; have HM8 := Aside0.mk (HM7.out.next hb); have HX8 := Aside0.mk (blk_below HX7.out hb); clear BSC hb HM7 HX7 c0 c1 m2)
        obtain ⟨h, hh⟩ : ∃ h, hasB acc g.f0 = h := ⟨_, rfl⟩
        rw [hh]
        have HH := Aside0.mk hh
        clear hh
        cases h with
        | true =>
          have HNEW := Aside0.mk (show acc.map GI.x = (ai.take (i + 1)).foldl insS bi by rw [HSTEP.out, ← HMAP.out]; exact has_map acc g HSRT.out HH.out)
          go_wp2
          go_roundg (ai.length - (i + 1))
          case measure => omega
          case rel => exact ⟨i + 1, acc, _, by omega, by omega, nx_ i (by have := HLN.out; omega), HM8, HNEW, HSRT, ⟨by have := HLEN.out; omega⟩⟩
        | false =>
          go_upto_region 9 with (fail)
          have hb : Below w8.heap.size w8 w8.drew := (Below.refl _ _).drew
          have HM9 := Aside0.mk (HM8.out.next hb)
          have HX9 := Aside0.mk (blk_below HX8.out hb)
          clear HM8 HX8 hb
          refine start_ (n := 13) (S := fun w' => w'.cell? ⟨b6, 2, none⟩ = some (.slice VA acc.length vc) ∧ w'.cell? ⟨b8, 0, none⟩ = some (.int .i64 g.f0) ∧ w'.cell? ⟨b8, 1, none⟩ = some (.slice g.A g.d.length g.c)) (ds := [12]) #[false, false, false, false, false, false, false, false, false, false, false, false, false] rfl rfl rfl ⟨HM9.out.bo.x2, (blk_cell HX9.out 0).trans rfl, (blk_cell HX9.out 1).trans rfl⟩ (fun hHeld => ?_)
          refine with_tabW reg18.tab9 reg18.bits9 (fun HT_ HW_ => ?_)
          generalize w8.drew = w9 at *
          clear w8
          refine pz_ 0 58 HT_ ?_
          refine tz_ 1 59 HT_ HW_ hHeld ?_
          refine pz_ 2 60 HT_ ?_
          refine pz_ 3 61 HT_ ?_
          refine tz_ 4 62 HT_ HW_ hHeld ?_
          refine pz_ 5 63 HT_ ?_
          refine tz_ 6 64 HT_ HW_ hHeld ?_
          refine oz_ 7 65 HT_ (fun K hK => ?_)
          have hdg := (HDa.out g HGM.out).below HM9.out.br.below
          refine goes_ Try.func37 (by kernel_rfl) rfl #[.slice g.A g.d.length g.c] (by rfl) rfl rfl ma_ ?_
          refine (bytes_Clone.calls g.A g.c g.d g.d w9 (Kd.F_now hdg.2) hdg.1 (if_pos (by rw [HG32.out]; omega))).mono ?_
          rintro e w10 ⟨vd, rfl, hr, hb⟩
          obtain ⟨DA, dc, ed⟩ := Kd.R_slice hr
          subst ed
          refine ⟨_, rfl, ?_⟩
          have HM10 := Aside0.mk (HM9.out.next hb)
          have HX10 := Aside0.mk (blk_below HX9.out hb)
          have hvl := Kd.R_lt HM9.out.ro
          have h6l := HM9.out.lt6
          have h4l := HM9.out.lt4
          have hrb := Kd.R_base hr
          have HDT := Aside0.mk (show Dt w10 (fun k => some k ≠ (Value.slice VA acc.length vc).ownBlock ∧ k ≠ b6 ∧ k ≠ b + 2 ∧ P k) ⟨g.f0, DA, dc, g.d⟩ from ⟨(Kd.R_reads' hr).2.1, Kd.F_mono (Kd.R_F (Kd.R_tight rfl hr)) (fun k hk => ⟨fun e => by have := hvl k e.symm; have := hrb k hk.symm; omega, fun e => by have := hrb k hk.symm; omega, fun e => by have := hrb k hk.symm; omega, HPP.out k (by have := hrb k hk.symm; have := HM9.out.br.below.size; omega)⟩)⟩)
          refine hK.out _ _ ⟨HM10.out.bo.x2, (blk_cell HX10.out 0).trans rfl, (blk_cell HX10.out 1).trans rfl⟩ (fun hHeld => ?_)
          clear hK K hr hb hdg hvl h6l h4l hrb HM9 HX9
          refine pz_ 8 66 HT_ ?_
          refine oz_ 9 67 HT_ (fun K hK => ?_)
          have hb : Below w10.heap.size w10 (w10.alloc (.cells #[.int .i64 g.f0, .slice DA g.d.length dc] 44)) := (Below.refl _ _).alloc (Nat.le_refl _) _
          refine value_ (by rfl) rfl (v := .slice (some ⟨w10.heap.size, 0, none⟩) 1 1) (w1 := w10.alloc (.cells #[.int .i64 g.f0, .slice DA g.d.length dc] 44)) (by first | (go_simp; done) | (go_simp; rfl)) ?_
          have hx := blk_new w10 (.cells #[.int .i64 g.f0, .slice DA g.d.length dc] 44)
          have HM11 := Aside0.mk (HM10.out.next hb)
          have HX11 := Aside0.mk (blk_below HX10.out hb)
          have HDT11 := Aside0.mk (HDT.out.below hb)
          have hvl := Kd.R_lt HM10.out.ro
          obtain ⟨vb, hvb⟩ : ∃ vb, w10.heap.size = vb := ⟨_, rfl⟩
          rw [hvb] at hx hvl
          have HW10 := Aside0.mk (show w.heap.size ≤ vb by rw [← hvb]; exact HM10.out.br.below.size)
          rw [hvb]
          have HVB := Aside0.mk (show (Value.slice VA acc.length vc).ownBlock ≠ some vb from fun e => by have := hvl vb e; omega)
          clear hvb hvl hb HM10 HX10 HDT
          generalize w10.alloc (.cells #[.int .i64 g.f0, .slice DA g.d.length dc] 44) = w11 at *
          have H1R := Aside0.mk (one_row (W := w11) (base := vb) ⟨g.f0, DA, dc, g.d⟩ hx (Nat.le_refl _))
          refine hK.out _ _ ⟨HM11.out.bo.x2, (blk_cell HX11.out 0).trans rfl, (blk_cell HX11.out 1).trans rfl⟩ (fun hHeld => ?_)
          clear hK K hx
          refine oz_ 10 68 HT_ (fun K hK => ?_)
          refine goes_ Try.func36 (by kernel_rfl) rfl #[.slice VA acc.length vc, .int .i64 (posB acc g.f0 : Nat), .slice (some ⟨vb, 0, none⟩) 1 1] (by rfl) rfl rfl ma_ ?_
          refine (insert_any (.slice VA acc.length vc) (posB acc g.f0) vb 1 acc ⟨g.f0, DA, dc, g.d⟩ w.heap.size vb (fun _ => True) (fun _ => True) w w11 HM11.out.ro HM11.out.br.below HM11.out.br.below.size (fun _ _ => trivial) H1R.out HVB.out (posB_le _ _) (by have := HLEN.out; have := HLN.out; omega)).mono ?_
          rintro e w12 ⟨v', rfl, h1, h2, h3, h4⟩
          refine ⟨_, rfl, ?_⟩
          have n6 := Kd.R_ne HM11.out.ro HM11.out.bo.at_ (by decide)
          have hbo := HM11.out.bo.kept h2 h3 (fun e => n6 e.symm)
          have hx8 := (h3.2 b8 (blk_lt HX11.out) (fun e => by have := HV8.out b8 e; omega)).trans HX11.out
          have HM12 := Aside0.mk (HM11.out.ins (g := ⟨g.f0, DA, dc, g.d⟩) h1 h2 h3 h4 HDT11.out)
          obtain ⟨UA, uc, eu⟩ := Kd.R_slice h1
          have hul : (List.take (posB acc g.f0) acc ++ (⟨g.f0, DA, dc, g.d⟩ : GI) :: List.drop (posB acc g.f0) acc).length = acc.length + 1 := insG_length acc ⟨g.f0, DA, dc, g.d⟩
          rw [hul] at eu
          subst eu
          have u2 := hbo.x2
          have uf := blk_frozen hbo.at_ 2
          refine hK.out _ _ ⟨u2, (blk_cell hx8 0).trans rfl, (blk_cell hx8 1).trans rfl⟩ (fun hHeld => ?_)
          clear hK K h1 h2 h3 h4 n6 hbo hx8 HM11 HX11 HDT11 H1R hul
          refine norm_ (a' := ?_) ?_ ?_
          rotate_left
          · show Act.put _ (some 68) _ = _
            simp only [Act.put, List.setIfInBounds_toArray, List.set_cons_zero, List.set_cons_succ]
            rfl
          refine pz_ 11 69 HT_ ?_
          refine last_ (i := 12) (N := none) #[true, true, true, true, true, true, true, true, true, true, true, true, true] rfl rfl (one_of HT_.out (by kernel_rfl)) (by decide) (fun K hK => ?_)
          refine skip_ (w1 := w12.setCell ⟨b6, 2, none⟩ (.slice UA (acc.length + 1) uc)) (by rfl) rfl (by first | (go_simp; done) | (go_simp; rfl)) ?_
          refine hK.out _ _ ?_
          clear hK K u2 uf
          refine done_ (done_of HT_.out (by kernel_rfl)) ?_
          clear HT_ HW_ hHeld
          have HNEW := Aside0.mk (show (insG acc ⟨g.f0, DA, dc, g.d⟩).map GI.x = (ai.take (i + 1)).foldl insS bi by rw [HSTEP.out, ← HMAP.out]; exact ins_map acc ⟨g.f0, DA, dc, g.d⟩ HSRT.out HH.out)
          have HSN := Aside0.mk (ins_srtB acc ⟨g.f0, DA, dc, g.d⟩ HSRT.out HH.out)
          have HLL := Aside0.mk (insG_length acc ⟨g.f0, DA, dc, g.d⟩)
          generalize w12.setCell ⟨b6, 2, none⟩ (.slice UA (acc.length + 1) uc) = w13 at *
          go_wp2
          go_roundg (ai.length - (i + 1))
          case measure => omega
          case rel => exact ⟨i + 1, insG acc ⟨g.f0, DA, dc, g.d⟩, _, by omega, by omega, nx_ i (by have := HLN.out; omega), HM12, HNEW, HSN, ⟨by have := HLEN.out; have := HLL.out; omega⟩⟩
      · obtain rfl : i = ai.length := by omega
        have HMG := Aside0.mk (show acc.map GI.x = mergeI ai bi by rw [HMAP.out, List.take_length]; rfl)
        have hl := (show (mergeI ai bi).length = acc.length by rw [← HMG.out, List.length_map])
        have hsc := sane_c (HM.out.nc HMG.out) 1 bs (by rw [hl]; have := HLEN.out; have := HLN.out; omega) (by rw [List.length_append]; have := HLN.out; omega)
        rw [hl, List.length_append] at hsc
        have HLL := Aside0.mk hl
        obtain ⟨sn, hsn⟩ : ∃ sn, saneN 1 bs (mergeI ai bi) (ao ++ bo) = sn := ⟨_, rfl⟩
        rw [hsn] at hsc
        have HSN := Aside0.mk hsn
        have CS := Aside0.mk hsc
        have q1 : ((ai.length : Int) < (ai.length : Int)) = False := eq_false (by omega)
        have m0 := HM.out.bo.x0
        have m1 := HM.out.bo.x1
        have m2 := HM.out.bo.x2
        have m3 := HM.out.bo.x3
        clear hl hsc hsn hi hgi hlt HMAP HSRT HLEN
        cases sn with
        | false =>
          go_wp2_with (go_at_call 14; refine CS.out.mono ?_; rintro e w9 ⟨rfl, hb⟩; have HM9 := Aside0.mk (HM.out.next hb); clear CS hb HM m0 m1 m2 m3; obtain ⟨z0, f0, z1, f1, z2, f2, z3, f3, k4⟩ := put4c (.int .i64 0) (.int .i64 0) (.slice none 0 0) (.slice none 0 0) HM9.out.br.at_; have K4 := Aside0.mk k4; clear k4)
          clear z0 f0 z1 f1 z2 f2 z3 f3
          have hbn : Below w.heap.size w ((((w9.setCell ⟨b + 2, 0, none⟩ (.int .i64 0)).setCell ⟨b + 2, 1, none⟩ (.int .i64 0)).setCell ⟨b + 2, 2, none⟩ (.slice none 0 0)).setCell ⟨b + 2, 3, none⟩ (.slice none 0 0)) :=
            (((HM9.out.br.below.setCell (p := ⟨b + 2, 0, none⟩) HM9.out.br.ge (.int .i64 0)).setCell (p := ⟨b + 2, 1, none⟩) HM9.out.br.ge (.int .i64 0)).setCell (p := ⟨b + 2, 2, none⟩) HM9.out.br.ge (.slice none 0 0)).setCell (p := ⟨b + 2, 3, none⟩) HM9.out.br.ge (.slice none 0 0)
          generalize (((w9.setCell ⟨b + 2, 0, none⟩ (.int .i64 0)).setCell ⟨b + 2, 1, none⟩ (.int .i64 0)).setCell ⟨b + 2, 2, none⟩ (.slice none 0 0)).setCell ⟨b + 2, 3, none⟩ (.slice none 0 0) = wz at *
          have r0 : wz.cell? ⟨b + 2, 0, none⟩ = some (.int .i64 0) := (blk_cell K4.out 0).trans rfl
          have r1 : wz.cell? ⟨b + 2, 1, none⟩ = some (.int .i64 0) := (blk_cell K4.out 1).trans rfl
          have r2 : wz.cell? ⟨b + 2, 2, none⟩ = some (.slice none 0 0) := (blk_cell K4.out 2).trans rfl
          have r3 : wz.cell? ⟨b + 2, 3, none⟩ = some (.slice none 0 0) := (blk_cell K4.out 3).trans rfl
          refine bodyPost_ret (v := .tuple #[.agg #[.int .i64 0, .int .i64 0, .slice none 0 0, .slice none 0 0], .int .i64 13]) ?_ rfl ?_
          · have hf : Try.f18.results = #[.cell 4 27, .tmp 5] := rfl
            unfold results
            rw [hf]
            go_simp
            try rfl
          · have hres := HRES.out
            rw [HSN.out] at hres
            simp only [Bool.false_eq_true, if_false, Prod.mk.injEq] at hres
            obtain ⟨rfl, rfl, rfl, rfl, rfl⟩ := hres
            exact ⟨none, 0, none, 0, rfl, NCF.nil _ _, hbn⟩
        | true =>
          go_wp2_with (go_at_call 14; refine CS.out.mono ?_; rintro e w9 ⟨rfl, hb⟩; have HM9 := Aside0.mk (HM.out.next hb); clear CS hb HM m0 m1 m2 m3; have m0 := HM9.out.bo.x0; have m1 := HM9.out.bo.x1; have m2 := HM9.out.bo.x2; have m3 := HM9.out.bo.x3; obtain ⟨z0, f0, z1, f1, z2, f2, z3, f3, k4⟩ := put4c (.int .i64 1) (.int .i64 bs) (.slice VA acc.length vc) (.slice YA (ao.length + bo.length) yc) HM9.out.br.at_; have K4 := Aside0.mk k4; clear k4)
          clear z0 f0 z1 f1 z2 f2 z3 f3 m0 m1 m2 m3
          have hbn : Below w.heap.size w ((((w9.setCell ⟨b + 2, 0, none⟩ (.int .i64 1)).setCell ⟨b + 2, 1, none⟩ (.int .i64 bs)).setCell ⟨b + 2, 2, none⟩ (.slice VA acc.length vc)).setCell ⟨b + 2, 3, none⟩ (.slice YA (ao.length + bo.length) yc)) :=
            (((HM9.out.br.below.setCell (p := ⟨b + 2, 0, none⟩) HM9.out.br.ge (.int .i64 1)).setCell (p := ⟨b + 2, 1, none⟩) HM9.out.br.ge (.int .i64 bs)).setCell (p := ⟨b + 2, 2, none⟩) HM9.out.br.ge (.slice VA acc.length vc)).setCell (p := ⟨b + 2, 3, none⟩) HM9.out.br.ge (.slice YA (ao.length + bo.length) yc)
          have hncf := HM9.out.nc4 HMG.out (.int .i64 1) (.int .i64 bs) (.slice VA acc.length vc) (.slice YA (ao.length + bo.length) yc) HPP.out
          generalize (((w9.setCell ⟨b + 2, 0, none⟩ (.int .i64 1)).setCell ⟨b + 2, 1, none⟩ (.int .i64 bs)).setCell ⟨b + 2, 2, none⟩ (.slice VA acc.length vc)).setCell ⟨b + 2, 3, none⟩ (.slice YA (ao.length + bo.length) yc) = wz at *
          have r0 : wz.cell? ⟨b + 2, 0, none⟩ = some (.int .i64 1) := (blk_cell K4.out 0).trans rfl
          have r1 : wz.cell? ⟨b + 2, 1, none⟩ = some (.int .i64 bs) := (blk_cell K4.out 1).trans rfl
          have r2 : wz.cell? ⟨b + 2, 2, none⟩ = some (.slice VA acc.length vc) := (blk_cell K4.out 2).trans rfl
          have r3 : wz.cell? ⟨b + 2, 3, none⟩ = some (.slice YA (ao.length + bo.length) yc) := (blk_cell K4.out 3).trans rfl
          refine bodyPost_ret (v := .tuple #[.agg #[.int .i64 1, .int .i64 bs, .slice VA acc.length vc, .slice YA (ao.length + bo.length) yc], .int .i64 0]) ?_ rfl ?_
          · have hf : Try.f18.results = #[.cell 4 27, .tmp 5] := rfl
            unfold results
            rw [hf]
            go_simp
            try rfl
          · have hres := HRES.out
            rw [HSN.out] at hres
            simp only [if_true, Prod.mk.injEq] at hres
            obtain ⟨h1, h2, h3, h4, h5⟩ := hres
            rw [← h1, ← h2, ← h3, ← h4, ← h5]
            exact ⟨VA, vc, YA, yc, by rw [HLL.out, List.length_append], hncf, hbn⟩
end
section
end
end Go.Proofs.Ythcikbbglpdjhaa.Q
