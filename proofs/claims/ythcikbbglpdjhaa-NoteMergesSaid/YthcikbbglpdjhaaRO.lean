/- The note's reader: op. No condition. -/
import Derived.Test.YthcikbbglpdjhaaRM
namespace Go.Proofs.Ythcikbbglpdjhaa.Q
open Go.RowKit Go.Proofs.YthcikbbglpdjhaaW Go.Proofs.YthcikbbglpdjhaaW.PrintWords Go.Proofs.YthcikbbglpdjhaaW.PrintLast Go.Proofs.YthcikbbglpdjhaaW.PrintMore
set_option linter.unusedVariables false
set_option linter.unusedSimpArgs false
def eO (x : S46) : Value := .agg #[.int .i64 x.f0, .int .i64 x.f1]
def pOp (l : List Int) : Except Int (S46 × List Int) := match pNum 1 l with
  | .ok (c, r) => if r.length < 8 then .error 2 else .ok (⟨c, wrap64 (leN (r.take 8))⟩, r.drop 8)
  | .error e => .error e
theorem grown_far {W w7 : World} {g b k : Nat} (h : W.grownBy w7 (some g)) (hb : W.heap.size ≤ b) (u : Value) : W.grownBy (w7.setCell ⟨b, k, none⟩ u) (some g) :=
  ⟨h.os, h.tape, h.output, by simpa using h.size, fun i hi hne => (Below.heap_setCell w7 ⟨b, k, none⟩ u i (fun e => by have e : i = b := e; omega)).trans (h.block i hi hne)⟩
theorem Rdy.far {w0 w7 : World} {g b k : Nat} {l : List Int} (h : Rdy w0 w7 g l) (hb : g < b) (u : Value) : Rdy w0 (w7.setCell ⟨b, k, none⟩ u) g l :=
  ⟨h.rd.later (Below.heap_setCell w7 ⟨b, k, none⟩ u g (fun e => by have e : g = b := e; omega)), h.below.setCell (by have := h.ge; show w0.heap.size ≤ b; omega) u, h.bytes⟩
set_option maxRecDepth 100000 in
set_option maxHeartbeats 1600000 in
theorem rop (w0 W : World) (g : Nat) (l : List Int) (h : Rdy w0 W g l) :
    Calls Try.prog 47 #[.agg #[.pointer (some ⟨g, 0, none⟩)]] W fun e w' => Reads w0 W g eO (pOp l) e w' := by
  obtain ⟨W2, hW2⟩ : ∃ W2, (W.alloc (.cells #[.pointer (some ⟨g, 0, none⟩)] 61)).alloc (.cells #[.int .i64 0, .int .i64 0] 46) = W2 := ⟨_, rfl⟩
  have hb2 : Below W.heap.size W W2 := by rw [← hW2]; exact ((Below.refl _ _).alloc (Nat.le_refl _) _).alloc (by simp) _
  have hx1 : W2.heap[W.heap.size]? = some (.cells #[.pointer (some ⟨g, 0, none⟩)] 61 (0, 0)) := by rw [← hW2]; simpa using blk_alloc (blk_new W (.cells #[.pointer (some ⟨g, 0, none⟩)] 61)) (.cells #[.int .i64 0, .int .i64 0] 46)
  have hx2 : W2.heap[W.heap.size + 1]? = some (.cells #[.int .i64 0, .int .i64 0] 46 (0, 0)) := by rw [← hW2]; simpa using blk_new (W.alloc (.cells #[.pointer (some ⟨g, 0, none⟩)] 61)) (.cells #[.int .i64 0, .int .i64 0] 46)
  have hR2 := h.later hb2
  have hcall := rnum w0 W2 g l 1 hR2 (by omega) (by omega)
  have hglt := h.lt
  have HSZ := Aside0.mk (Nat.le_refl W.heap.size)
  have HG := Aside0.mk (grown_b hb2 (some g))
  have hu := Try.underlying61
  have hu2 := Try.underlying46
  have c1 : W2.cell? ⟨W.heap.size, 0, none⟩ = some (.pointer (some ⟨g, 0, none⟩)) := (blk_cell hx1 0).trans rfl
  obtain ⟨b1, hb1⟩ : ∃ b1, W.heap.size = b1 := ⟨_, rfl⟩
  rw [hb1] at hx1 hx2 c1 hglt
  have HBS := Aside0.mk hb1
  unfold pOp
  cases hp : pNum 1 l with
  | error q =>
    rw [hp] at hcall
    have HCALL := Aside0.mk hcall
    clear hcall h hp hR2 hx1 hx2 hb2
    go_enter Try.func47, Try.ntmps47
    go_upto_region 1 with (fail)
    clear hW2 hb1
    go_wp2_with (go_at_call 44; refine HCALL.out.mono ?_; rintro e w4 ⟨rfl, hg4⟩; have HG4 := Aside0.mk (HG.out.trans hg4); clear HCALL hg4)
    all_goals exact ⟨rfl, rfl, HG4.out⟩
  | ok a =>
    obtain ⟨m, r⟩ := a
    rw [hp] at hcall
    have HCALL := Aside0.mk (show Calls Try.prog 44 #[.agg #[.pointer (some ⟨g, 0, none⟩)], .int .i64 1] W2 fun e w' => e = .returned (.int .i64 m) ∧ Rdy w0 w' g r ∧ W2.grownBy w' (some g) from hcall)
    by_cases hk : r.length < 8
    · simp only [if_pos hk]
      have HK := Aside0.mk hk
      clear hk
      have HX1 := Aside0.mk hx1
      have HX2 := Aside0.mk hx2
      clear hcall h hp hR2 hx1 hx2 hb2
      go_enter Try.func47, Try.ntmps47
      go_upto_region 1 with (fail)
      clear hW2 hb1
      go_upto_region 2 with (go_at_call 44; refine HCALL.out.mono ?_; rintro e w4 ⟨rfl, hr4, hg4⟩; have HR4 := Aside0.mk hr4; have HG4 := Aside0.mk (HG.out.trans hg4); have X1 := Aside0.mk (blk_grown HX1.out hg4 (fun e => by injection e with e; omega)); have X2 := Aside0.mk (blk_grown HX2.out hg4 (fun e => by injection e with e; omega)); clear HCALL hr4 hg4 HX1 HX2 c1)
      have hb5 : Below w4.heap.size w4 (w4.alloc (.cells #[.int .i64 m, .int .i64 0] 46)) := (Below.refl _ _).alloc (Nat.le_refl _) _
      have HG5 := Aside0.mk (HG4.out.trans (grown_b hb5 (some g)))
      have x3 : (w4.alloc (.cells #[.int .i64 m, .int .i64 0] 46)).heap[w4.heap.size]? = some (.cells #[.int .i64 m, .int .i64 0] 46 (0, 0)) := by simpa using blk_new w4 (.cells #[.int .i64 m, .int .i64 0] 46)
      have x1 := blk_below X1.out hb5
      have x2 := blk_below X2.out hb5
      have hr5 := HR4.out.later hb5
      have hne3 : w4.heap.size ≠ g := fun e => by have := HR4.out.lt; omega
      have hg3 : g < w4.heap.size := HR4.out.lt
      have hg32 : b1 + 1 < w4.heap.size := blk_lt X2.out
      have hne32 : w4.heap.size ≠ b1 + 1 := fun e => by have := blk_lt X2.out; omega
      obtain ⟨b3, hb3⟩ : ∃ b3, w4.heap.size = b3 := ⟨_, rfl⟩
      obtain ⟨W5, hW5⟩ : ∃ W5, w4.alloc (.cells #[.int .i64 m, .int .i64 0] 46) = W5 := ⟨_, rfl⟩
      rw [hW5, hb3]
      rw [hW5] at x1 x2 x3 hr5 HG5
      rw [hb3] at x3 hne3 hne32 hg3 hg32
      clear hb5 X1 X2 HR4 HG4 hW5 hb3
      have c1 : W5.cell? ⟨b1, 0, none⟩ = some (.pointer (some ⟨g, 0, none⟩)) := (blk_cell x1 0).trans rfl
      have X2 := Aside0.mk x2
      have X3 := Aside0.mk x3
      have HS := Aside0.mk (signed_short w0 W5 g r hr5 HK.out)
      have hneed := Aside0.mk (fun W' => need_bad 2 (by decide) W')
      clear hr5 x1 x2 x3
      go_wp2_with (first | (go_at_call 57; refine HS.out.mono ?_; rintro e w6 ⟨rfl, rfl⟩; clear HS) | (go_at_call 48; refine (hneed.out _).mono ?_; rintro e w7 ⟨rfl, rfl⟩; clear hneed))
      all_goals exact ⟨rfl, rfl, HG5.out⟩
    · simp only [if_neg hk]
      have HK := Aside0.mk hk
      obtain ⟨q, hq⟩ : ∃ q, wrap64 (leN (r.take 8)) = q := ⟨_, rfl⟩
      rw [hq]
      have HQ := Aside0.mk hq
      clear hk hq
      have HX1 := Aside0.mk hx1
      have HX2 := Aside0.mk hx2
      clear hcall h hp hR2 hx1 hx2 hb2
      go_enter Try.func47, Try.ntmps47
      go_upto_region 1 with (fail)
      clear hW2 hb1
      go_upto_region 2 with (go_at_call 44; refine HCALL.out.mono ?_; rintro e w4 ⟨rfl, hr4, hg4⟩; have HR4 := Aside0.mk hr4; have HG4 := Aside0.mk (HG.out.trans hg4); have X1 := Aside0.mk (blk_grown HX1.out hg4 (fun e => by injection e with e; omega)); have X2 := Aside0.mk (blk_grown HX2.out hg4 (fun e => by injection e with e; omega)); clear HCALL hr4 hg4 HX1 HX2 c1)
      have hb5 : Below w4.heap.size w4 (w4.alloc (.cells #[.int .i64 m, .int .i64 0] 46)) := (Below.refl _ _).alloc (Nat.le_refl _) _
      have HG5 := Aside0.mk (HG4.out.trans (grown_b hb5 (some g)))
      have x3 : (w4.alloc (.cells #[.int .i64 m, .int .i64 0] 46)).heap[w4.heap.size]? = some (.cells #[.int .i64 m, .int .i64 0] 46 (0, 0)) := by simpa using blk_new w4 (.cells #[.int .i64 m, .int .i64 0] 46)
      have x1 := blk_below X1.out hb5
      have x2 := blk_below X2.out hb5
      have hr5 := HR4.out.later hb5
      have hne3 : w4.heap.size ≠ g := fun e => by have := HR4.out.lt; omega
      have hg3 : g < w4.heap.size := HR4.out.lt
      have hg32 : b1 + 1 < w4.heap.size := blk_lt X2.out
      have hne32 : w4.heap.size ≠ b1 + 1 := fun e => by have := blk_lt X2.out; omega
      obtain ⟨b3, hb3⟩ : ∃ b3, w4.heap.size = b3 := ⟨_, rfl⟩
      obtain ⟨W5, hW5⟩ : ∃ W5, w4.alloc (.cells #[.int .i64 m, .int .i64 0] 46) = W5 := ⟨_, rfl⟩
      rw [hW5, hb3]
      rw [hW5] at x1 x2 x3 hr5 HG5
      rw [hb3] at x3 hne3 hne32 hg3 hg32
      clear hb5 X1 X2 HR4 HG4 hW5 hb3
      have c1 : W5.cell? ⟨b1, 0, none⟩ = some (.pointer (some ⟨g, 0, none⟩)) := (blk_cell x1 0).trans rfl
      have X2 := Aside0.mk x2
      have X3 := Aside0.mk x3
      have HS := Aside0.mk (signed_ok w0 W5 g r hr5 (by have := HK.out; omega))
      have hneed := Aside0.mk (fun W' => need_ok W')
      rw [HQ.out] at HS
      clear hr5 x1 x2 x3
      go_upto_region 4 with (first | (go_at_call 57; refine HS.out.mono ?_; rintro e w6 ⟨rfl, hr6, hg6⟩; have HR6 := Aside0.mk hr6; have HG6 := Aside0.mk (HG5.out.trans hg6); have Y2 := Aside0.mk (blk_grown X2.out hg6 (fun e => by injection e with e; omega)); have Y3 := Aside0.mk (blk_grown X3.out hg6 (fun e => by injection e with e; omega)); clear HS hr6 hg6 X2 X3) | (go_at_call 48; refine (hneed.out _).mono ?_; rintro e w7 ⟨rfl, rfl⟩; clear hneed))
      have y1 := (blk_cell Y3.out 1).trans rfl
      have f1 := blk_frozen Y3.out 1
      go_upto_region 5 with (fail)
      have z3 := blk_set Y3.out 1 (.int .i64 q)
      have z2 : (w7.setCell ⟨b3, 1, none⟩ (.int .i64 q)).heap[b1 + 1]? = some (.cells #[.int .i64 0, .int .i64 0] 46 (0, 0)) := (Below.heap_setCell w7 ⟨b3, 1, none⟩ _ (b1 + 1) (fun e => hne32 e.symm)).trans Y2.out
      have z3' : (w7.setCell ⟨b3, 1, none⟩ (.int .i64 q)).heap[b3]? = some (.cells #[.int .i64 m, .int .i64 q] 46 (0, 0)) := by simpa using z3
      have HR8 := Aside0.mk (HR6.out.far (k := 1) hg3 (.int .i64 q))
      have HG8 := Aside0.mk (grown_far (k := 1) HG6.out (show W.heap.size ≤ b3 by have := HBS.out; omega) (.int .i64 q))
      generalize w7.setCell ⟨b3, 1, none⟩ (.int .i64 q) = w8 at *
      clear z3 Y2 Y3 HR6 HG6 y1 f1 c1
      have m0 : w8.cell? ⟨b3, 0, none⟩ = some (.int .i64 m) := (blk_cell z3' 0).trans rfl
      have m1 : w8.cell? ⟨b3, 1, none⟩ = some (.int .i64 q) := (blk_cell z3' 1).trans rfl
      have d0 : w8.cell? ⟨b1 + 1, 0, none⟩ = some (.int .i64 0) := (blk_cell z2 0).trans rfl
      have d1 : w8.cell? ⟨b1 + 1, 1, none⟩ = some (.int .i64 0) := (blk_cell z2 1).trans rfl
      have e0 := blk_frozen z2 0
      have e1 := blk_frozen z2 1
      have y2 := blk_set z2 0 (.int .i64 m)
      have y2' : (w8.setCell ⟨b1 + 1, 0, none⟩ (.int .i64 m)).heap[b1 + 1]? = some (.cells #[.int .i64 m, .int .i64 0] 46 (0, 0)) := by simpa using y2
      have d1' : (w8.setCell ⟨b1 + 1, 0, none⟩ (.int .i64 m)).cell? ⟨b1 + 1, 1, none⟩ = some (.int .i64 0) := (blk_cell y2' 1).trans rfl
      have e1' := blk_frozen y2' 1
      have y3 := blk_set y2' 1 (.int .i64 q)
      have HY3 := Aside0.mk (show ((w8.setCell ⟨b1 + 1, 0, none⟩ (.int .i64 m)).setCell ⟨b1 + 1, 1, none⟩ (.int .i64 q)).heap[b1 + 1]? = some (.cells #[.int .i64 m, .int .i64 q] 46 (0, 0)) by simpa using y3)
      have HR9 := Aside0.mk ((HR8.out.far (k := 0) (show g < b1 + 1 by omega) (.int .i64 m)).far (k := 1) (show g < b1 + 1 by omega) (.int .i64 q))
      have HG9 := Aside0.mk (grown_far (k := 1) (grown_far (k := 0) HG8.out (show W.heap.size ≤ b1 + 1 by have := HBS.out; omega) (.int .i64 m)) (show W.heap.size ≤ b1 + 1 by have := HBS.out; omega) (.int .i64 q))
      clear y2 y3 z2 z3' y2'
      go_wp2
      clear m0 m1 d0 d1 e0 e1 d1' e1'
      generalize (w8.setCell ⟨b1 + 1, 0, none⟩ (.int .i64 m)).setCell ⟨b1 + 1, 1, none⟩ (.int .i64 q) = w9 at *
      have r0 : w9.cell? ⟨b1 + 1, 0, none⟩ = some (.int .i64 m) := (blk_cell HY3.out 0).trans rfl
      have r1 : w9.cell? ⟨b1 + 1, 1, none⟩ = some (.int .i64 q) := (blk_cell HY3.out 1).trans rfl
      refine bodyPost_ret (v := .agg #[.int .i64 m, .int .i64 q]) ?_ rfl ⟨rfl, HR9.out, HG9.out⟩
      have hf : Try.f47.results = #[.cell 2 46] := rfl
      unfold results
      rw [hf]
      go_simp
      try rfl
end Go.Proofs.Ythcikbbglpdjhaa.Q
