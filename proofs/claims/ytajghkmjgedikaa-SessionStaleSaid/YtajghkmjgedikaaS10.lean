import Derived.Test.YtajghkmjgedikaaS8
import Derived.Test.YtajghkmjgedikaaS9
import Derived.Test.YtajghkmjgedikaaINI
namespace Go.Proofs.Ytajghkmjgedikaa.Q
open Go.RowKit Go.Proofs.YtajghkmjgedikaaW Go.Proofs.YtajghkmjgedikaaW.PrintWords Go.Proofs.YtajghkmjgedikaaW.PrintLast Go.Proofs.YtajghkmjgedikaaW.PrintMore
set_option linter.unusedVariables false
set_option linter.unusedSimpArgs false
def reg14.T9 : Bool × List (List Nat × List Nat) := (true, [([], []), ([0], [0]), ([], []), ([], []), ([], []), ([4], [4]), ([2, 3, 5], [2, 3, 5]), ([], []), ([7, 1, 0, 1, 2, 3, 4, 5, 6], [1, 7]), ([8, 0, 1, 2, 3, 4, 5, 6], [8]), ([9, 6, 6, 0, 1, 2, 3, 4, 5, 6], [6, 9])])
def reg14.B9 : List Nat := [0, 1, 0, 0, 0, 16, 60, 0, 255, 511, 1023]
theorem reg14.tab9 : rtab .any (opsOf Try.f14 9) = reg14.T9 := by kernel_rfl
theorem reg14.bits9 : waitsOk reg14.T9.2 reg14.B9 = true := by kernel_rfl
set_option maxRecDepth 100000 in
set_option maxHeartbeats 3200000 in
theorem own_dead (cs : Array Value) (st : Nat → Int) (op : Nat → Bool) (ls : Nat → List Int) (tx : Nat → Value) (h : Cells cs st op tx) (hsn : SaneT st op ls) (w : World) (hrow : Rows3 w ls tx) (a b x : Int) (h0 : 0 ≤ x ∧ x < 64) (hd : liveS st op a b = false) :
    Calls Try.prog 14 #[.agg cs, .agg #[.int .i64 a, .int .i64 b], .int .i64 x] w fun e w' => e = .returned (.tuple #[.agg Z48, .int .i64 6]) ∧ Below w.heap.size w w' := by
  have hlive := fun w => live_any cs st op tx h a b w
  rw [hd] at hlive
  have HRW := Aside0.mk hrow
  have HN := Aside0.mk (fun w (hr : Rows3 w ls tx) => sane_ok cs st op ls tx h hsn w hr)
  have HL := Aside0.mk hlive
  have HZ := Aside0.mk h.size
  have HX := Aside0.mk (By.start w cs Z48 a b)
  clear hrow hsn h hlive hd
  go_enter Try.func14, Try.ntmps14
  go_wp2_with (first | (refine ld28 (.tmp 3) w.heap.size cs HX.out.b0 HZ.out ?_) | (refine ld31 (.tmp 4) (w.heap.size + 1) a b HX.out.b1 ?_) | (go_at_call 10; refine (HN.out _ (HRW.out.below HX.out.be)).mono ?_; clear HN; rintro e w1 ⟨rfl, hb1⟩; have HX1 := Aside0.mk (HX.out.step hb1); clear hb1 HX; have HX := HX1; clear HX1) | (go_at_call 9; refine (HL.out _).mono ?_; clear HL; rintro e w2 ⟨rfl, hb1⟩; have HX1 := Aside0.mk (HX.out.step hb1); clear hb1 HX; have HX := HX1; clear HX1) | (refine st28 (.tmp 6) (.tmp 29) (w.heap.size + 1 + 1) Z48 Z48 HX.out.b2 rfl rfl z48_one ?_; intro W5 hp; have HP := Aside0.mk hp; clear hp))
  have d3 := HP.out.below w.heap.size w (by omega) HX.out.be
  refine bodyPost_ret (results_list (rs := [.cell 6 28, .tmp 7]) rfl (by simp) (.cell _ 28 Z48 (0, 0) _ rfl HP.out.at_ Try.underlying28 rfl (by kernel_rfl) (.tmp .nil))) rfl ?_
  exact ⟨rfl, d3⟩
set_option maxRecDepth 100000 in
set_option maxHeartbeats 3200000 in
theorem own_had (cs : Array Value) (st : Nat → Int) (op : Nat → Bool) (ls : Nat → List Int) (tx : Nat → Value) (h : Cells cs st op tx) (hsn : SaneT st op ls) (w : World) (hrow : Rows3 w ls tx) (a b x : Int) (h0 : 0 ≤ x ∧ x < 64) (hd : liveS st op a b = true) (j : Nat) (hw : whoseT ls x = (j : Int)) :
    Calls Try.prog 14 #[.agg cs, .agg #[.int .i64 a, .int .i64 b], .int .i64 x] w fun e w' => e = .returned (.tuple #[.agg Z48, .int .i64 7]) ∧ Below w.heap.size w w' := by
  have hlive := fun w => live_any cs st op tx h a b w
  rw [hd] at hlive
  have HRW := Aside0.mk hrow
  have HWH := Aside0.mk (fun w (hr : Rows3 w ls tx) => whose_at x cs st op ls tx h w hr _ hw)
  have HN := Aside0.mk (fun w (hr : Rows3 w ls tx) => sane_ok cs st op ls tx h hsn w hr)
  have HL := Aside0.mk hlive
  have HZ := Aside0.mk h.size
  have HX := Aside0.mk (By.start w cs Z48 a b)
  clear hrow hsn h hlive hd hw
  go_enter Try.func14, Try.ntmps14
  go_wp2_with (first | (refine ld28 (.tmp 3) w.heap.size cs HX.out.b0 HZ.out ?_) | (refine ld31 (.tmp 4) (w.heap.size + 1) a b HX.out.b1 ?_) | (go_at_call 10; refine (HN.out _ (HRW.out.below HX.out.be)).mono ?_; clear HN; rintro e w1 ⟨rfl, hb1⟩; have HX1 := Aside0.mk (HX.out.step hb1); clear hb1 HX; have HX := HX1; clear HX1) | (go_at_call 9; refine (HL.out _).mono ?_; clear HL; rintro e w2 ⟨rfl, hb1⟩; have HX1 := Aside0.mk (HX.out.step hb1); clear hb1 HX; have HX := HX1; clear HX1) | (go_at_call 13; refine (HWH.out _ (HRW.out.below HX.out.be)).mono ?_; clear HWH; rintro e w3 ⟨rfl, hb1⟩; have HX1 := Aside0.mk (HX.out.step hb1); clear hb1 HX; have HX := HX1; clear HX1) | (refine st28 (.tmp 6) (.tmp 35) (w.heap.size + 1 + 1) Z48 Z48 HX.out.b2 rfl rfl z48_one ?_; intro W5 hp; have HP := Aside0.mk hp; clear hp))
  have d3 := HP.out.below w.heap.size w (by omega) HX.out.be
  refine bodyPost_ret (results_list (rs := [.cell 6 28, .tmp 7]) rfl (by simp) (.cell _ 28 Z48 (0, 0) _ rfl HP.out.at_ Try.underlying28 rfl (by kernel_rfl) (.tmp .nil))) rfl ?_
  exact ⟨rfl, d3⟩
end Go.Proofs.Ytajghkmjgedikaa.Q
