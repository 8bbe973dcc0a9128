import Derived.Test.YtajghkmjgedikaaS17
namespace Go.Proofs.Ytajghkmjgedikaa.Q
open Go.RowKit Go.Proofs.YtajghkmjgedikaaW Go.Proofs.YtajghkmjgedikaaW.PrintWords Go.Proofs.YtajghkmjgedikaaW.PrintLast Go.Proofs.YtajghkmjgedikaaW.PrintMore
set_option linter.unusedVariables false
set_option linter.unusedSimpArgs false
set_option maxRecDepth 100000 in
set_option maxHeartbeats 3200000 in
theorem do_lose (w0 : World) (g go : Nat) (m : Mdl) (W : World) (hW : Wd w0 g go m W) (hmx : m.H.length < 999) (b c : Int)  :
    Calls Try.prog 11 #[.pointer (some ⟨g, 0, none⟩), .agg #[.int .i64 5, .int .i64 b, .int .i64 c]] W fun e w' => e = .returned (.bool true) ∧ ∃ m', Wd w0 g go m' w' ∧ m'.H.length ≤ m.H.length + 1 := by
  have hal : Below W.heap.size W (W.alloc (Obj.cells #[.int .i64 5, .int .i64 b, .int .i64 c] 47)) := below_alloc (Below.refl _ _) _
  have HW := Aside0.mk (hW.below hal)
  have HB3 := Aside0.mk (blk_new W (Obj.cells #[.int .i64 5, .int .i64 b, .int .i64 c] 47))
  obtain ⟨cs, tx, v1, v2, hbw, hcl, hrw, hab, hH, hC, hO⟩ := (hW.below hal).ex
  obtain ⟨A1, c1, rfl, hc1, hr1⟩ := Kd.R_reads hH
  have k1 := hbw.c1
  obtain ⟨n, hn⟩ : ∃ n, m.H.length = n := ⟨_, rfl⟩
  rw [hn] at k1 hmx hc1
  have HN := Aside0.mk hn
  have HMX := Aside0.mk hmx
  clear hbw hcl hrw hab hH hC hO hr1 hW hal hn
  go_enter Try.func11, Try.ntmps11
  go_upto_region 1 with (fail)
  generalize hWa : W.alloc (Obj.cells #[.int .i64 5, .int .i64 b, .int .i64 c] 47) = Wa at *
  generalize W.heap.size = b3 at *
  clear hWa
  go_upto_if 17 with (fail)
  go_cut [5] (fun v5 wc => ∃ kk : Int, v5 = .int .i64 kk ∧ Aside0 (Wd w0 g go m wc) ∧ Aside0 (wc.heap[b3]? = some (.cells #[.int .i64 5, .int .i64 b, .int .i64 c] 47 (0, 0))) ∧ Aside0 ((n = 0 ∧ kk = -1) ∨ ∃ i : Nat, i < n ∧ kk = (i : Int)))
  case first =>
    by_cases hn0 : 0 < n
    · have hq0 := and_65535 b
      obtain ⟨q, hq, hql⟩ : ∃ q : Nat, b % 65536 = (q : Int) ∧ q < 65536 := ⟨(b % 65536).toNat, by omega, by omega⟩
      rw [hq] at hq0
      have hrm : ((q : Int)).tmod (n : Int) = ((q % n : Nat) : Int) := by rw [Int.tmod_eq_emod_of_nonneg (by omega)]; omega
      have hri : q % n < n := Nat.mod_lt _ hn0
      obtain ⟨i, hi⟩ : ∃ i, q % n = i := ⟨_, rfl⟩
      rw [hi] at hrm hri
      have k3 : Wa.cell? ⟨b3, 1, none⟩ = some (.int .i64 b) := blk_cell HB3.out 1
      have hnz : (n = 0) = False := eq_false (by omega)
      clear hi hq hql
      go_upto_region 3 with (fail)
      refine start_ (n := 10) (S := fun w' => w'.cell? ⟨b3, 1, none⟩ = some (.int .i64 b) ∧ w'.cell? ⟨g, 48, none⟩ = some (.slice A1 n c1)) (ds := []) #[false, false, false, false, false, false, false, false, false, false] rfl rfl rfl ⟨k3, k1⟩ (fun hHeld => ?_)
      refine with_tabW reg11.tab3 reg11.bits3 (fun HT_ HW_ => ?_)
      refine pz_ 0 18 HT_ ?_
      refine tz_ 1 19 HT_ HW_ hHeld ?_
      refine pz_ 2 20 HT_ ?_
      refine pz_ 3 21 HT_ ?_
      refine pz_ 4 22 HT_ ?_
      refine pz_ 5 23 HT_ ?_
      refine tz_ 6 24 HT_ HW_ hHeld ?_
      refine pz_ 7 25 HT_ ?_
      refine pz_ 8 26 HT_ ?_
      refine pz_ 9 5 HT_ ?_
      refine done_ (done_of HT_.out (by kernel_rfl)) ?_
      clear HT_ HW_ hHeld
      have HWD := Aside0.mk (HW.out.below (below_drew1 (Below.refl _ _)))
      have HBD := Aside0.mk (blk_drew HB3.out)
      clear k1 k3 HW HB3
      generalize Wa.drew = Wb at *
      simp only [Exit.inBlock, Exit.then]
      go_wp2
      go_meet
      exact ⟨(i : Int), rfl, HWD, HBD, ⟨.inr ⟨i, hri, rfl⟩⟩⟩
    · have : n = 0 := by omega
      subst this
      go_wp2
      go_meet
      exact ⟨-1, rfl, HW, HB3, ⟨.inl (by simp)⟩⟩
  case rest =>
    obtain ⟨kk, rfl, HWC, HBC, HKK⟩ := hcut
    clear k1 HW HB3
    have h63 := and_63 c
    obtain ⟨x, hx, hx64⟩ : ∃ x : Nat, c % 64 = (x : Int) ∧ x < 64 := ⟨(c % 64).toNat, by omega, by omega⟩
    rw [hx] at h63
    have kc0 : wc.cell? ⟨b3, 0, none⟩ = some (.int .i64 5) := blk_cell HBC.out 0
    have kc2 : wc.cell? ⟨b3, 2, none⟩ = some (.int .i64 c) := blk_cell HBC.out 2
    clear hx
    obtain ⟨cs, tx, v1, v2, hbw, hcl, hrw, hab, hH, hC, hO⟩ := HWC.out.ex
    have hx0 : (0 : Int) ≤ (x : Int) ∧ (x : Int) < 64 := by omega
    have HRG := Aside0.mk hbw.range
    have HCS := Aside0.mk hcl.size
    have HTW := Aside0.mk (two_al wc (x : Int))
    have HLS := Aside0.mk (fun w (hr : Rows3 w m.ls tx) A c hc hts => lose_new cs m.st m.op m.ls tx hcl HWC.out.inv.sane w hr [(x : Int)] A c hc hts)
    have HRW := Aside0.mk hrw
    have HAB := Aside0.mk hab
    have HGL := Aside0.mk HWC.out.x.go_lt
    clear hbw hcl hrw hab hH hC hO
    have hmain : True := trivial
    rcases HKK.out with ⟨rfl, rfl⟩ | ⟨i, hi, rfl⟩
    all_goals
      go_upto_region 13 with (first | (refine wpList_load_mid rfl 28 (.tmp 80) rfl g 0 rfl cs.toList _ HRG.out Try.underlying28 rfl (by rw [Array.length_toList, HCS.out]; kernel_rfl) ?_) | (go_at_call 15; refine (HLS.out _ (HRW.out.below HTW.out.2) (some ⟨wc.heap.size, 0, none⟩) 1 (Nat.le_refl _) HTW.out.1).mono ?_; clear HLS; rintro e w4 ⟨cs3, tx3, rfl, hc3, hr3, hs3, hn3, hb3⟩; have HC3 := Aside0.mk hc3; have HX4 := Aside0.mk (HWC.out.x.below (below_then HTW.out.2 HTW.out.2.size hb3)); have HR3 := Aside0.mk hr3; have HT3 := Aside0.mk (hn3.go (Nat.lt_of_lt_of_le HGL.out HTW.out.2.size) HAB.out); clear hc3 hr3 hs3 hb3 hn3) | (obtain ⟨_, _, csy, _, _, _, hbw4, _⟩ := HX4.out; refine wpList_store_mid rfl 28 (.tmp 86) (.tmp 84) rfl g 0 cs3 rfl rfl (by rw [HC3.out.size]; exact hbw4.there) (by rw [HC3.out.size]; kernel_rfl) (rows_one HC3.out HR3.out) ?_; have HX5 := Aside0.mk (HX4.out.put HC3.out HR3.out HT3.out rfl)))
      generalize w4.setCells g 0 cs3.toList = W5 at HX5 ⊢
      obtain ⟨y1, y2, y3⟩ := HX5.out.own_at x hx64
      have HFIN := Aside0.mk ((HX5.out.own_set x (-1)).wd (HWC.out.inv.lost hx64))
      clear HX4 HR3 HC3 HT3 HRG HTW HRW HAB HGL kc0 kc2 HBC HWC
      go_wp2
      go_ret
      exact ⟨rfl, m.lost x, HFIN.out, Nat.le_succ _⟩
end Go.Proofs.Ytajghkmjgedikaa.Q
