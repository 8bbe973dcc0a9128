import Derived.Test.YtajghkmjgedikaaS17
namespace Go.Proofs.Ytajghkmjgedikaa.Q
open Go.RowKit Go.Proofs.YtajghkmjgedikaaW Go.Proofs.YtajghkmjgedikaaW.PrintWords Go.Proofs.YtajghkmjgedikaaW.PrintLast Go.Proofs.YtajghkmjgedikaaW.PrintMore
set_option linter.unusedVariables false
set_option linter.unusedSimpArgs false
set_option maxRecDepth 100000 in
set_option maxHeartbeats 3200000 in
theorem do_own3 (w0 : World) (g go : Nat) (m : Mdl) (W : World) (hW : Wd w0 g go m W) (hmx : m.H.length < 999) (b c : Int)  :
    Calls Try.prog 11 #[.pointer (some ⟨g, 0, none⟩), .agg #[.int .i64 3, .int .i64 b, .int .i64 c]] W fun e w' => e = .returned (.bool true) ∧ ∃ m', Wd w0 g go m' w' ∧ m'.H.length ≤ m.H.length + 1 := by
  have hal : Below W.heap.size W (W.alloc (Obj.cells #[.int .i64 3, .int .i64 b, .int .i64 c] 47)) := below_alloc (Below.refl _ _) _
  have HW := Aside0.mk (hW.below hal)
  have HB3 := Aside0.mk (blk_new W (Obj.cells #[.int .i64 3, .int .i64 b, .int .i64 c] 47))
  obtain ⟨cs, tx, v1, v2, hbw, hcl, hrw, hab, hH, hC, hO⟩ := (hW.below hal).ex
  obtain ⟨A1, c1, rfl, hc1, hr1⟩ := Kd.R_reads hH
  have k1 := hbw.c1
  obtain ⟨n, hn⟩ : ∃ n, m.H.length = n := ⟨_, rfl⟩
  rw [hn] at k1 hmx hc1
  have HN := Aside0.mk hn
  have HMX := Aside0.mk hmx
  clear hbw hcl hrw hab hH hC hO hr1 hW hal hn
  go_enter Try.func11, Try.ntmps11
  go_upto_region 1 with (fail)
  generalize hWa : W.alloc (Obj.cells #[.int .i64 3, .int .i64 b, .int .i64 c] 47) = Wa at *
  generalize W.heap.size = b3 at *
  clear hWa
  go_upto_if 17 with (fail)
  go_cut [5] (fun v5 wc => ∃ kk : Int, v5 = .int .i64 kk ∧ Aside0 (Wd w0 g go m wc) ∧ Aside0 (wc.heap[b3]? = some (.cells #[.int .i64 3, .int .i64 b, .int .i64 c] 47 (0, 0))) ∧ Aside0 ((n = 0 ∧ kk = -1) ∨ ∃ i : Nat, i < n ∧ kk = (i : Int)))
  case first =>
    by_cases hn0 : 0 < n
    · have hq0 := and_65535 b
      obtain ⟨q, hq, hql⟩ : ∃ q : Nat, b % 65536 = (q : Int) ∧ q < 65536 := ⟨(b % 65536).toNat, by omega, by omega⟩
      rw [hq] at hq0
      have hrm : ((q : Int)).tmod (n : Int) = ((q % n : Nat) : Int) := by rw [Int.tmod_eq_emod_of_nonneg (by omega)]; omega
      have hri : q % n < n := Nat.mod_lt _ hn0
      obtain ⟨i, hi⟩ : ∃ i, q % n = i := ⟨_, rfl⟩
      rw [hi] at hrm hri
      have k3 : Wa.cell? ⟨b3, 1, none⟩ = some (.int .i64 b) := blk_cell HB3.out 1
      have hnz : (n = 0) = False := eq_false (by omega)
      clear hi hq hql
      go_upto_region 3 with (fail)
      refine start_ (n := 10) (S := fun w' => w'.cell? ⟨b3, 1, none⟩ = some (.int .i64 b) ∧ w'.cell? ⟨g, 48, none⟩ = some (.slice A1 n c1)) (ds := []) #[false, false, false, false, false, false, false, false, false, false] rfl rfl rfl ⟨k3, k1⟩ (fun hHeld => ?_)
      refine with_tabW reg11.tab3 reg11.bits3 (fun HT_ HW_ => ?_)
      refine pz_ 0 18 HT_ ?_
      refine tz_ 1 19 HT_ HW_ hHeld ?_
      refine pz_ 2 20 HT_ ?_
      refine pz_ 3 21 HT_ ?_
      refine pz_ 4 22 HT_ ?_
      refine pz_ 5 23 HT_ ?_
      refine tz_ 6 24 HT_ HW_ hHeld ?_
      refine pz_ 7 25 HT_ ?_
      refine pz_ 8 26 HT_ ?_
      refine pz_ 9 5 HT_ ?_
      refine done_ (done_of HT_.out (by kernel_rfl)) ?_
      clear HT_ HW_ hHeld
      have HWD := Aside0.mk (HW.out.below (below_drew1 (Below.refl _ _)))
      have HBD := Aside0.mk (blk_drew HB3.out)
      clear k1 k3 HW HB3
      generalize Wa.drew = Wb at *
      simp only [Exit.inBlock, Exit.then]
      go_wp2
      go_meet
      exact ⟨(i : Int), rfl, HWD, HBD, ⟨.inr ⟨i, hri, rfl⟩⟩⟩
    · have : n = 0 := by omega
      subst this
      go_wp2
      go_meet
      exact ⟨-1, rfl, HW, HB3, ⟨.inl (by simp)⟩⟩
  case rest =>
    obtain ⟨kk, rfl, HWC, HBC, HKK⟩ := hcut
    clear k1 HW HB3
    have h63 := and_63 c
    obtain ⟨x, hx, hx64⟩ : ∃ x : Nat, c % 64 = (x : Int) ∧ x < 64 := ⟨(c % 64).toNat, by omega, by omega⟩
    rw [hx] at h63
    have kc0 : wc.cell? ⟨b3, 0, none⟩ = some (.int .i64 3) := blk_cell HBC.out 0
    have kc2 : wc.cell? ⟨b3, 2, none⟩ = some (.int .i64 c) := blk_cell HBC.out 2
    clear hx
    rcases HKK.out with ⟨rfl, rfl⟩ | ⟨i, hi, rfl⟩
    · go_wp2
      go_ret
      exact ⟨rfl, m, HWC.out, by omega⟩
    go_upto_region 18 with (fail)
    have hwd := HWC.out
    have II := Aside0.mk hwd.inv
    obtain ⟨s, hs, e0, _, _⟩ := II.out.slot i (by rw [HN.out]; exact hi)
    obtain ⟨ad, ch, y1, y2, y3⟩ := hwd.x.all_at i (by rw [HN.out]; exact hi)
    rw [HN.out] at y1
    rw [e0] at y2
    obtain ⟨cs, tx, v1, v2, hbw, hcl, hrw, hab, hH, hC, hO⟩ := hwd.ex
    have hb1 : Below wc.heap.size wc wc.drew := below_drew1 (Below.refl _ _)
    have hcall := Aside0.mk (fun w' (hrow : Rows3 w' m.ls tx) (hsz : wc.drew.heap.size ≤ w'.heap.size) => own_any II.out (by rw [HN.out]; exact hi) hs e0 hx64 cs tx hcl wc.drew w' hrow hsz)
    have HRD := Aside0.mk (hrw.below hb1)
    have HXD := Aside0.mk (hwd.x.below hb1)
    have HCS := Aside0.mk hcl.size
    have HAB := Aside0.mk hab
    have E0 := Aside0.mk e0
    obtain ⟨p, hp⟩ : ∃ p, (m.h i).f1 = p := ⟨_, rfl⟩
    rw [hp] at y3 hcall
    refine start_ (n := 19) (S := fun w' => w'.rangeAt g 0 cs.toList ∧ w'.cell? ⟨g, 48, none⟩ = some (.slice (some ad) n ch) ∧ w'.cell? (ad.add (i * 2)) = some (.int .i64 (s : Int)) ∧ w'.cell? ⟨(ad.add (i * 2)).block, (ad.add (i * 2)).off + 1, none⟩ = some (.int .i64 p)) (ds := [17]) #[false, false, false, false, false, false, false, false, false, false, false, false, false, false, false, false, false, false, false] rfl rfl rfl ⟨drew_range hbw.range, y1, y2, y3⟩ (fun hHeld => ?_)
    refine with_tabW reg11.tab18 reg11.bits18 (fun HT_ HW_ => ?_)
    have q1 : (0 ≤ (i : Int)) = True := eq_true (by omega)
    have q2 : ((i : Int) < (n : Int)) = True := eq_true (by omega)
    refine pz_ 0 113 HT_ ?_
    refine pz_ 1 114 HT_ ?_
    refine pz_ 2 115 HT_ ?_
    refine tz_ 3 116 HT_ HW_ hHeld ?_ (hy := yieldsIf_load_mid (by rfl) 28 (.tmp 115) rfl g 0 rfl cs.toList _ (fun _ h => h.1) Try.underlying28 rfl (by rw [Array.length_toList, HCS.out]; kernel_rfl))
    refine pz_ 4 117 HT_ ?_
    refine pz_ 5 118 HT_ ?_
    refine pz_ 6 119 HT_ ?_
    refine tz_ 7 120 HT_ HW_ hHeld ?_
    refine pz_ 8 121 HT_ ?_
    refine pz_ 9 122 HT_ ?_
    refine tz_ 10 123 HT_ HW_ hHeld ?_
    refine pz_ 11 124 HT_ ?_
    have HS := Aside0.mk hHeld
    clear hHeld y1 y2 y3 hbw hcl hrw hab hH hC hO hb1 hwd HWC HBC kc0 kc2 hp e0
    generalize wc.drew = WD at *
    refine join_ (σ := Value × Value × Nat) 2 #[true, true, true, true, true, true, true, true, true, true, true, true, true, true, true, true, true, false, false] (fun q => [(125, .tuple #[q.1, q.2.1]), (112, .tuple #[q.1, q.2.1]), (126, q.1), (127, q.2.1), (10, .pointer (some ⟨q.2.2, 0, none⟩))]) (fun q w' => Below WD.heap.size WD w' ∧ WD.heap.size ≤ q.2.2 ∧ w'.heap[q.2.2]? = some (.cells Z48 28 (0, 0)) ∧ OwnR m i s x WD tx (.tuple #[q.1, q.2.1]) w') ?hcont ?hord
    case hord =>
      intro JN
      have JNN := Aside0.mk JN
      clear JN
      refine two_ (i := 12) (j := 16) (Ni := some 125) (Nj := some 10) #[true, true, true, true, true, true, true, true, true, true, true, true, true, false, false, false, false, false, false] #[true, true, true, true, true, true, true, true, true, true, true, true, false, false, false, false, true, false, false] rfl rfl rfl rfl (two_of HT_.out (by kernel_rfl)) (by decide) (by decide) (fun K hK => ?_) (fun K hK => ?_)
      · refine goes_ Try.func14 (by kernel_rfl) rfl #[.agg cs, .agg #[.int .i64 (s : Int), .int .i64 p], .int .i64 (x : Int)] (by rfl) rfl rfl ma_ ?_
        refine (hcall.out _ HRD.out (Nat.le_refl _)).mono ?_
        rintro e w1 ⟨r, rfl, hr, hb⟩
        refine ⟨_, rfl, ?_⟩
        refine hK.out _ _ ⟨hr_ hb HS.out.1, hh_ hb HS.out.2.1, hh_ hb HS.out.2.2.1, hh_ hb HS.out.2.2.2⟩ (fun hHeld => ?_)
        clear hK K
        obtain ⟨ra, rb, rfl⟩ := hr.form
        refine pz_ 13 112 HT_ ?_
        refine pz_ 14 126 HT_ ?_
        refine pz_ 15 127 HT_ ?_
        refine oz_ 16 10 HT_ (fun K hK => ?_)
        refine value_ rfl rfl (v := .pointer (some ⟨w1.heap.size, 0, none⟩)) (w1 := w1.alloc (.cells Z48 28)) (by go_simp; rfl) ?_
        have hal : Below w1.heap.size w1 (w1.alloc (.cells Z48 28)) := below_alloc (Below.refl _ _) _
        refine hK.out _ _ ⟨hr_ hal hHeld.1, hh_ hal hHeld.2.1, hh_ hal hHeld.2.2.1, hh_ hal hHeld.2.2.2⟩ (fun hHeld => ?_)
        exact norm_ pu_ (JNN.out (ra, rb, w1.heap.size) _ ⟨below_then hb hb.size hal, hb.size, blk_new w1 _, hr.below hal⟩)
      · refine value_ rfl rfl (v := .pointer (some ⟨WD.heap.size, 0, none⟩)) (w1 := WD.alloc (.cells Z48 28)) (by go_simp; rfl) ?_
        have hal : Below WD.heap.size WD (WD.alloc (.cells Z48 28)) := below_alloc (Below.refl _ _) _
        refine hK.out _ _ ⟨hr_ hal HS.out.1, hh_ hal HS.out.2.1, hh_ hal HS.out.2.2.1, hh_ hal HS.out.2.2.2⟩ (fun hHeld => ?_)
        clear hK K
        refine oz_ 12 125 HT_ (fun K hK => ?_)
        refine goes_ Try.func14 (by kernel_rfl) rfl #[.agg cs, .agg #[.int .i64 (s : Int), .int .i64 p], .int .i64 (x : Int)] (by rfl) rfl rfl ma_ ?_
        refine (hcall.out _ (HRD.out.below hal) hal.size).mono ?_
        rintro e w1 ⟨r, rfl, hr, hb⟩
        refine ⟨_, rfl, ?_⟩
        refine hK.out _ _ ⟨hr_ hb hHeld.1, hh_ hb hHeld.2.1, hh_ hb hHeld.2.2.1, hh_ hb hHeld.2.2.2⟩ (fun hHeld => ?_)
        clear hK K
        obtain ⟨ra, rb, rfl⟩ := hr.form
        refine pz_ 13 112 HT_ ?_
        refine pz_ 14 126 HT_ ?_
        refine pz_ 15 127 HT_ ?_
        exact norm_ pu_ (JNN.out (ra, rb, WD.heap.size) _ ⟨below_then hal hal.size hb, Nat.le_refl _, blk_below (blk_new WD _) hb, hr⟩)
    case hcont =>
      rintro ⟨ra, rb, b⟩ w1 ⟨f1, f2, f3, f4⟩
      simp only at f2 f3 f4
      refine norm_ (a' := ?_) ?_ ?_
      rotate_left
      · simp only [putAll, Act.put, List.setIfInBounds_toArray, List.set_cons_zero, List.set_cons_succ]; rfl
      obtain ⟨csx, ee, rfl, rfl, hsx, hone⟩ := f4.cells
      refine last_ (i := 17) (N := none) #[true, true, true, true, true, true, true, true, true, true, true, true, true, true, true, true, true, true, false] rfl rfl (one_of HT_.out (by kernel_rfl)) (by decide) (fun K hK => ?_)
      rw [if_pos (by rfl)]
      refine wp_store_mid 28 (.tmp 10) (.tmp 126) rfl b 0 csx rfl rfl (there_of f3 (by rw [hsx]; exact Nat.le_refl 48)) (by rw [hsx]; kernel_rfl) hone ?_
      refine hK.out _ _ ?_
      clear hK K
      refine pz_ 18 11 HT_ ?_
      refine done_ (done_of HT_.out (by kernel_rfl)) ?_
      clear HT_ HW_ HS
      have hp := Put.mk' f3 (cs := csx) (by rw [hsx]; rfl)
      have hst := f4.put f3 (by decide) hp
      generalize w1.setCells b 0 (Array.toList csx) = W5 at hp hst ⊢
      have b5 := hp.below _ _ f2 f1
      have HX5 := Aside0.mk (HXD.out.below b5)
      have HP5 := Aside0.mk hp.at_
      have HGO := Aside0.mk HXD.out.go_lt
      have HST := Aside0.mk hst
      clear hp f3 f1 f2 f4 b5 hst HXD HRD hcall
      obtain ⟨gc, cc, k2, k3⟩ := HX5.out.shut_at i (by rw [II.out.len, HN.out]; exact hi)
      rw [II.out.len, HN.out] at k2
      obtain ⟨k5, k6, k7⟩ := HX5.out.own_at x hx64
      simp only [Exit.inBlock, Exit.then]
      rcases HST.out with ⟨hc, hr⟩ | ⟨hc, ⟨jj, hj⟩, hr⟩ | ⟨hc, ho, hn, cs', tx', hr, r1, r2, r3⟩
      · simp only [Value.tuple.injEq, Array.mk.injEq, List.cons.injEq, and_true, Value.agg.injEq, Value.int.injEq, true_and] at hr
        obtain ⟨rfl, rfl⟩ := hr
        rw [hc] at k3
        clear HST hc
        go_wp2
        go_ret
        exact ⟨rfl, m, HX5.out.wd II.out, Nat.le_succ _⟩
      · simp only [Value.tuple.injEq, Array.mk.injEq, List.cons.injEq, and_true, Value.agg.injEq, Value.int.injEq, true_and] at hr
        obtain ⟨rfl, rfl⟩ := hr
        rw [hc] at k3
        rw [hj] at k6
        have d1 : decide ((jj : Int) < 0) = false := decide_eq_false (by omega)
        clear HST hc hj
        go_wp2
        go_ret
        exact ⟨rfl, m, HX5.out.wd II.out, Nat.le_succ _⟩
      · simp only [Value.tuple.injEq, Array.mk.injEq, List.cons.injEq, and_true, Value.agg.injEq, Value.int.injEq, true_and] at hr
        obtain ⟨rfl, rfl⟩ := hr
        have HCT := Aside0.mk hc
        rw [hc] at k3
        have HNO := Aside0.mk hn
        rw [ho] at k6
        have R1 := Aside0.mk r1
        have R2 := Aside0.mk r2
        have R3 := Aside0.mk (r3.go HGO.out HAB.out)
        clear HST hc ho hn r1 r2 r3 hone hsx
        go_upto_region 23 with (first | (refine ld28 (.tmp 10) b csx HP5.out R1.out.size ?_) | (obtain ⟨_, _, csy, _, _, _, hbw5, _⟩ := HX5.out; refine wpList_store_mid rfl 28 (.tmp 154) (.tmp 152) rfl g 0 csx rfl rfl (by rw [R1.out.size]; exact hbw5.there) (by rw [R1.out.size]; kernel_rfl) (rows_one R1.out R2.out) ?_; have HX6 := Aside0.mk (HX5.out.put R1.out R2.out R3.out rfl)))
        clear k2 k3 k5 k6 k7
        generalize W5.setCells g 0 (Array.toList csx) = W6 at HX6 ⊢
        obtain ⟨k5, k6, k7⟩ := HX6.out.own_at x hx64
        have hli : m.live i = true := by rw [II.out.live i (by rw [HN.out]; exact hi), HCT.out]; rfl
        have HFIN := Aside0.mk ((HX6.out.own_set x (i : Int)).wd (II.out.owned (by rw [HN.out]; exact hi) hs E0.out hli hx64 HNO.out))
        clear HX6 HX5 hli
        go_wp2
        go_ret
        exact ⟨rfl, m.owned i s x, HFIN.out, Nat.le_succ _⟩
end Go.Proofs.Ytajghkmjgedikaa.Q
