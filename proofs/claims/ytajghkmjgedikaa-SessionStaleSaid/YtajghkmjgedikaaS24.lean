import Derived.Test.YtajghkmjgedikaaS23
namespace Go.Proofs.Ytajghkmjgedikaa.Q
open Go.RowKit Go.Proofs.YtajghkmjgedikaaW Go.Proofs.YtajghkmjgedikaaW.PrintWords Go.Proofs.YtajghkmjgedikaaW.PrintLast Go.Proofs.YtajghkmjgedikaaW.PrintMore
set_option linter.unusedVariables false
set_option linter.unusedSimpArgs false
set_option maxRecDepth 100000 in
set_option maxHeartbeats 3200000 in
theorem do_open0 (w0 : World) (g go : Nat) (m : Mdl) (W : World) (hW : Wd w0 g go m W) (hmx : m.H.length < 999) (b c : Int)  :
    Calls Try.prog 11 #[.pointer (some ⟨g, 0, none⟩), .agg #[.int .i64 0, .int .i64 b, .int .i64 c]] W fun e w' => e = .returned (.bool true) ∧ ∃ m', Wd w0 g go m' w' ∧ m'.H.length ≤ m.H.length + 1 := by
  have hal : Below W.heap.size W (W.alloc (Obj.cells #[.int .i64 0, .int .i64 b, .int .i64 c] 47)) := below_alloc (Below.refl _ _) _
  have HW := Aside0.mk (hW.below hal)
  have HB3 := Aside0.mk (blk_new W (Obj.cells #[.int .i64 0, .int .i64 b, .int .i64 c] 47))
  obtain ⟨cs, tx, v1, v2, hbw, hcl, hrw, hab, hH, hC, hO⟩ := (hW.below hal).ex
  obtain ⟨A1, c1, rfl, hc1, hr1⟩ := Kd.R_reads hH
  have k1 := hbw.c1
  obtain ⟨n, hn⟩ : ∃ n, m.H.length = n := ⟨_, rfl⟩
  rw [hn] at k1 hmx hc1
  have HN := Aside0.mk hn
  have HMX := Aside0.mk hmx
  clear hbw hcl hrw hab hH hC hO hr1 hW hal hn
  go_enter Try.func11, Try.ntmps11
  go_upto_region 1 with (fail)
  generalize hWa : W.alloc (Obj.cells #[.int .i64 0, .int .i64 b, .int .i64 c] 47) = Wa at *
  generalize W.heap.size = b3 at *
  clear hWa
  go_upto_if 17 with (fail)
  go_cut [5] (fun v5 wc => ∃ kk : Int, v5 = .int .i64 kk ∧ Aside0 (Wd w0 g go m wc) ∧ Aside0 (wc.heap[b3]? = some (.cells #[.int .i64 0, .int .i64 b, .int .i64 c] 47 (0, 0))) ∧ Aside0 ((n = 0 ∧ kk = -1) ∨ ∃ i : Nat, i < n ∧ kk = (i : Int)))
  case first =>
    by_cases hn0 : 0 < n
    · have hq0 := and_65535 b
      obtain ⟨q, hq, hql⟩ : ∃ q : Nat, b % 65536 = (q : Int) ∧ q < 65536 := ⟨(b % 65536).toNat, by omega, by omega⟩
      rw [hq] at hq0
      have hrm : ((q : Int)).tmod (n : Int) = ((q % n : Nat) : Int) := by rw [Int.tmod_eq_emod_of_nonneg (by omega)]; omega
      have hri : q % n < n := Nat.mod_lt _ hn0
      obtain ⟨i, hi⟩ : ∃ i, q % n = i := ⟨_, rfl⟩
      rw [hi] at hrm hri
      have k3 : Wa.cell? ⟨b3, 1, none⟩ = some (.int .i64 b) := blk_cell HB3.out 1
      have hnz : (n = 0) = False := eq_false (by omega)
      clear hi hq hql
      go_upto_region 3 with (fail)
      refine start_ (n := 10) (S := fun w' => w'.cell? ⟨b3, 1, none⟩ = some (.int .i64 b) ∧ w'.cell? ⟨g, 48, none⟩ = some (.slice A1 n c1)) (ds := []) #[false, false, false, false, false, false, false, false, false, false] rfl rfl rfl ⟨k3, k1⟩ (fun hHeld => ?_)
      refine with_tabW reg11.tab3 reg11.bits3 (fun HT_ HW_ => ?_)
      refine pz_ 0 18 HT_ ?_
      refine tz_ 1 19 HT_ HW_ hHeld ?_
      refine pz_ 2 20 HT_ ?_
      refine pz_ 3 21 HT_ ?_
      refine pz_ 4 22 HT_ ?_
      refine pz_ 5 23 HT_ ?_
      refine tz_ 6 24 HT_ HW_ hHeld ?_
      refine pz_ 7 25 HT_ ?_
      refine pz_ 8 26 HT_ ?_
      refine pz_ 9 5 HT_ ?_
      refine done_ (done_of HT_.out (by kernel_rfl)) ?_
      clear HT_ HW_ hHeld
      have HWD := Aside0.mk (HW.out.below (below_drew1 (Below.refl _ _)))
      have HBD := Aside0.mk (blk_drew HB3.out)
      clear k1 k3 HW HB3
      generalize Wa.drew = Wb at *
      simp only [Exit.inBlock, Exit.then]
      go_wp2
      go_meet
      exact ⟨(i : Int), rfl, HWD, HBD, ⟨.inr ⟨i, hri, rfl⟩⟩⟩
    · have : n = 0 := by omega
      subst this
      go_wp2
      go_meet
      exact ⟨-1, rfl, HW, HB3, ⟨.inl (by simp)⟩⟩
  case rest =>
    obtain ⟨kk, rfl, HWC, HBC, HKK⟩ := hcut
    clear k1 HW HB3
    have h63 := and_63 c
    obtain ⟨x, hx, hx64⟩ : ∃ x : Nat, c % 64 = (x : Int) ∧ x < 64 := ⟨(c % 64).toNat, by omega, by omega⟩
    rw [hx] at h63
    have kc0 : wc.cell? ⟨b3, 0, none⟩ = some (.int .i64 0) := blk_cell HBC.out 0
    have kc2 : wc.cell? ⟨b3, 2, none⟩ = some (.int .i64 c) := blk_cell HBC.out 2
    clear hx
    obtain ⟨cs, tx, v1, v2, hbw, hcl, hrw, hab, hH, hC, hO⟩ := HWC.out.ex
    have HRG := Aside0.mk hbw.range
    have HCS := Aside0.mk hcl.size
    have HRW := Aside0.mk hrw
    have HAB := Aside0.mk hab
    have HGL := Aside0.mk HWC.out.x.go_lt
    have HI := HWC.out.inv.sane
    rcases free_cases m.st m.op with hfull | ⟨k, hk, hf, hb⟩
    · have hcall := Aside0.mk (fun w (hr : Rows3 w m.ls tx) => open_full cs m.st m.op m.ls tx hcl HI w hr hfull)
      clear hbw hcl hrw hab hH hC hO HI
      rcases HKK.out with ⟨rfl, rfl⟩ | ⟨i, hi, rfl⟩
      all_goals
        go_wp2_with (first | (refine wpList_load_mid rfl 28 (.tmp 42) rfl g 0 rfl cs.toList _ HRG.out Try.underlying28 rfl (by rw [Array.length_toList, HCS.out]; kernel_rfl) ?_) | (go_at_call 7; refine (hcall.out _ HRW.out).mono ?_; clear hcall; rintro e w1 ⟨rfl, hb1⟩; have HB1 := Aside0.mk hb1; clear hb1) | (refine st28 (.tmp 7) (.tmp 45) w1.heap.size Z48 Z48 (two_new w1).1 rfl rfl z48_one ?_; intro W2 hp2; have HP2 := Aside0.mk hp2; clear hp2) | (refine st31 (.tmp 8) (.tmp 46) (w1.heap.size + 1) 0 0 Z31 ((HP2.out.far _ (by omega)).trans (two_new w1).2.1) rfl ?_; intro W3 hp3; obtain ⟨t1, t2, t3⟩ := two_put HP2.out hp3; have HFIN := Aside0.mk (HWC.out.below (below_then HB1.out HB1.out.size t3)); clear t1 t2 t3 hp3 HP2 HB1))
        go_ret
        exact ⟨rfl, m, HFIN.out, Nat.le_succ _⟩
    · have hcall := Aside0.mk (fun w (hr : Rows3 w m.ls tx) => open_ok cs m.st m.op m.ls tx hcl HI w hr k hk hf hb)
      have HINV := Aside0.mk (HWC.out.inv.opened hk hf)
      have HOLDI := Aside0.mk HWC.out.inv
      have HX := Aside0.mk HWC.out.x
      obtain ⟨s1, hs1⟩ : ∃ s1, m.st k + 1 = s1 := ⟨_, rfl⟩
      have HS1 := Aside0.mk hs1
      rw [hs1] at hcall
      clear hbw hcl hrw hab hH hC hO HI hb hf HWC hs1
      have hlen : n < 999 := HMX.out
      have HKX : Aside0 True := ⟨trivial⟩
      rcases HKK.out with ⟨rfl, rfl⟩ | ⟨i, hi, rfl⟩
      all_goals
        go_upto_region 7 with (first | (refine wpList_load_mid rfl 28 (.tmp 42) rfl g 0 rfl cs.toList _ HRG.out Try.underlying28 rfl (by rw [Array.length_toList, HCS.out]; kernel_rfl) ?_) | (go_at_call 7; refine (hcall.out _ HRW.out).mono ?_; clear hcall; rintro e w1 ⟨cs1, tx1, rfl, hc1, hr1, hn1, hb1⟩; have HC1 := Aside0.mk hc1; have HR1 := Aside0.mk hr1; have HN1 := Aside0.mk (hn1.go HGL.out HAB.out); have HB1 := Aside0.mk hb1; clear hb1 hc1 hr1 hn1) | (refine st28 (.tmp 7) (.tmp 45) w1.heap.size cs1 Z48 (two_new w1).1 rfl HC1.out.size (rows_one HC1.out HR1.out) ?_; intro W2 hp2; have HP2 := Aside0.mk hp2; clear hp2) | (refine st31 (.tmp 8) (.tmp 46) (w1.heap.size + 1) (k : Int) s1 Z31 ((HP2.out.far _ (by omega)).trans (two_new w1).2.1) rfl ?_; intro W3 hp3; obtain ⟨t1, t2, t3⟩ := two_put HP2.out hp3; have HX3 := Aside0.mk (HX.out.below (below_then HB1.out HB1.out.size t3)); have HR3 := Aside0.mk (HR1.out.below t3); have T1 := Aside0.mk t1; have T2 := Aside0.mk t2; clear t1 t2 t3 hp3 HP2 HB1 HX HR1 HRW HRG kc0 kc2 HBC))
        clear W2
        generalize w1.heap.size = g1 at *
        clear w1
        go_upto_region 9 with (first | (refine ld28 (.tmp 7) g1 cs1 T1.out HC1.out.size ?_) | (obtain ⟨_, _, csy, _, _, _, hbw5, _⟩ := HX3.out; refine wpList_store_mid rfl 28 (.tmp 53) (.tmp 51) rfl g 0 cs1 rfl rfl (by rw [HC1.out.size]; exact hbw5.there) (by rw [HC1.out.size]; kernel_rfl) (rows_one HC1.out HR3.out) ?_; have HX4 := Aside0.mk (HX3.out.put HC1.out HR3.out HN1.out rfl); have gne := ne_ty (t := 31) (u := 44) T2.out hbw5.at_ (by decide); have T4 := Aside0.mk ((setCells_far (w := W3) cs1.toList 0 (g1 + 1) gne).trans T2.out); clear hbw5 gne))
        clear HX3 HR3 T1 T2
        generalize W3.setCells g 0 cs1.toList = W4 at HX4 T4 ⊢
        have hxd := HX4.out.below (below_drew1 (Below.refl _ _))
        have htd := blk_drew T4.out
        obtain ⟨be, gb, cs2, tx2, v1, v2, h1, h2, h3, h4, h5, h6, h7⟩ := hxd
        have H1 := Aside0.mk h1
        have H2 := Aside0.mk h2
        have H3 := Aside0.mk h3
        have H4 := Aside0.mk h4
        have H5 := Aside0.mk h5
        have H6 := Aside0.mk h6
        have H7 := Aside0.mk h7
        have HV1 := Aside0.mk (Kd.R_slice h5)
        have HCN := Aside0.mk HOLDI.out.len
        have BE := Aside0.mk be
        have GB := Aside0.mk gb
        have TD := Aside0.mk htd
        clear HX4 T4
        refine start_ (n := 11) (S := fun w' => w'.cell? ⟨g, 48, none⟩ = some v1 ∧ w'.cell? ⟨g1 + 1, 0, none⟩ = some (.int .i64 (k : Int)) ∧ w'.cell? ⟨g1 + 1, 1, none⟩ = some (.int .i64 s1)) (ds := [7, 10]) #[false, false, false, false, false, false, false, false, false, false, false] rfl rfl rfl ⟨h1.c1, blk_cell htd 0, blk_cell htd 1⟩ (fun hHeld => ?_)
        refine with_tabW reg11.tab9 reg11.bits9 (fun HT_ HW_ => ?_)
        clear h1 h2 h3 h4 h5 h6 h7 be gb htd
        generalize W4.drew = W5 at *
        refine pz_ 0 54 HT_ ?_
        refine pz_ 1 55 HT_ ?_
        refine pz_ 2 56 HT_ ?_
        refine pz_ 3 57 HT_ ?_
        refine tz_ 4 58 HT_ HW_ hHeld ?_
        refine tz_ 5 59 HT_ HW_ hHeld ?_
        refine oz_ 6 60 HT_ (fun K hK => ?_)
        refine value_ rfl rfl (v := .slice (some ⟨W5.heap.size, 0, none⟩) 1 1) (w1 := W5.alloc (.cells [.int .i64 (k : Int), .int .i64 s1].toArray 31)) (by go_simp) ?_
        have hal : Below W5.heap.size W5 (W5.alloc (.cells [.int .i64 (k : Int), .int .i64 s1].toArray 31)) := below_alloc (Below.refl _ _) _
        refine hK.out _ _ ⟨hh_ hal hHeld.1, hh_ hal hHeld.2.1, hh_ hal hHeld.2.2⟩ (fun _ => ?_)
        clear hK K hal
        refine norm_ (a' := ?_) ?_ ?_
        rotate_left
        · show Act.put _ (some 60) _ = _
          simp only [Act.put, List.setIfInBounds_toArray, List.set_cons_zero, List.set_cons_succ]
          rfl
        refine last_ (i := 7) (N := some 61) #[true, true, true, true, true, true, true, true, false, false, false] rfl rfl (one_of HT_.out (by kernel_rfl)) (by decide) (fun K hK => ?_)
        refine Kd.R_append_step k31 (w0 := w0) w0.heap.size (by rfl) (.tmp 58) (.tmp 60) 29 31 (.agg #[(.int .i64 0), (.int .i64 0)]) 16 rfl Try.underlying29 info31 rfl (by decide) (by omega) v1 m.H (⟨(k : Int), s1⟩ : S31) [.int .i64 (k : Int), .int .i64 s1] (fun _ => True) (fun _ => False) rfl rfl ?aP (fun _ hk => hk.elim) ?aF ?aO ?aB ?aS ?aL ?_
        case aP => exact k31_mkM _ _ _ (⟨(k : Int), s1⟩ : S31)
        case aF => exact (fun _ _ => trivial)
        case aO => exact H5.out
        case aB => exact BE.out
        case aS => exact BE.out.size
        case aL => rw [HN.out]; omega
        intro v9 w9 ho9 hb9 hg9 _
        obtain ⟨A9, c9, rfl⟩ := Kd.R_slice ho9
        have hb9' := blk_grown H1.out.at_ hg9 (Kd.R_ne H5.out H1.out.at_ (by decide))
        have bw9 : Bw g cs2 v1 v2 _ w9 := ⟨hb9', H1.out.size⟩
        have z1 := bw9.c1
        have z2 := bw9.fz 48
        have HX9 := Aside0.mk (Wx.all_app (m := { m with st := upd m.st k s1, op := upd m.op k true }) GB.out H1.out H2.out H3.out H4.out H5.out H6.out H7.out ⟨(k : Int), s1⟩ ho9 hb9 hg9)
        refine hK.out _ _ ?_
        clear hK K ho9 hb9 hg9 hb9' bw9 H1 H2 H3 H4 H5 H6 H7 BE TD hHeld
        refine norm_ (a' := ?_) ?_ ?_
        rotate_left
        · show Act.put _ (some 61) _ = _
          simp only [Act.put, List.setIfInBounds_toArray, List.set_cons_zero, List.set_cons_succ]
          rfl
        refine pz_ 8 62 HT_ ?_
        refine pz_ 9 63 HT_ ?_
        refine last_ (i := 10) (N := none) #[true, true, true, true, true, true, true, true, true, true, true] rfl rfl (one_of HT_.out (by kernel_rfl)) (by decide) (fun K hK => ?_)
        obtain ⟨A0, c0, hv1⟩ : ∃ A0 c0, v1 = .slice A0 m.H.length c0 := HV1.out
        refine skip_ (w1 := w9.setCell ⟨g, 48, none⟩ (.slice A9 (m.H ++ [(⟨(k : Int), s1⟩ : S31)]).length c9)) rfl rfl (by go_simp) ?_
        refine hK.out _ _ ?_
        clear hK K z1 z2
        refine done_ (done_of HT_.out (by kernel_rfl)) ?_
        clear HT_ HW_
        generalize w9.setCell ⟨g, 48, none⟩ (.slice A9 (m.H ++ [(⟨(k : Int), s1⟩ : S31)]).length c9) = W10 at HX9 ⊢
        simp only [Exit.inBlock, Exit.then]
        obtain ⟨be, gb, cs3, tx3, v3, v4, h1, h2, h3, h4, h5, h6, h7⟩ := HX9.out
        obtain ⟨A4, c4, rfl⟩ := Kd.R_slice h6
        have y1 := h1.c2
        have y2 := h1.fz 49
        have H1 := Aside0.mk h1
        have H2 := Aside0.mk h2
        have H3 := Aside0.mk h3
        have H4 := Aside0.mk h4
        have H5 := Aside0.mk h5
        have H6 := Aside0.mk h6
        have H7 := Aside0.mk h7
        have BE := Aside0.mk be
        clear h1 h2 h3 h4 h5 h6 h7 be gb
        have hclen := HINV.out.len
        have HCL := Aside0.mk (show m.C.length < 999 by (have := HCN.out; rw [HN.out] at this; omega))
        clear hclen
        go_wp2_with (at_builtin; refine Kd.R_append Kd.bool (w0 := w0) w0.heap.size rfl (.tmp 68) (.tmp 69) 42 4 (.bool false) 1 rfl Try.underlying42 info4 rfl (by decide) (by omega) _ m.C false [.bool false] (fun _ => True) (fun _ => False) rfl rfl ?aP2 (fun _ hk => hk.elim) ?aF2 ?aO2 ?aB2 ?aS2 ?aL2 ?_; (case aP2 => rfl); (case aF2 => exact (fun _ _ => trivial)); (case aO2 => exact H6.out); (case aB2 => exact BE.out); (case aS2 => exact BE.out.size); (case aL2 => have := HCL.out; omega); intro v11 w11 ho11 hb11 hg11 _; obtain ⟨A11, c11, rfl⟩ := Kd.R_slice ho11; have b11 : Bw g cs3 _ _ _ w11 := ⟨blk_grown H1.out.at_ hg11 (Kd.R_ne H6.out H1.out.at_ (by decide)), H1.out.size⟩; clear y1 y2; have y1 := b11.c2; have y2 := b11.fz 49; have HX12 := Aside0.mk (Wx.shut_app (m := { m with st := upd m.st k s1, op := upd m.op k true, H := m.H ++ [⟨(k : Int), s1⟩] }) GB.out H1.out H2.out H3.out H4.out H5.out H6.out H7.out false ho11 hb11 hg11); clear ho11 hb11 hg11 b11)
        go_ret
        have hx := HX12.out
        rw [show (m.C ++ [false]).length = m.C.length + 1 by simp] at hx
        obtain rfl := HS1.out
        exact ⟨rfl, m.opened k, hx.wd HINV.out, by show (m.H ++ [_]).length ≤ _; simp⟩
end Go.Proofs.Ytajghkmjgedikaa.Q
