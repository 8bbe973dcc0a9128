import Derived.Test.YtnlnglfjehohpaaSO
namespace Go.Proofs.Ytnlnglfjehohpaa.Q
open Go.RowKit Go.Proofs.YtnlnglfjehohpaaW Go.Proofs.YtnlnglfjehohpaaW.PrintWords Go.Proofs.YtnlnglfjehohpaaW.PrintLast Go.Proofs.YtnlnglfjehohpaaW.PrintMore
set_option linter.unusedVariables false
set_option linter.unusedSimpArgs false
def reg19.T6 : Bool × List (List Nat × List Nat) := (true, [([], []), ([], []), ([1], [1]), ([], []), ([], []), ([4], [4]), ([3, 5], [3, 5]), ([], []), ([7], [7]), ([6, 8], [6, 8]), ([0, 2, 9, 9, 0, 1, 2, 3, 4, 5, 6, 7, 8, 9], [0, 2, 9])])
def reg19.B6 : List Nat := [0, 0, 2, 0, 0, 16, 56, 0, 128, 504, 1023]
theorem reg19.tab6 : rtab .any (opsOf Try.f19 6) = reg19.T6 := by kernel_rfl
theorem reg19.bits6 : waitsOk reg19.T6.2 reg19.B6 = true := by kernel_rfl
/-- The world while the kids are gathered. -/
structure Fw (w1 : World) (M b3 base : Nat) (l : List S35) (W : World) (k : Nat) : Prop where
  below : Below w1.heap.size w1 W
  own : ∃ ls, Stk W base M ls (kidsU l k)
  mbox : W.heap[b3]? = some (.cells #[.map (some M)] 59 (0, 0))
theorem run_store_fn (P : Program) (w : World) (a : Addr) (m : Mode) (f : Fn) (xs ys : Array Value) : (store a (.func f xs ys) m).run P w = stored P w a (.func f xs ys) m := run_store P w a _ m rfl
attribute [local go_sem] run_store_fn
open Classical in
noncomputable def valsOf (ls : List Ent) (p : Int) : Value := if h : ∃ t, t ∈ ls ∧ t.1 = p then (Classical.choose h).2.1 else .nilIface
theorem valsOf_mem {ls : List Ent} (hk : ls.Pairwise (fun a b => a.1 ≠ b.1)) {t : Ent} (ht : t ∈ ls) : t.2.1 = valsOf ls t.1 := by
  have h : ∃ u, u ∈ ls ∧ u.1 = t.1 := ⟨t, ht, rfl⟩
  unfold valsOf
  rw [dif_pos h]
  have hc := Classical.choose_spec h
  generalize Classical.choose h = u at hc
  obtain ⟨i, hi, rfl⟩ := List.getElem_of_mem ht
  obtain ⟨j, hj, rfl⟩ := List.getElem_of_mem hc.1
  have hp := List.pairwise_iff_getElem.1 hk
  by_cases e : i = j
  · subst e; rfl
  · exfalso
    by_cases hlt : i < j
    · exact hp i j hi hj hlt hc.2.symm
    · exact hp j i hj hi (by omega) hc.2
theorem cell_alloc_ {W : World} {p : Addr} {v : Value} (h : W.cell? p = some v) (o : Obj) : (W.alloc o).cell? p = some v := hh_ ((Below.refl _ W).alloc (Nat.le_refl _) o) h
theorem Fw.later {w1 W W' : World} {M b3 base : Nat} {l : List S35} {k : Nat} (h : Fw w1 M b3 base l W k) (hs : w1.heap.size ≤ W.heap.size) (hb : Below W.heap.size W W') : Fw w1 M b3 base l W' k := by
  obtain ⟨ls, hS⟩ := h.own
  exact ⟨h.below.trans (hb.mono hs), ⟨ls, hS.keep (hb.block M hS.map.lt) (fun t ht j hj => hb.block j (own_lt (hS.own t ht) j hj)) (Nat.le_trans hS.hi hb.size)⟩, blk_below h.mbox hb⟩
set_option maxRecDepth 100000 in
set_option maxHeartbeats 3200000 in
theorem tree_Order.calls (A0 : Option Addr) (c0 : Nat) (l0 : List S35) (a0 : Int) (r : List Int) (w : World) (hr0 : Kd.C k35 w A0 l0.length l0) (hc0 : l0.length ≤ c0) (h : tree_Order.f l0 a0 = some r) :
    Calls Try.prog 19 #[.agg #[.slice A0 l0.length c0, .int .i64 a0]] w fun e w' => ∃ v, e = .returned v ∧ KI.R 3 w' w.heap.size (fun _ => True) v r ∧ Below w.heap.size w w' := by
  have hgood : goodO l0 = true ∧ tellF (byEnd l0) (kidsL l0) (l0.length + 1) (-1) = r := by
    unfold tree_Order.f at h
    split at h
    · rename_i hg; exact ⟨hg, Option.some.inj h⟩
    · cases h
  obtain ⟨hg, hr⟩ := hgood
  have hkin := good_kin hg
  have HG := Aside0.mk hg
  have HR := Aside0.mk hr0
  have HRES := Aside0.mk hr
  have HC0 := Aside0.mk hc0
  have HKIN := Aside0.mk hkin
  have hsm := hkin.2.1
  obtain ⟨n, hn⟩ : ∃ n, l0.length = n := ⟨_, rfl⟩
  have HN := Aside0.mk hn
  rw [hn] at HR HC0 HKIN HRES hsm ⊢
  clear hg hr h hr0 hc0 hkin hn
  have hmm := @run_makeMap Try.prog
  have hu := Try.underlying26
  have hu2 := Try.underlying35
  go_enter Try.func19, Try.ntmps19
  go_upto_region 2 with (fail)
  obtain ⟨w1, hw1⟩ : ∃ w1, w.alloc (Obj.cells #[.slice A0 n c0, .int .i64 a0] 26) = w1 := ⟨_, rfl⟩
  have hs1 : w1.heap.size = w.heap.size + 1 := by rw [← hw1]; simp
  have hb1 : w1.heap[w.heap.size]? = some (.cells #[.slice A0 n c0, .int .i64 a0] 26 (0, 0)) := by rw [← hw1]; simpa using blk_new w (.cells #[.slice A0 n c0, .int .i64 a0] 26)
  have hbw : Below w.heap.size w w1 := by rw [← hw1]; exact (Below.refl _ w).alloc (Nat.le_refl _) _
  have HBW := Aside0.mk hbw
  have HR1 := Aside0.mk (Kd.C_below HR.out hbw)
  rw [hw1]
  have e2 : w.heap.size + 1 = w1.heap.size := hs1.symm
  rw [e2]
  obtain ⟨w3, hw3⟩ : ∃ w3, (w1.alloc (.map #[] 0)).alloc (.cells #[.map (some w1.heap.size)] 59) = w3 := ⟨_, rfl⟩
  rw [hw3]
  have hs3 : w3.heap.size = w1.heap.size + 1 + 1 := by rw [← hw3]; simp
  have hb3 : Below w1.heap.size w1 w3 := by rw [← hw3]; exact ((Below.refl _ w1).alloc (Nat.le_refl _) _).alloc (by simp) _
  have hm3 : w3.heap[w1.heap.size]? = some (.map #[] 0) := by rw [← hw3]; simpa using blk_alloc (blk_new w1 (.map #[] 0)) (.cells #[.map (some w1.heap.size)] 59)
  have hp3 : w3.heap[w1.heap.size + 1]? = some (.cells #[.map (some w1.heap.size)] 59 (0, 0)) := by rw [← hw3]; simpa using blk_new (w1.alloc (.map #[] 0)) (.cells #[.map (some w1.heap.size)] 59)
  have HF := Aside0.mk (show Fw w1 w1.heap.size (w1.heap.size + 1) (w1.heap.size + 1 + 1) l0 w3 0 from ⟨hb3, ⟨[], Stk.start hm3 (by omega) (by omega)⟩, hp3⟩)
  obtain ⟨bt, hbt⟩ : ∃ bt, w.heap.size = bt := ⟨_, rfl⟩
  obtain ⟨M, hM⟩ : ∃ M, w1.heap.size = M := ⟨_, rfl⟩
  have HS1 := Aside0.mk hs1
  have HB1 := Aside0.mk hb1
  rw [hbt] at HS1 HB1 HBW ⊢
  have HM := Aside0.mk hM
  rw [hM] at HF ⊢
  obtain ⟨b3, hb3e⟩ : ∃ b3, M + 1 = b3 := ⟨_, rfl⟩
  obtain ⟨base, hbase⟩ : ∃ base, b3 + 1 = base := ⟨_, rfl⟩
  rw [hb3e, hbase] at HF
  rw [hb3e]
  have HNUM := Aside0.mk (show w1.heap.size = M ∧ M = bt + 1 ∧ b3 = M + 1 ∧ base = b3 + 1 from ⟨hM, by omega, hb3e.symm, hbase.symm⟩)
  have HBTW := Aside0.mk hbt
  clear hw1 hs1 hb1 hbw e2 hw3 hs3 hb3 hm3 hp3 hM hb3e hbase HS1 HM hmm
  have hcb : w3.cell? ⟨bt, 0, none⟩ = some (.slice A0 n c0) := (blk_cell ((HF.out.below.block bt (by have := HNUM.out; omega)).trans HB1.out) 0).trans rfl
  go_wp2
  clear hcb
  go_loopg [12] n (fun gg s12 wr => ∃ k : Nat, k ≤ n ∧ n - k ≤ gg ∧ s12 = .int .i64 k ∧ Aside0 (Fw w1 M b3 base l0 wr k))
  case atStart => exact ⟨0, Nat.zero_le _, by omega, rfl, HF⟩
  case round =>
    clear HF
    obtain ⟨k, hk, hgg, rfl, HF⟩ := hrel
    by_cases hlt : k < n
    · obtain ⟨ad, rfl, e0, e1, e2, e3⟩ := at_T35 (Kd.C_below HR1.out HF.out.below) (k : Int) (by omega) (by omega)
      rw [Int.toNat_natCast] at e0 e1 e2 e3
      have HPAR := Aside0.mk (show (rd_T35 l0 (k : Int)).f0 = parL l0 (k : Int) from rfl)
      obtain ⟨x, hx⟩ : ∃ x, rd_T35 l0 (k : Int) = x := ⟨_, rfl⟩
      rw [hx] at e0 e1 e2 e3 HPAR
      obtain ⟨x0, x1, x2, x3⟩ := x
      simp only at e0 e1 e2 e3 HPAR
      clear hx
      have q1 : ((k : Int) < (n : Int)) = True := eq_true (by omega)
      have q2 : (0 ≤ (k : Int)) = True := eq_true (by omega)
      go_upto_region 5 with (fail)
      obtain ⟨wa, hwa⟩ : ∃ wa, wr.alloc (Obj.cells #[.int .i64 x0, .int .i64 x1, .int .i64 x2, .int .i64 x3] 35) = wa := ⟨_, rfl⟩
      obtain ⟨b5, hb5⟩ : ∃ b5, wr.heap.size = b5 := ⟨_, rfl⟩
      have g5 : wa.heap[b5]? = some (.cells #[.int .i64 x0, .int .i64 x1, .int .i64 x2, .int .i64 x3] 35 (0, 0)) := by rw [← hwa, ← hb5]; simpa using blk_new wr (.cells #[.int .i64 x0, .int .i64 x1, .int .i64 x2, .int .i64 x3] 35)
      have hba : Below wr.heap.size wr wa := by rw [← hwa]; exact (Below.refl _ wr).alloc (Nat.le_refl _) _
      have HFA := Aside0.mk (HF.out.later HF.out.below.size hba)
      have gbt := (HFA.out.below.block bt (by have := HNUM.out; omega)).trans HB1.out
      have hc0 : wa.cell? ⟨bt, 0, none⟩ = some (.slice (some ad) n c0) := (blk_cell gbt 0).trans rfl
      have hc1 : wa.cell? ⟨bt, 1, none⟩ = some (.int .i64 a0) := (blk_cell gbt 1).trans rfl
      rw [hwa, hb5]
      have hcall := tree_Fixed.calls (some ad) c0 l0 a0 (k : Int) (fxd l0 (k : Int)) wa (by rw [HN.out]; exact Kd.C_below HR1.out HFA.out.below) (by rw [HN.out]; exact HC0.out) rfl
      rw [HN.out] at hcall
      have HCALL := Aside0.mk hcall
      have G5 := Aside0.mk g5
      clear e0 e1 e2 e3 hcall hba hwa hb5 gbt g5 HF
      cases hfx : fxd l0 (k : Int) with
      | false =>
        rw [hfx] at HCALL
        go_wp2_with (go_at_call 17; refine HCALL.out.mono ?_; rintro e w5 ⟨rfl, hb⟩; have HF5 := Aside0.mk (HFA.out.later HFA.out.below.size hb); clear HCALL hb)
        have HFN := Aside0.mk (show Fw w1 M b3 base l0 w5 (k + 1) from ⟨HF5.out.below, by
          obtain ⟨ls, hS⟩ := HF5.out.own
          refine ⟨ls, ?_⟩
          have : kidsU l0 (k + 1) = kidsU l0 k := by funext p; rw [kidsU_succ, hfx]; simp
          rw [this]; exact hS, HF5.out.mbox⟩)
        clear HF5
        go_roundg (n - (k + 1))
        case measure => omega
        case rel => exact ⟨k + 1, by omega, Nat.le_refl _, by go_num, HFN⟩
      | true =>
        rw [hfx] at HCALL
        have hpr := good_par HG.out (k := (k : Int)) (by omega) (by rw [HN.out]; omega) hfx
        rw [← HPAR.out] at hpr
        have HIN := Aside0.mk (inI_of (n := n) hpr.1 (by omega) hsm)
        have HPR := Aside0.mk hpr
        clear hpr
        go_upto_region 6 with (go_at_call 17; refine HCALL.out.mono ?_; rintro e w5 ⟨rfl, hb⟩; have HF5 := Aside0.mk (HFA.out.later HFA.out.below.size hb); have G55 := Aside0.mk (blk_below G5.out hb); clear HCALL hb HFA G5 hc0 hc1)
        have hfd := HF5.out.later HF5.out.below.size (show Below w5.heap.size w5 w5.drew from (Below.refl _ _).drew)
        have g5d : w5.drew.heap[b5]? = some (.cells #[.int .i64 x0, .int .i64 x1, .int .i64 x2, .int .i64 x3] 35 (0, 0)) := G55.out
        obtain ⟨ls, hS⟩ := hfd.own
        obtain ⟨v0, _, hown, hin⟩ := hS.look2 x0 HIN.out
        obtain ⟨AR, cR, rfl⟩ := own_slice hown
        obtain ⟨N0, hN0⟩ : ∃ N0, (kidsU l0 k x0).length = N0 := ⟨_, rfl⟩
        have hlk := fun W' hM => hS.lookAll x0 HIN.out _ hin W' hM
        have hRow := ki_of hown
        have hbb := hS.hi
        have hMlt := hS.map.lt
        have hlow := hS.low
        have c3 : w5.drew.cell? ⟨b3, 0, none⟩ = some (.map (some M)) := (blk_cell hfd.mbox 0).trans rfl
        have c5 : w5.drew.cell? ⟨b5, 0, none⟩ = some (.int .i64 x0) := (blk_cell g5d 0).trans rfl
        have HUP := Aside0.mk (fun (W2 : World) (v' : Value) hM hg hs ho hat => hS.update x0 HIN.out (.slice AR (kidsU l0 k x0).length cR) v' (kidsU l0 k x0 ++ [(k : Int)]) (hin.imp (fun ⟨j, h⟩ => ⟨j, _, h⟩) (fun h => ⟨h.1, by rw [h.2.1]; rfl⟩)) (W2 := W2) hM hg hs ho hat)
        have HROW := Aside0.mk hRow
        have HOWN := Aside0.mk hown
        have HFD := Aside0.mk hfd
        have G5D := Aside0.mk g5d
        have HBB := Aside0.mk hbb
        have HLW := Aside0.mk (And.intro hMlt hlow)
        have hkl : (kidsU l0 k x0).length ≤ k := by
          unfold kidsU
          rw [List.length_map]
          exact Nat.le_trans (List.length_filter_le _ _) (by rw [List.length_range]; exact Nat.le_refl _)
        have HKL := Aside0.mk hkl
        rw [hN0] at hlk
        have HN0 := Aside0.mk hN0
        clear hin hS hown hRow hbb hMlt hlow hfd g5d HF5 G55 hkl hN0
        unfold encE at hlk
        refine start_ (n := 11) (S := fun w' => w'.cell? ⟨b3, 0, none⟩ = some (.map (some M)) ∧ w'.cell? ⟨b5, 0, none⟩ = some (.int .i64 x0) ∧ w'.heap[M]? = w5.drew.heap[M]?) (ds := [10]) #[false, false, false, false, false, false, false, false, false, false, false] rfl rfl rfl ⟨c3, c5, rfl⟩ (fun hHeld => ?_)
        refine with_tabW reg19.tab6 reg19.bits6 (fun HT_ HW_ => ?_)
        generalize w5.drew = wd at *
        refine tz_ 0 20 HT_ HW_ hHeld ?_
        refine pz_ 1 21 HT_ ?_
        refine tz_ 2 22 HT_ HW_ hHeld ?_
        refine tz_ 3 23 HT_ HW_ hHeld ?_
        refine pz_ 4 24 HT_ ?_
        refine tz_ 5 25 HT_ HW_ hHeld ?_
        refine tz_ 6 26 HT_ HW_ hHeld ?_
        refine pz_ 7 27 HT_ ?_
        refine oz_ 8 28 HT_ (fun K' hK' => ?_)
        refine value_ rfl rfl (v := .slice (some ⟨wd.heap.size, 0, none⟩) 1 1) (w1 := wd.alloc (.cells #[.int .i64 (k : Int)] 3)) (by go_simp) ?_
        refine hK'.out _ _ ⟨(cell_alloc_ c3 _), (cell_alloc_ c5 _), Below.heap_alloc _ _ _ HLW.out.1⟩ (fun hHeld2 => ?_)
        clear hK' K' hHeld
        refine oz_ 9 29 HT_ (fun K' hK' => ?_)
        refine Kd.R_append_step (Kd.int .i64) (w0 := wd) base (by rfl) (.tmp 26) (.tmp 28) 28 3 (.int .i64 0) 8 rfl Try.underlying28 info3 rfl (by decide) (by omega) (.slice AR N0 cR) (kidsU l0 k x0) (k : Int) [.int .i64 (k : Int)] (fun _ => True) (fun _ => False) rfl rfl ?aP (fun _ hk => hk.elim) (fun _ _ => trivial) ?aO (Below.refl _ _) HBB.out ?aL ?_
        case aP => rfl
        case aO => have := HROW.out; rw [HN0.out] at this; exact this
        case aL => have := HKL.out; omega
        intro v1 w6 ho hb hg hat
        obtain ⟨A9, c9, e9⟩ := Kd.R_slice ho
        obtain ⟨N9, hN9⟩ : ∃ N9, (kidsU l0 k x0 ++ [(k : Int)]).length = N9 := ⟨_, rfl⟩
        have hown9 := HOWN.out
        rw [HN0.out] at hown9
        have hMb : some M ≠ (Value.slice AR N0 cR).ownBlock := fun e => by have := own_base hown9 M e.symm; have := HLW.out.2; omega
        have hM6 : w6.heap[M]? = wd.heap[M]? := hg.block M HLW.out.1 hMb
        have h36 := blk_grown HFD.out.mbox hg (own_ne hown9 HFD.out.mbox (by decide))
        have h56 := blk_grown G5D.out hg (own_ne hown9 G5D.out (by decide))
        obtain ⟨o, l', hup, hS'⟩ := HUP.out w6 v1 hM6 (fun g _ hgs hne => hg.block g hgs (by rw [HN0.out] at hne; exact fun e => hne e.symm)) hg.size (ki_own ho) (by rw [HN0.out]; exact hat)
        unfold encE at hup
        rw [hN9] at e9
        subst e9
        have HFN := Aside0.mk (show Fw w1 M b3 base l0 (w6.putObj M o) (k + 1) from ⟨below_put (HFD.out.below.grown hg HFD.out.below.size (fun j hj => by have := own_base hown9 j hj; have := HNUM.out; omega)) (by have := HNUM.out; omega) o, ⟨l', by
          have : kidsU l0 (k + 1) = upd (kidsU l0 k) x0 (kidsU l0 k x0 ++ [(k : Int)]) := by
            funext p
            rw [kidsU_succ, hfx, ← HPAR.out]
            unfold upd
            by_cases hp : p = x0
            · subst hp; simp
            · have : (x0 = p) = False := eq_false (fun e => hp e.symm)
              simp [hp, this]
          rw [this]; exact hS'⟩, (World.putObj_heap_other (by have := HNUM.out; omega)).trans h36⟩)
        refine hK'.out _ _ ⟨(blk_cell h36 0).trans rfl, (blk_cell h56 0).trans rfl, hM6⟩ (fun hHeld6 => ?_)
        clear hK' K' hHeld6 hHeld2 ho hb hg hat hN9 hown9 hMb hM6 h36 h56 hS' HUP HROW HOWN HFD G5D HBB HLW HKL HN0 hlk c3 c5
        refine norm_ (a' := ?_) ?_ ?_
        rotate_left
        · simp only [Act.put, List.setIfInBounds_toArray, List.set_cons_zero, List.set_cons_succ]
          rfl
        refine last_ (i := 10) (N := none) #[true, true, true, true, true, true, true, true, true, true, true] rfl rfl (one_of HT_.out (by kernel_rfl)) (by decide) (fun K' hK => ?_)
        refine skip_ (w1 := w6.putObj M o) (by rfl) rfl (by go_simp) ?_
        refine hK.out _ _ ?_
        clear hK K'
        refine done_ (done_of HT_.out (by kernel_rfl)) ?_
        clear HT_ HW_ hup
        generalize w6.putObj M o = w7 at *
        go_upto_region 7 with (fail)
        repeat go_step
        go_roundg (n - (k + 1))
        case measure => omega
        case rel => exact ⟨k + 1, by omega, Nat.le_refl _, by go_num, HFN⟩
    · have hkn : k = n := by omega
      subst hkn
      clear hu hu2 hgg hk hlt
      go_upto_region 10 with (fail)
      obtain ⟨w4, hw4⟩ : ∃ w4, (wr.alloc (Obj.cells #[.slice none 0 0] 28)).alloc (Obj.cells #[.nilFunc] 60) = w4 := ⟨_, rfl⟩
      have h6 : w4.heap[wr.heap.size]? = some (.cells #[.slice none 0 0] 28 (0, 0)) := by rw [← hw4]; simpa using blk_alloc (blk_new wr (.cells #[.slice none 0 0] 28)) (.cells #[.nilFunc] 60)
      have h7 : w4.heap[wr.heap.size + 1]? = some (.cells #[.nilFunc] 60 (0, 0)) := by rw [← hw4]; simpa using blk_new (wr.alloc (.cells #[.slice none 0 0] 28)) (.cells #[.nilFunc] 60)
      have hb4 : Below wr.heap.size wr w4 := by rw [← hw4]; exact ((Below.refl _ wr).alloc (Nat.le_refl _) _).alloc (by simp) _
      have hs4 : w4.heap.size = wr.heap.size + 1 + 1 := by rw [← hw4]; simp
      have HF4 := Aside0.mk (HF.out.later HF.out.below.size hb4)
      obtain ⟨ls0, hS0⟩ := HF.out.own
      have hls : base ≤ wr.heap.size := hS0.hi
      rw [hw4]
      clear hw4
      obtain ⟨b6, hb6⟩ : ∃ b6, wr.heap.size = b6 := ⟨_, rfl⟩
      rw [hb6] at h6 h7 hb4 hs4 hls ⊢
      obtain ⟨b7, hb7⟩ : ∃ b7, b6 + 1 = b7 := ⟨_, rfl⟩
      rw [hb7] at h7 hs4 ⊢
      have c7 : w4.cell? ⟨b7, 0, none⟩ = some .nilFunc := (blk_cell h7 0).trans rfl
      have f7 := blk_frozen h7 0
      have HTW := Aside0.mk (show ∃ vals, Tw w1 bt M b3 base b6 b7 (b7 + 1) vals (kidsL l0) (w4.setCell ⟨b7, 0, none⟩ (.func (.func 34) #[] #[.pointer (some ⟨b3, 0, none⟩), .pointer (some ⟨bt, 0, none⟩), .pointer (some ⟨b6, 0, none⟩), .pointer (some ⟨b7, 0, none⟩)])) (kidsL l0) [] from by
        obtain ⟨ls, hS⟩ := HF4.out.own
        have far : ∀ g u, g ≠ b7 → (w4.setCell ⟨b7, 0, none⟩ u).heap[g]? = w4.heap[g]? := fun g u hne => Below.heap_setCell w4 ⟨b7, 0, none⟩ u g hne
        have hnum := HNUM.out
        have h66 : ∀ t ∈ ls0, ∀ k, t.2.1.ownBlock = some k → k < b6 := fun t ht k hk => hb6 ▸ own_lt (hS0.own t ht) k hk
        have hS4 := hS0.keep (W' := w4) (hb4.block M (hb6 ▸ hS0.map.lt)) (fun t ht k hk => hb4.block k (h66 t ht k hk)) (by omega)
        refine ⟨valsOf ls0, (HF4.out.below).setCell (by show w1.heap.size ≤ b7; omega) _, ⟨ls0, ?_, fun t ht => ⟨valsOf_mem hS0.key ht, fun k hk => by have := h66 t ht k hk; omega⟩⟩, fun q => .refl _, ?_, ⟨.slice none 0 0, ?_, Kd.R_nil _ _ _ _ _⟩, ?_, ?_⟩
        · rw [show kidsL l0 = kidsU l0 k from by unfold kidsL; rw [HN.out]]
          refine hS4.keep (far M _ (by omega)) (fun t ht k hk => far k _ (by have := h66 t ht k hk; omega)) (by simp; omega)
        · rw [far b3 _ (by omega)]; exact HF4.out.mbox
        · rw [far b6 _ (by omega)]; exact h6
        · have := blk_set h7 0 (.func (.func 34) #[] #[.pointer (some ⟨b3, 0, none⟩), .pointer (some ⟨bt, 0, none⟩), .pointer (some ⟨b6, 0, none⟩), .pointer (some ⟨b7, 0, none⟩)])
          simpa using this
        · simp; omega)
      clear h6 h7 hb4 hS0 HF4 HF hb6
      go_upto_region 11 with (fail)
      clear c7 f7
      generalize w4.setCell ⟨b7, 0, none⟩ (.func (.func 34) #[] #[.pointer (some ⟨b3, 0, none⟩), .pointer (some ⟨bt, 0, none⟩), .pointer (some ⟨b6, 0, none⟩), .pointer (some ⟨b7, 0, none⟩)]) = w5 at *
      obtain ⟨vals, hTW⟩ := HTW.out
      have hnum := HNUM.out
      have hfix : Tfix w1 bt A0 c0 k l0 M b3 base b6 b7 (b7 + 1) (kidsL l0) (parL l0) := ⟨HN.out, (blk_cell HB1.out 0).trans rfl, HR1.out, hsm, by omega, by omega, by omega, HKIN.out.1⟩
      have HCALL := Aside0.mk (tell_ok (vals := vals) hfix (k + 1) w5 (kidsL l0) [] (-1) (by omega) (by omega) (by omega) hTW ⟨by simp, by simp, by simp⟩)
      have c7 := (blk_cell hTW.tbox 0).trans rfl
      clear hTW hfix HTW hnum
      go_upto_region 12 with (go_at_call 34; refine HCALL.out.mono ?_; rintro e w7 ⟨rfl, st2, K, o, h1, h2, h3, h4, h5, h6, h7⟩; have HT7 := Aside0.mk h4; have HTL := Aside0.mk (And.intro h1 (And.intro h2 h3)); clear HCALL h1 h2 h3 h4 h5 h6 h7 c7)
      obtain ⟨vo, hob, hoR⟩ := HT7.out.obox
      have c6 := (blk_cell hob 0).trans rfl
      have HOR := Aside0.mk hoR
      clear hob hoR
      go_wp2
      go_ret
      have hko : o = r := by
        rw [← HRES.out, HTL.out.2.2.eq HKIN.out.1 HKIN.out.2.2 k (fun x hx => by have := HKIN.out.1.has (-1) x (HTL.out.1.mem_iff.1 hx); omega), sorted_one (byEnd l0) K (srt (byEnd l0) (kidsL l0 (-1))) (HTL.out.1.trans (srt_perm _ _).symm) HTL.out.2.1 (srt_sorted _ _) (fun x hx y hy => HKIN.out.2.2 (-1) x (HTL.out.1.mem_iff.1 hx) y (HTL.out.1.mem_iff.1 hy))]
        rfl
      subst hko
      have hnum := HNUM.out
      refine ⟨vo, rfl, ?_, ?_⟩
      · exact Kd.R_lower HOR.out (by have := HBTW.out; omega)
      · rw [HBTW.out]; exact HBW.out.trans (HT7.out.below.mono (by omega))
end Go.Proofs.Ytnlnglfjehohpaa.Q
