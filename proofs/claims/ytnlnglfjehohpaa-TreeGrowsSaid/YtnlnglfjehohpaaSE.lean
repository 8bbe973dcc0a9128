import Derived.Test.YtnlnglfjehohpaaSD
namespace Go.Proofs.Ytnlnglfjehohpaa.Q
open Go.RowKit Go.Proofs.YtnlnglfjehohpaaW Go.Proofs.YtnlnglfjehohpaaW.PrintWords Go.Proofs.YtnlnglfjehohpaaW.PrintLast Go.Proofs.YtnlnglfjehohpaaW.PrintMore
set_option linter.unusedVariables false
set_option linter.unusedSimpArgs false
set_option maxRecDepth 100000 in
set_option maxHeartbeats 3200000 in
theorem insertion_ok (BX : Nat) (key : Int → Int) (dom : Int → Prop) (K : World → Prop) (A : Option Addr) (c L base : Nat) (ok : Nat → Prop) (w0 w : World) (hC : CmpI 36 BX key dom (Value.slice A L c).ownBlock K) (hK : K w)
    (P S Q : List Int) (hdom : ∀ x ∈ S, dom x) (HO : KI.R 3 w base ok (.slice A L c) (P ++ (S ++ Q))) (hB : Below base w0 w) (hbase : base ≤ w.heap.size) (hl : L < 1000) :
    Calls Try.prog 42 #[.slice A L c, .int .i64 (P.length : Int), .int .i64 ((P.length + S.length : Nat) : Int), .func (.func 36) #[] #[.pointer (some ⟨BX, 0, none⟩)]] w fun e w' =>
      e = .returned (.tuple #[]) ∧ (∃ T : List Int, T.Perm S ∧ Sorted key T ∧ KI.R 3 w' base ok (.slice A L c) (P ++ (T ++ Q))) ∧ Below base w0 w' ∧ w.grownBy w' (Value.slice A L c).ownBlock := by
  have hlen : P.length + S.length + Q.length = L := by
    have := (Kd.R_reads' HO).1
    simp only [List.length_append] at this; omega
  have H0 := Aside0.mk (Out.start (key := key) (J := fun l => KI.R 3 w base ok (.slice A L c) l) HO)
  have HD := Aside0.mk (fun i (w' : World) => Out.done (key := key) (P := P) (S := S) (Q := Q) (i := i) (J := fun l => KI.R 3 w' base ok (.slice A L c) l))
  have HI := Aside0.mk (fun i (w' : World) => Out.inn (key := key) (P := P) (S := S) (Q := Q) (i := i) (J := fun l => KI.R 3 w' base ok (.slice A L c) l))
  have HE := Aside0.mk (fun i j (w' : World) => Inn.open (key := key) (P := P) (S := S) (Q := Q) (i := i) (j := j) (J := fun l => KI.R 3 w' base ok (.slice A L c) l))
  have HLW := Aside0.mk (fun i j (w' : World) => Inn.low (key := key) (P := P) (S := S) (Q := Q) (i := i) (j := j) (J := fun l => KI.R 3 w' base ok (.slice A L c) l))
  have BB := Aside0.mk hB
  have BS := Aside0.mk hbase
  have HC := Aside0.mk hC
  have HK := Aside0.mk hK
  have HDM := Aside0.mk hdom
  obtain ⟨a, ha⟩ : ∃ a, P.length = a := ⟨_, rfl⟩
  obtain ⟨b, hb⟩ : ∃ b, P.length + S.length = b := ⟨_, rfl⟩
  rw [hb] at HD HI ⊢
  rw [ha] at hb H0 HE HLW ⊢
  have hab : a ≤ b ∧ b ≤ L := by omega
  clear HO hB hbase hC hK hdom hlen hb ha
  have w1 : IntKind.i64.wrap ((a : Int) + 1) = ((a + 1 : Nat) : Int) := by rw [IntKind.wrap_i64]; omega
  go_enter Try.func42, Try.ntmps42
  go_wp2
  clear w1
  go_loopg [8, 9] (b + 1) (fun gg s8 s9 wr => ∃ i : Nat, a < i ∧ b + 1 - i ≤ gg ∧ i ≤ b + 1 ∧ s8 = .int .i64 i ∧ Aside0 (Out key P S Q i (fun l => KI.R 3 wr base ok (.slice A L c) l)) ∧ Aside0 (Below base w0 wr) ∧ Aside0 (base ≤ wr.heap.size) ∧ Aside0 (K wr) ∧ Aside0 (w.grownBy wr (Value.slice A L c).ownBlock))
  case atStart =>
    exact ⟨a + 1, by omega, by omega, by omega, by go_num, H0, BB, BS, HK, ⟨World.grownBy.refl _ _⟩⟩
  case round =>
    obtain ⟨i, hai, hgi, hib, rfl, HR, HB1, HS1, HK1, HG1⟩ := hrel
    by_cases hlt : i < b
    · have HN := Aside0.mk (HI.out i wr HR.out hlt)
      clear HR
      go_wp2
      go_loopg [9] (i - a) (fun gg s9 wr => ∃ j : Nat, a ≤ j ∧ j - a ≤ gg ∧ j ≤ i ∧ s9 = .int .i64 j ∧ Aside0 (Inn key P S Q i j (fun l => KI.R 3 wr base ok (.slice A L c) l)) ∧ Aside0 (Below base w0 wr) ∧ Aside0 (base ≤ wr.heap.size) ∧ Aside0 (K wr) ∧ Aside0 (w.grownBy wr (Value.slice A L c).ownBlock))
      case atStart =>
        exact ⟨i, by omega, by omega, Nat.le_refl _, rfl, HN, HB1, HS1, HK1, HG1⟩
      case round =>
        clear HN HB1 HS1 HK1 HG1
        obtain ⟨j, haj, hgj, hji, rfl, HN, HB2, HS2, HK2, HG2⟩ := hrel
        by_cases hja : a < j
        · obtain ⟨A0, B0, u, x, hA0, hu, hx, hrow, hyes, hno⟩ := HE.out i j _ HN.out hja
          have hll := (Kd.R_reads' hrow).1
          obtain ⟨k, hk⟩ : ∃ k, A0.length = k := ⟨_, rfl⟩
          have hjk : j = k + 1 := by omega
          subst hjk
          obtain ⟨g, rfl, hg0, g1, g2, z2, ⟨zz, g3⟩, z3, hrow2, hgr2⟩ := adj_down base ok _ A L c A0 B0 u x k hk hll.symm hrow
          have hcall := Aside0.mk (fun (w' : World) (hb : Below wr.heap.size wr w') => HC.out.says w' x u (HC.out.lasts _ _ HK2.out (grown_below (World.grownBy.refl _ _) hb)) (HDM.out x hx) (HDM.out u hu))
          have m1 : IntKind.i64.wrap (((k : Int) + 1) - 1) = (k : Int) := by rw [IntKind.wrap_i64]; omega
          have t1 : ((k : Int) + 1).toNat = k + 1 := by omega
          have q1 : (0 ≤ (k : Int) + 1) = True := eq_true (by omega)
          have q2 : ((k : Int) + 1 < (L : Int)) = True := eq_true (by rw [List.length_append, List.length_cons, List.length_cons] at hll; omega)
          have q3 : ((k : Int) < (L : Int)) = True := eq_true (by rw [List.length_append, List.length_cons, List.length_cons] at hll; omega)
          have q4 : ((a : Int) < (k : Int) + 1) = True := eq_true (by omega)
          have q5 : (0 ≤ (k : Int)) = True := eq_true (by omega)
          have m2 : wrap64 (k : Int) = (k : Int) := by unfold wrap64; omega
          have HG2' := Aside0.mk hgr2
          have HR2 := Aside0.mk hrow2
          have HNO := Aside0.mk hno
          have HYES := Aside0.mk hyes
          have HRW := Aside0.mk hrow
          have HA0 := Aside0.mk hA0
          clear hgr2 hrow2 hno hyes hrow hu hx hll
          go_upto_region 4 with (fail)
          refine start_ (n := 17) (S := fun w' => (w'.cell? ⟨g, k, none⟩ = some (.int .i64 u) ∧ w'.cell? ⟨g, k + 1, none⟩ = some (.int .i64 x)) ∧ Aside0 (Below wr.heap.size wr w')) (ds := [16]) #[false, false, false, false, false, false, false, false, false, false, false, false, false, false, false, false, false] rfl rfl rfl ⟨⟨g1, g2⟩, ⟨(Below.refl _ _).drew⟩⟩ (fun hHeld => ?_)
          refine with_tabW reg42.tab4 reg42.bits4 (fun HT_ HW_ => ?_)
          obtain ⟨hHeld, HBW⟩ := hHeld
          refine pz_ 0 18 HT_ ?_
          refine pz_ 1 19 HT_ ?_
          refine pz_ 2 20 HT_ ?_
          refine pz_ 3 21 HT_ ?_
          refine pz_ 4 22 HT_ ?_
          refine pz_ 5 23 HT_ ?_
          refine pz_ 6 24 HT_ ?_
          refine pz_ 7 25 HT_ ?_
          refine tz_ 8 26 HT_ HW_ ⟨hHeld, HBW⟩ ?_
          refine pz_ 9 27 HT_ ?_
          refine pz_ 10 28 HT_ ?_
          refine pz_ 11 29 HT_ ?_
          refine pz_ 12 30 HT_ ?_
          refine tz_ 13 31 HT_ HW_ ⟨hHeld, HBW⟩ ?_
          refine oz_ 14 32 HT_ (fun K' hK' => ?_)
          refine goesv_ Try.func36 (by kernel_rfl) rfl #[.int .i64 x, .int .i64 u, .pointer (some ⟨BX, 0, none⟩)] #[.pointer (some ⟨BX, 0, none⟩)] (by rfl) rfl rfl rfl ma_ ?_
          refine (hcall.out _ HBW.out).mono ?_
          rintro e w4 ⟨rfl, hb4⟩
          refine ⟨_, rfl, hK'.out _ _ ⟨⟨hh_ hb4 hHeld.1, hh_ hb4 hHeld.2⟩, ⟨HBW.out.trans (hb4.mono HBW.out.size)⟩⟩ (fun hHeld4 => ?_)⟩
          clear hK' K'
          obtain ⟨hHeld4, HBW4⟩ := hHeld4
          clear hb4
          generalize hwd : wr.drew = wd at hHeld HBW
          clear hHeld HBW hwd hcall
          by_cases hlt2 : key x < key u
          · have hc3 : cmp3 (key x) (key u) = -1 := by unfold cmp3; rw [if_pos hlt2]
            rw [hc3]
            refine pz_ 15 33 HT_ ?_
            refine pz_ 16 34 HT_ ?_
            refine done_ (done_of HT_.out (by kernel_rfl)) ?_
            clear HT_ HW_ hc3
            have hrow4 := Kd.R_drew (Kd.R_below HRW.out HBW4.out)
            obtain ⟨g', hgg, hg0', g1, g2, z2, ⟨zz, g3⟩, z3, hrow5, hgr5⟩ := adj_down base ok _ _ L c A0 B0 u x k hk (Kd.R_reads' hrow4).1.symm hrow4
            injection hgg with hgg
            injection hgg with hgg
            subst hgg
            have HRN := Aside0.mk hrow5
            have HGR := Aside0.mk hgr5
            have HB4 := Aside0.mk (HB2.out.trans (HBW4.out.mono HS2.out)).drew
            have HG4 := Aside0.mk ((grown_below HG2.out HBW4.out).trans (grown_drew_any _ _))
            have HS4 := Aside0.mk (show base ≤ w4.drew.heap.size from Nat.le_trans HS2.out HBW4.out.size)
            have HK4 := Aside0.mk (HC.out.lasts _ _ HK2.out ((grown_below (World.grownBy.refl _ _) HBW4.out).trans (grown_drew_any _ _)))
            have HRN := Aside0.mk (HRN.out)
            clear HB2 HG2 HS2 HK2 hHeld4 hrow5 hgr5 hrow4 HBW4 HRW
            go_upto_region 6 with (fail)
            refine start_ (n := 18) (S := fun w' => w'.cell? ⟨g, k, none⟩ = some (.int .i64 u) ∧ w'.cell? ⟨g, k + 1, none⟩ = some (.int .i64 x)) (ds := [15, 17]) #[false, false, false, false, false, false, false, false, false, false, false, false, false, false, false, false, false, false] rfl rfl rfl ⟨g1, g2⟩ (fun hHeld => ?_)
            refine with_tabW reg42.tab6 reg42.bits6 (fun HT_ HW_ => ?_)
            generalize w4.drew = w5 at *
            refine pz_ 0 37 HT_ ?_
            refine pz_ 1 38 HT_ ?_
            refine pz_ 2 39 HT_ ?_
            refine pz_ 3 40 HT_ ?_
            refine pz_ 4 41 HT_ ?_
            refine pz_ 5 42 HT_ ?_
            refine pz_ 6 43 HT_ ?_
            refine pz_ 7 44 HT_ ?_
            refine pz_ 8 45 HT_ ?_
            refine tz_ 9 46 HT_ HW_ hHeld ?_
            refine pz_ 10 47 HT_ ?_
            refine pz_ 11 48 HT_ ?_
            refine pz_ 12 49 HT_ ?_
            refine tz_ 13 50 HT_ HW_ hHeld ?_
            refine pz_ 14 51 HT_ ?_
            refine last_ (i := 15) (N := none) #[true, true, true, true, true, true, true, true, true, true, true, true, true, true, true, true, false, false] rfl rfl (one_of HT_.out (by kernel_rfl)) (by decide) (fun K' hK => ?_)
            refine skip_ (w1 := ?_) (by rfl) rfl ?_ ?_
            rotate_left
            · go_simp
              rfl
            refine hK.out _ _ ?_
            clear hK K'
            refine pz_ 16 52 HT_ ?_
            refine last_ (i := 17) (N := none) #[true, true, true, true, true, true, true, true, true, true, true, true, true, true, true, true, true, true] rfl rfl (one_of HT_.out (by kernel_rfl)) (by decide) (fun K' hK => ?_)
            refine skip_ (w1 := ?_) (by rfl) rfl ?_ ?_
            rotate_left
            · go_simp
              rfl
            refine hK.out _ _ ?_
            clear hK K'
            refine done_ (done_of HT_.out (by kernel_rfl)) ?_
            clear HT_ HW_ hHeld
            have HBN := Aside0.mk (HB4.out.grown HGR.out HS4.out (fun k hk => by injection hk with hk; subst hk; exact hg0))
            have HSN := Aside0.mk (Nat.le_trans HS4.out HGR.out.size)
            have HGN := Aside0.mk (HG4.out.trans HGR.out)
            have HKN := Aside0.mk (HC.out.lasts _ _ HK4.out HGR.out)
            have HIN := Aside0.mk (HYES.out _ hlt2 HRN.out)
            clear HRN HGR HB4 HG4 HS4 HK4 HYES HNO g1 g2 g3 z2 z3
            generalize (w5.setCell ⟨g, k + 1, none⟩ (Value.int IntKind.i64 u)).setCell ⟨g, k, none⟩ (Value.int IntKind.i64 x) = w7 at *
            clear q1 q2 q3 q4 q5 t1 hA0 m2
            go_upto_region 5 with (fail)
            repeat go_step
            clear m1
            go_roundg (k - a)
            case measure => omega
            case rel => exact ⟨k, by omega, Nat.le_refl _, by omega, by go_num, HIN, HBN, HSN, HKN, HGN⟩
          · have hc3 : 0 ≤ cmp3 (key x) (key u) := by unfold cmp3; rw [if_neg hlt2]; split <;> omega
            obtain ⟨cc, hcc⟩ : ∃ cc, cmp3 (key x) (key u) = cc := ⟨_, rfl⟩
            rw [hcc] at hc3 ⊢
            have qc : (cc < 0) = False := eq_false (by omega)
            refine pz_ 15 33 HT_ ?_
            refine pz_ 16 34 HT_ ?_
            refine done_ (done_of HT_.out (by kernel_rfl)) ?_
            clear HT_ HW_ qc hc3 hcc
            have HON := Aside0.mk (HNO.out _ (Int.not_lt.1 hlt2) (Kd.R_below HRW.out HBW4.out))
            have HB4 := Aside0.mk (HB2.out.trans (HBW4.out.mono HS2.out))
            have HG4 := Aside0.mk (grown_below HG2.out HBW4.out)
            have HS4 := Aside0.mk (Nat.le_trans HS2.out HBW4.out.size)
            have HK4 := Aside0.mk (HC.out.lasts _ _ HK2.out (grown_below (World.grownBy.refl _ _) HBW4.out))
            clear HB2 HG2 HS2 HK2 hHeld4 HBW4 HRW HNO HYES HR2 HG2' g1 g2 g3 z2 z3
            clear m1 m2 q1 q2 q3 q4 q5 t1 hA0 HA0
            have m3 : IntKind.i64.wrap ((i : Int) + 1) = ((i + 1 : Nat) : Int) := by rw [IntKind.wrap_i64]; omega
            go_upto_region 2 with (fail)
            repeat go_step
            clear m3
            go_roundg (b + 1 - (i + 1))
            case measure => omega
            case rel => exact ⟨i + 1, by omega, Nat.le_refl _, by omega, by go_num, HON, HB4, HS4, HK4, HG4⟩
        · have haj2 : a = j := by omega
          subst haj2
          have HON := Aside0.mk (HLW.out i a _ HN.out rfl)
          have q4 : ((a : Int) < (a : Int)) = False := eq_false (by omega)
          have HB4 := Aside0.mk HB2.out.drew
          have HS4 := Aside0.mk (show base ≤ wr.drew.heap.size from HS2.out)
          have HG4 := Aside0.mk (HG2.out.trans (grown_drew_any wr _))
          have HK4 := Aside0.mk (HC.out.lasts _ _ HK2.out (grown_drew_any wr _))
          have HON4 : Aside0 (Out key P S Q (i + 1) fun l => KI.R 3 wr.drew base ok (Value.slice A L c) l) := ⟨Out.mono HON.out (fun _ h => Kd.R_drew h)⟩
          clear HN HB2 HS2 HG2 HK2 HON
          go_upto_region 4 with (fail)
          refine start_ (n := 17) (S := fun w' => True) (ds := [14, 16]) #[false, false, false, false, false, false, false, false, false, false, false, false, false, false, false, false, false] rfl rfl rfl trivial (fun hHeld => ?_)
          refine with_tabW reg42.tab4 reg42.bits4 (fun HT_ HW_ => ?_)
          generalize wr.drew = w5 at *
          refine pz_ 0 18 HT_ ?_
          refine pz_ 1 19 HT_ ?_
          refine pz_ 2 20 HT_ ?_
          refine pz_ 3 21 HT_ ?_
          refine pn_ 4 22 HT_ ?_
          refine pn_ 5 23 HT_ ?_
          refine pn_ 6 24 HT_ ?_
          refine pn_ 7 25 HT_ ?_
          refine pn_ 8 26 HT_ ?_
          refine pn_ 9 27 HT_ ?_
          refine pn_ 10 28 HT_ ?_
          refine pn_ 11 29 HT_ ?_
          refine pn_ 12 30 HT_ ?_
          refine pn_ 13 31 HT_ ?_
          refine pn_ 14 32 HT_ ?_
          refine pn_ 15 33 HT_ ?_
          refine pz_ 16 34 HT_ ?_
          refine done_ (done_of HT_.out (by kernel_rfl)) ?_
          clear HT_ HW_ q4
          have m3 : IntKind.i64.wrap ((i : Int) + 1) = ((i + 1 : Nat) : Int) := by rw [IntKind.wrap_i64]; omega
          go_upto_region 2 with (fail)
          repeat go_step
          clear m3
          go_roundg (b + 1 - (i + 1))
          case measure => omega
          case rel => exact ⟨i + 1, by omega, Nat.le_refl _, by omega, by go_num, HON4, HB4, HS4, HK4, HG4⟩
    · have HF := Aside0.mk (HD.out i wr HR.out (by omega))
      go_wp2
      go_end0
      exact ⟨rfl, HF.out, HB1.out, HG1.out⟩
end Go.Proofs.Ytnlnglfjehohpaa.Q
