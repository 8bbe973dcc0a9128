import Derived.Test.YtnlnglfjehohpaaSG
namespace Go.Proofs.Ytnlnglfjehohpaa.Q
open Go.RowKit Go.Proofs.YtnlnglfjehohpaaW Go.Proofs.YtnlnglfjehohpaaW.PrintWords Go.Proofs.YtnlnglfjehohpaaW.PrintLast Go.Proofs.YtnlnglfjehohpaaW.PrintMore
set_option linter.unusedVariables false
set_option linter.unusedSimpArgs false
/-- y goes down through A2. -/
def Dnw (P A1 A2 R : List Int) (y : Int) (k : Nat) (J : List Int → Prop) : Prop := ∃ U V, U ++ V = A2 ∧ P.length + A1.length + U.length = k ∧ J (P ++ (A1 ++ (U ++ (y :: (V ++ R)))))
theorem Dnw.start {P A1 A2 R : List Int} {y : Int} {k : Nat} {J : List Int → Prop} (hk : P.length + A1.length + A2.length = k) (h : J (P ++ ((A1 ++ A2) ++ (y :: R)))) : Dnw P A1 A2 R y k J :=
  ⟨A2, [], by simp, hk, by simpa only [List.append_assoc, List.nil_append] using h⟩
theorem Dnw.open {P A1 A2 R : List Int} {y : Int} {k : Nat} {J : List Int → Prop} (h : Dnw P A1 A2 R y k J) (hk : P.length + A1.length < k) :
    ∃ A0 B0 u, A0.length + 1 = k ∧ J (A0 ++ u :: y :: B0) ∧ ∀ J' : List Int → Prop, J' (A0 ++ y :: u :: B0) → Dnw P A1 A2 R y (k - 1) J' := by
  obtain ⟨U, V, rfl, h2, h3⟩ := h
  rcases List.eq_nil_or_concat U with rfl | ⟨U, u, rfl⟩
  · simp at h2; omega
  rw [List.concat_eq_append] at *
  rw [List.length_append, List.length_singleton] at h2
  refine ⟨P ++ (A1 ++ U), V ++ R, u, by simp only [List.length_append]; omega, by simpa only [List.append_assoc, List.cons_append, List.nil_append] using h3, fun J' hJ => ⟨U, u :: V, by simp, by omega, ?_⟩⟩
  simpa only [List.append_assoc, List.cons_append, List.nil_append] using hJ
theorem Dnw.done {P A1 A2 R : List Int} {y : Int} {k : Nat} {J : List Int → Prop} (h : Dnw P A1 A2 R y k J) (hk : k ≤ P.length + A1.length) : J (P ++ ((A1 ++ y :: A2) ++ R)) := by
  obtain ⟨U, V, rfl, h2, h3⟩ := h
  have hU : U = [] := List.length_eq_zero_iff.1 (by omega)
  subst hU
  simpa only [List.append_nil, List.append_assoc, List.cons_append, List.nil_append] using h3
def geR (key : Int → Int) (AA : List Int) (y : Int) (a : Nat) (t : Nat) : Prop := ¬ key y < key (gt AA (t - a))
def reg43.T17 : Bool × List (List Nat × List Nat) := (true, [([], []), ([], []), ([], []), ([1, 2], [1, 2]), ([3], [3]), ([], []), ([], []), ([5, 6], [5, 6]), ([7], [7]), ([0, 4, 8], [0, 4, 8]), ([9], [9]), ([10], [10])])
def reg43.B17 : List Nat := [0, 0, 0, 6, 14, 0, 0, 96, 224, 511, 1023, 2047]
theorem reg43.tab17 : rtab .any (opsOf Try.f43 17) = reg43.T17 := by kernel_rfl
theorem reg43.bits17 : waitsOk reg43.T17.2 reg43.B17 = true := by kernel_rfl
def reg43.T23 : Bool × List (List Nat × List Nat) := (true, [([], []), ([], []), ([], []), ([], []), ([3], [3]), ([], []), ([], []), ([6], [6]), ([5, 7], [5, 7]), ([8], [8]), ([], []), ([], []), ([10, 11], [10, 11]), ([12], [12]), ([0, 1, 0, 1, 5, 6, 7, 8, 9, 13], [0, 1]), ([14, 9, 0, 1, 5, 6, 7, 8, 9, 13], [9, 14]), ([2, 4, 0, 1, 2, 3, 4, 5, 6, 7, 8, 9, 10, 11, 12, 13, 14, 15], [2, 4]), ([16, 13, 15, 0, 1, 2, 3, 4, 5, 6, 7, 8, 9, 10, 11, 12, 13, 14, 15], [13, 16])])
def reg43.B23 : List Nat := [0, 0, 0, 0, 8, 0, 0, 64, 224, 480, 0, 0, 3072, 7168, 16355, 32739, 65535, 131071]
theorem reg43.tab23 : rtab .any (opsOf Try.f43 23) = reg43.T23 := by kernel_rfl
theorem reg43.bits23 : waitsOk reg43.T23.2 reg43.B23 = true := by kernel_rfl
set_option maxRecDepth 100000 in
set_option maxHeartbeats 3200000 in
theorem sym_last (BX : Nat) (key : Int → Int) (dom : Int → Prop) (K : World → Prop) (A : Option Addr) (c L base : Nat) (ok : Nat → Prop) (w0 w : World) (hC : CmpI 36 BX key dom (Value.slice A L c).ownBlock K) (hK : K w)
    (P AA Q : List Int) (y : Int) (hdy : dom y) (hda : ∀ x ∈ AA, dom x) (hSA : Sorted key AA) (HO : KI.R 3 w base ok (.slice A L c) (P ++ (AA ++ (y :: Q)))) (hB : Below base w0 w) (hbase : base ≤ w.heap.size) (hl : L < 1000) (a m b : Nat) (ha : P.length = a) (hm : a + AA.length = m) (hb : m + 1 = b) (h2 : a + 2 ≤ m) :
    Calls Try.prog 43 #[.slice A L c, .int .i64 (a : Int), .int .i64 (m : Int), .int .i64 (b : Int), .func (.func 36) #[] #[.pointer (some ⟨BX, 0, none⟩)]] w fun e w' =>
      e = .returned (.tuple #[]) ∧ (∃ S : List Int, S.Perm (AA ++ [y]) ∧ Sorted key S ∧ KI.R 3 w' base ok (.slice A L c) (P ++ (S ++ Q))) ∧ Below base w0 w' ∧ w.grownBy w' (Value.slice A L c).ownBlock := by
  have hlen : a + AA.length + 1 + Q.length = L := by
    have := (Kd.R_reads' HO).1
    simp only [List.length_append, List.length_cons] at this; omega
  have hab : m < L ∧ a ≤ m := by omega
  have H0 := Aside0.mk HO
  have BB := Aside0.mk hB
  have BS := Aside0.mk hbase
  have HC := Aside0.mk hC
  have HK := Aside0.mk hK
  have HDY := Aside0.mk hdy
  have HDA := Aside0.mk hda
  have HSA := Aside0.mk hSA
  have HAA := Aside0.mk ha
  have HBB := Aside0.mk hb
  have HMM := Aside0.mk hm
  have HMON := Aside0.mk (show Mon (geR key AA y a) a (a + AA.length) from fun s t h1 h2 h3 h4 h5 => (show ¬ key y < key (gt AA (t - a)) from h4) (Int.lt_of_lt_of_le h5 (Sorted.gt hSA (show s - a ≤ t - a by omega) (by omega))))
  have HST := Aside0.mk (Cut.start (geR key AA y a) a (a + AA.length) (by omega))
  rw [hm] at HST HMON
  obtain ⟨d, hd⟩ : ∃ d, m - a = d := ⟨_, rfl⟩
  have w1 : IntKind.i64.wrap ((m : Int) - (a : Int)) = (d : Int) := by rw [IntKind.wrap_i64]; omega
  have w1b : ((d : Int) == 1) = false := by rw [beq_eq_false_iff_ne]; omega
  have w2 : IntKind.i64.wrap ((b : Int) - (m : Int)) = 1 := by rw [IntKind.wrap_i64]; omega
  clear HO hB hbase hC hK hdy hda hSA hlen ha hb hm hd h2
  go_enter Try.func43, Try.ntmps43
  go_wp2
  clear w1 w1b w2
  go_loopg [14, 15, 16] (m - a) (fun gg s14 s15 s16 wr => ∃ i j : Nat, i ≤ j ∧ j - i ≤ gg ∧ a ≤ i ∧ j ≤ m ∧ s14 = .int .i64 i ∧ s15 = .int .i64 j ∧ Aside0 (Cut (geR key AA y a) a m i j) ∧ Aside0 (KI.R 3 wr base ok (.slice A L c) (P ++ (AA ++ (y :: Q)))) ∧ Aside0 (Below base w0 wr) ∧ Aside0 (base ≤ wr.heap.size) ∧ Aside0 (K wr) ∧ Aside0 (w.grownBy wr (Value.slice A L c).ownBlock))
  case atStart =>
    exact ⟨a, m, hab.2, Nat.le_refl _, Nat.le_refl _, Nat.le_refl _, rfl, rfl, HST, H0, BB, BS, HK, ⟨World.grownBy.refl _ _⟩⟩
  case round =>
    clear H0 BB BS HK HST
    obtain ⟨i, j, hij, hgg, hmi, hjb, rfl, rfl, HCUT, HR, HB1, HS1, HK1, HG1⟩ := hrel
    by_cases hlt : i < j
    · obtain ⟨h, hh⟩ : ∃ h : Nat, (i + j) / 2 = h := ⟨_, rfl⟩
      have h1 : i ≤ h := by omega
      have h2 : h < j := by omega
      go_upto_region 17 with fail
      have hh' : ((i : Int) + (j : Int)) / 2 = (h : Int) := by omega
      rw [hh']
      obtain ⟨x, hx⟩ : ∃ x, gt AA (h - a) = x := ⟨_, rfl⟩
      have e1 : gt (P ++ (AA ++ (y :: Q))) h = x := by
        rw [← hx]
        exact gt_mid _ _ _ _ _ (by have := HAA.out; omega) (by have := HMM.out; omega)
      have e2 : gt (P ++ (AA ++ (y :: Q))) m = y := by rw [← List.append_assoc]; exact gt_at _ _ _ _ (by have := HAA.out; have := HMM.out; rw [List.length_append]; omega)
      have hdx : dom x := HDA.out x (hx ▸ gt_mem _ _ (by have := HMM.out; omega))
      have hrl := (Kd.R_reads' HR.out).1
      obtain ⟨g, rfl, hg0, g1⟩ := row_cell HR.out m (by omega)
      obtain ⟨g', hg', _, g2⟩ := row_cell HR.out h (by omega)
      injection hg' with hg'
      injection hg' with hg'
      subst hg'
      rw [e2] at g1
      rw [e1] at g2
      have q1 : ((h : Int) < (L : Int)) = True := eq_true (by omega)
      have q2 : ((m : Int) < (L : Int)) = True := eq_true (by omega)
      have q3 : (0 ≤ (h : Int)) = True := eq_true (by omega)
      have q4 : (0 ≤ (m : Int)) = True := eq_true (by omega)
      have hcall := Aside0.mk (fun (w' : World) (hb : Below wr.heap.size wr w') => HC.out.says w' y x (HC.out.lasts _ _ HK1.out (grown_below (World.grownBy.refl _ _) hb)) HDY.out hdx)
      have HDN := Aside0.mk (fun hl : key y < key x => Cut.down HMON.out HCUT.out h1 h2 (show ¬ geR key AA y a h from fun hn => (show ¬ key y < key (gt AA (h - a)) from hn) (hx ▸ hl)))
      have HUP := Aside0.mk (fun hl : ¬ key y < key x => Cut.up HMON.out HCUT.out h1 h2 (show geR key AA y a h from (show ¬ key y < key (gt AA (h - a)) from hx ▸ hl)))
      clear e1 e2 hdx hrl hx HCUT
      refine start_ (n := 12) (S := fun w' => (w'.cell? ⟨g, m, none⟩ = some (.int .i64 y) ∧ w'.cell? ⟨g, h, none⟩ = some (.int .i64 x)) ∧ Aside0 (Below wr.heap.size wr w')) (ds := [11]) #[false, false, false, false, false, false, false, false, false, false, false, false] rfl rfl rfl ⟨⟨g1, g2⟩, ⟨(Below.refl _ _).drew⟩⟩ (fun hHeld => ?_)
      refine with_tabW reg43.tab17 reg43.bits17 (fun HT_ HW_ => ?_)
      obtain ⟨hHeld, HBW⟩ := hHeld
      refine pz_ 0 92 HT_ ?_
      refine pz_ 1 93 HT_ ?_
      refine pz_ 2 94 HT_ ?_
      refine pz_ 3 95 HT_ ?_
      refine tz_ 4 96 HT_ HW_ ⟨hHeld, HBW⟩ ?_
      refine pz_ 5 97 HT_ ?_
      refine pz_ 6 98 HT_ ?_
      refine pz_ 7 99 HT_ ?_
      refine tz_ 8 100 HT_ HW_ ⟨hHeld, HBW⟩ ?_
      refine oz_ 9 101 HT_ (fun K' hK' => ?_)
      refine goesv_ Try.func36 (by kernel_rfl) rfl #[.int .i64 y, .int .i64 x, .pointer (some ⟨BX, 0, none⟩)] #[.pointer (some ⟨BX, 0, none⟩)] (by rfl) rfl rfl rfl ma_ ?_
      refine (hcall.out _ HBW.out).mono ?_
      rintro e w4 ⟨rfl, hb4⟩
      refine ⟨_, rfl, hK'.out _ _ ⟨⟨hh_ hb4 hHeld.1, hh_ hb4 hHeld.2⟩, ⟨HBW.out.trans (hb4.mono HBW.out.size)⟩⟩ (fun hHeld4 => ?_)⟩
      clear hK' K'
      obtain ⟨hHeld4, HBW4⟩ := hHeld4
      clear hb4 hHeld4
      generalize hwd : wr.drew = wd at hHeld HBW
      clear hHeld HBW hwd hcall g1 g2
      have HRN := Aside0.mk (Kd.R_below HR.out HBW4.out)
      have HBN := Aside0.mk (HB1.out.trans (HBW4.out.mono HS1.out))
      have HGN := Aside0.mk (grown_below HG1.out HBW4.out)
      have HSN := Aside0.mk (Nat.le_trans HS1.out HBW4.out.size)
      have HKN := Aside0.mk (HC.out.lasts _ _ HK1.out (grown_below (World.grownBy.refl _ _) HBW4.out))
      clear HR HB1 HG1 HS1 HK1 HBW4
      by_cases hlt2 : key y < key x
      · have hc3 : cmp3 (key y) (key x) = -1 := by unfold cmp3; rw [if_pos hlt2]
        rw [hc3]
        refine pz_ 10 102 HT_ ?_
        refine pz_ 11 103 HT_ ?_
        refine done_ (done_of HT_.out (by kernel_rfl)) ?_
        clear HT_ HW_ hc3 q1 q2 q3 q4
        have HCN := Aside0.mk (HDN.out hlt2)
        clear HUP HDN
        go_upto_region 19 with (fail)
        repeat go_step
        go_roundg (h - i)
        case measure => omega
        case rel => exact ⟨i, h, by omega, Nat.le_refl _, by omega, by omega, rfl, by go_num, HCN, HRN, HBN, HSN, HKN, HGN⟩
      · have hc3 : 0 ≤ cmp3 (key y) (key x) := by unfold cmp3; rw [if_neg hlt2]; split <;> omega
        obtain ⟨cc, hcc⟩ : ∃ cc, cmp3 (key y) (key x) = cc := ⟨_, rfl⟩
        rw [hcc] at hc3 ⊢
        have qc : (cc < 0) = False := eq_false (by omega)
        refine pz_ 10 102 HT_ ?_
        refine pz_ 11 103 HT_ ?_
        refine done_ (done_of HT_.out (by kernel_rfl)) ?_
        clear HT_ HW_ hc3 q1 q2 q3 q4 qc hcc
        have HCN := Aside0.mk (HUP.out hlt2)
        clear HUP HDN
        have m3 : IntKind.i64.wrap ((h : Int) + 1) = ((h + 1 : Nat) : Int) := by rw [IntKind.wrap_i64]; omega
        go_upto_region 18 with (fail)
        repeat go_step
        clear m3
        go_roundg (j - (h + 1))
        case measure => omega
        case rel => exact ⟨h + 1, j, by omega, Nat.le_refl _, by omega, hjb, by go_num, rfl, HCN, HRN, HBN, HSN, HKN, HGN⟩
    · have hii : j = i := by omega
      subst hii
      obtain ⟨A1, A2, hAA, hal, hsrt⟩ := one_right HSA.out (HMM.out.symm ▸ HCUT.out : Cut (geR key AA y a) a (a + AA.length) j j)
      have HPM := Aside0.mk (show (A1 ++ y :: A2).Perm (AA ++ [y]) by rw [hAA]; exact List.perm_middle.trans (List.perm_append_comm (l₁ := [y])))
      have HSO := Aside0.mk hsrt
      have HPE := Aside0.mk (show P.length + A1.length = j by rw [HAA.out]; exact hal)
      have HU := Aside0.mk (show Dnw P A1 A2 Q y m (fun l => KI.R 3 wr base ok (.slice A L c) l) from Dnw.start (by rw [HAA.out, Nat.add_assoc, ← List.length_append, ← hAA]; exact HMM.out) (by have := HR.out; rw [hAA] at this; exact this))
      clear HR HCUT hsrt hAA hal hlt
      go_upto_region 20 with (fail)
      go_wp2
      go_loopg [17] (m - j) (fun gg s17 wr => ∃ k : Nat, j ≤ k ∧ k - j ≤ gg ∧ k ≤ m ∧ s17 = .int .i64 k ∧ Aside0 (Dnw P A1 A2 Q y k (fun l => KI.R 3 wr base ok (.slice A L c) l)) ∧ Aside0 (Below base w0 wr) ∧ Aside0 (base ≤ wr.heap.size) ∧ Aside0 (w.grownBy wr (Value.slice A L c).ownBlock))
      case atStart => exact ⟨m, hjb, Nat.le_refl _, Nat.le_refl _, rfl, HU, HB1, HS1, HG1⟩
      case round =>
        clear HU HB1 HS1 HK1 HG1
        obtain ⟨k, hak, hgk, hke, rfl, HU, HB1, HS1, HG1⟩ := hrel
        by_cases hlt : j < k
        · obtain ⟨A0, B0, u, hk, hrow, hnext⟩ := HU.out.open (show P.length + A1.length < k by have := HPE.out; omega)
          obtain ⟨k, rfl⟩ : ∃ k', k = k' + 1 := ⟨k - 1, by omega⟩
          have hk : A0.length = k := by omega
          have w1 : IntKind.i64.wrap (((k : Int) + 1) - 1) = (k : Int) := by rw [IntKind.wrap_i64]; omega
          have q1 : (0 ≤ (k : Int)) = True := eq_true (by omega)
          have q2 : (0 ≤ (k : Int) + 1) = True := eq_true (by omega)
          have q3 : ((k : Int) + 1 < (L : Int)) = True := eq_true (by omega)
          have q4 : ((k : Int) < (L : Int)) = True := eq_true (by omega)
          have q5 : ((j : Int) < (k : Int) + 1) = True := eq_true (by omega)
          have t1 : ((k : Int) + 1).toNat = k + 1 := by omega
          have m2 : wrap64 (k : Int) = (k : Int) := by unfold wrap64; omega
          have hrd := Kd.R_drew hrow
          obtain ⟨g, rfl, hg0, g1, g2, z2, ⟨zz, g3⟩, z3, hrow5, hgr5⟩ := adj_down base ok _ A L c A0 B0 u y k hk (Kd.R_reads' hrow).1.symm hrd
          have HRN := Aside0.mk (hnext (fun l => KI.R 3 ((wr.drew.setCell ⟨g, k + 1, none⟩ (.int .i64 u)).setCell ⟨g, k, none⟩ (.int .i64 y)) base ok (.slice (some ⟨g, 0, none⟩) L c) l) hrow5)
          rw [Nat.add_sub_cancel] at HRN
          have HGR := Aside0.mk hgr5
          have HB4 := Aside0.mk HB1.out.drew
          have HS4 := Aside0.mk (show base ≤ wr.drew.heap.size from HS1.out)
          have HG4 := Aside0.mk (HG1.out.trans (grown_drew_any wr _))
          clear hrd hrow hnext hrow5 hgr5 HU HB1 HS1 HG1 hk
          go_upto_region 23 with (fail)
          refine start_ (n := 18) (S := fun w' => w'.cell? ⟨g, k, none⟩ = some (.int .i64 u) ∧ w'.cell? ⟨g, k + 1, none⟩ = some (.int .i64 y)) (ds := [15, 17]) #[false, false, false, false, false, false, false, false, false, false, false, false, false, false, false, false, false, false] rfl rfl rfl ⟨g1, g2⟩ (fun hHeld => ?_)
          refine with_tabW reg43.tab23 reg43.bits23 (fun HT_ HW_ => ?_)
          generalize wr.drew = w5 at *
          refine pz_ 0 113 HT_ ?_
          refine pz_ 1 114 HT_ ?_
          refine pz_ 2 115 HT_ ?_
          refine pz_ 3 116 HT_ ?_
          refine pz_ 4 117 HT_ ?_
          refine pz_ 5 118 HT_ ?_
          refine pz_ 6 119 HT_ ?_
          refine pz_ 7 120 HT_ ?_
          refine pz_ 8 121 HT_ ?_
          refine tz_ 9 122 HT_ HW_ hHeld ?_
          refine pz_ 10 123 HT_ ?_
          refine pz_ 11 124 HT_ ?_
          refine pz_ 12 125 HT_ ?_
          refine tz_ 13 126 HT_ HW_ hHeld ?_
          refine pz_ 14 127 HT_ ?_
          refine last_ (i := 15) (N := none) #[true, true, true, true, true, true, true, true, true, true, true, true, true, true, true, true, false, false] rfl rfl (one_of HT_.out (by kernel_rfl)) (by decide) (fun K' hK => ?_)
          refine skip_ (w1 := ?_) (by rfl) rfl ?_ ?_
          rotate_left
          · go_simp
            rfl
          refine hK.out _ _ ?_
          clear hK K'
          refine pz_ 16 128 HT_ ?_
          refine last_ (i := 17) (N := none) #[true, true, true, true, true, true, true, true, true, true, true, true, true, true, true, true, true, true] rfl rfl (one_of HT_.out (by kernel_rfl)) (by decide) (fun K' hK => ?_)
          refine skip_ (w1 := ?_) (by rfl) rfl ?_ ?_
          rotate_left
          · go_simp
            rfl
          refine hK.out _ _ ?_
          clear hK K'
          refine done_ (done_of HT_.out (by kernel_rfl)) ?_
          clear HT_ HW_ hHeld
          have HBN := Aside0.mk (HB4.out.grown HGR.out HS4.out (fun k hk => by injection hk with hk; subst hk; exact hg0))
          have HSN := Aside0.mk (Nat.le_trans HS4.out HGR.out.size)
          have HGN := Aside0.mk (HG4.out.trans HGR.out)
          clear HGR HB4 HG4 HS4 g1 g2 g3 z2 z3 q1 q2 q3 q4 q5 t1 m2
          generalize (w5.setCell ⟨g, k + 1, none⟩ (Value.int IntKind.i64 u)).setCell ⟨g, k, none⟩ (Value.int IntKind.i64 y) = w7 at *
          go_upto_region 22 with (fail)
          repeat go_step
          clear w1
          go_roundg (k - j)
          case measure => omega
          case rel => exact ⟨k, by omega, Nat.le_refl _, by omega, by go_num, HRN, HBN, HSN, HGN⟩
        · have HFIN := Aside0.mk (HU.out.done (show k ≤ P.length + A1.length by have := HPE.out; omega))
          have hke2 : j = k := by omega
          subst hke2
          clear HU
          go_wp2
          refine bodyPost_ret (results_none rfl _ _ _) rfl ?_
          exact ⟨rfl, ⟨_, HPM.out, HSO.out, HFIN.out⟩, HB1.out, HG1.out⟩
end Go.Proofs.Ytnlnglfjehohpaa.Q
