import Derived.Test.YtnlnglfjehohpaaSF
namespace Go.Proofs.Ytnlnglfjehohpaa.Q
open Go.RowKit Go.Proofs.YtnlnglfjehohpaaW Go.Proofs.YtnlnglfjehohpaaW.PrintWords Go.Proofs.YtnlnglfjehohpaaW.PrintLast Go.Proofs.YtnlnglfjehohpaaW.PrintMore
set_option linter.unusedVariables false
set_option linter.unusedSimpArgs false
/-- x goes up through B1. -/
def Upw (P B1 R : List Int) (x : Int) (k : Nat) (J : List Int → Prop) : Prop := ∃ U V, U ++ V = B1 ∧ P.length + U.length = k ∧ J (P ++ (U ++ (x :: (V ++ R))))
theorem Upw.start {P B1 R : List Int} {x : Int} {k : Nat} {J : List Int → Prop} (hk : P.length = k) (h : J (P ++ (x :: (B1 ++ R)))) : Upw P B1 R x k J := ⟨[], B1, rfl, by simpa using hk, h⟩
theorem Upw.open {P B1 R : List Int} {x : Int} {k : Nat} {J : List Int → Prop} (h : Upw P B1 R x k J) (hk : k < P.length + B1.length) :
    ∃ A0 B0 y, A0.length = k ∧ J (A0 ++ x :: y :: B0) ∧ ∀ J' : List Int → Prop, J' (A0 ++ y :: x :: B0) → Upw P B1 R x (k + 1) J' := by
  obtain ⟨U, V, rfl, h2, h3⟩ := h
  rw [List.length_append] at hk
  match V, h3 with
  | [], _ => simp at hk; omega
  | y :: V, h3 =>
    refine ⟨P ++ U, V ++ R, y, by rw [List.length_append]; omega, by simpa only [List.append_assoc, List.cons_append] using h3, fun J' hJ => ⟨U ++ [y], V, by simp, by simp; omega, ?_⟩⟩
    simpa only [List.append_assoc, List.cons_append, List.nil_append] using hJ
theorem Upw.done {P B1 B2 Q : List Int} {x : Int} {k : Nat} {J : List Int → Prop} (h : Upw P B1 (B2 ++ Q) x k J) (hk : P.length + B1.length ≤ k) : J (P ++ ((B1 ++ x :: B2) ++ Q)) := by
  obtain ⟨U, V, rfl, h2, h3⟩ := h
  rw [List.length_append] at hk
  have hV : V = [] := List.length_eq_zero_iff.1 (by omega)
  subst hV
  simpa only [List.append_nil, List.append_assoc, List.cons_append, List.nil_append] using h3
theorem gt_mid (U B Q : List Int) (h k : Nat) (h1 : U.length + k = h) (h2 : k < B.length) : gt (U ++ (B ++ Q)) h = gt B k := by
  subst h1; rw [gt_right, gt_left _ _ _ h2]
def reg43.T5 : Bool × List (List Nat × List Nat) := (true, [([], []), ([], []), ([], []), ([1, 2], [1, 2]), ([3], [3]), ([], []), ([], []), ([5, 6], [5, 6]), ([7], [7]), ([0, 4, 8], [0, 4, 8]), ([9], [9])])
def reg43.B5 : List Nat := [0, 0, 0, 6, 14, 0, 0, 96, 224, 511, 1023]
theorem reg43.tab5 : rtab .any (opsOf Try.f43 5) = reg43.T5 := by kernel_rfl
theorem reg43.bits5 : waitsOk reg43.T5.2 reg43.B5 = true := by kernel_rfl
def reg43.T11 : Bool × List (List Nat × List Nat) := (true, [([], []), ([], []), ([], []), ([], []), ([3], [3]), ([], []), ([], []), ([6], [6]), ([5, 7], [5, 7]), ([8], [8]), ([], []), ([], []), ([10, 11], [10, 11]), ([12], [12]), ([0, 1, 0, 1, 5, 6, 7, 8, 9, 13], [0, 1]), ([14, 9, 0, 1, 5, 6, 7, 8, 9, 13], [9, 14]), ([2, 4, 0, 1, 2, 3, 4, 5, 6, 7, 8, 9, 10, 11, 12, 13, 14, 15], [2, 4]), ([16, 13, 15, 0, 1, 2, 3, 4, 5, 6, 7, 8, 9, 10, 11, 12, 13, 14, 15], [13, 16])])
def reg43.B11 : List Nat := [0, 0, 0, 0, 8, 0, 0, 64, 224, 480, 0, 0, 3072, 7168, 16355, 32739, 65535, 131071]
theorem reg43.tab11 : rtab .any (opsOf Try.f43 11) = reg43.T11 := by kernel_rfl
theorem reg43.bits11 : waitsOk reg43.T11.2 reg43.B11 = true := by kernel_rfl
set_option maxRecDepth 100000 in
set_option maxHeartbeats 3200000 in
theorem sym_one (BX : Nat) (key : Int → Int) (dom : Int → Prop) (K : World → Prop) (A : Option Addr) (c L base : Nat) (ok : Nat → Prop) (w0 w : World) (hC : CmpI 36 BX key dom (Value.slice A L c).ownBlock K) (hK : K w)
    (P B Q : List Int) (x : Int) (hdx : dom x) (hdb : ∀ y ∈ B, dom y) (hSB : Sorted key B) (HO : KI.R 3 w base ok (.slice A L c) (P ++ (x :: (B ++ Q)))) (hB : Below base w0 w) (hbase : base ≤ w.heap.size) (hl : L < 1000) (a m b : Nat) (ha : P.length = a) (hm : a + 1 = m) (hb : m + B.length = b) :
    Calls Try.prog 43 #[.slice A L c, .int .i64 (a : Int), .int .i64 (m : Int), .int .i64 (b : Int), .func (.func 36) #[] #[.pointer (some ⟨BX, 0, none⟩)]] w fun e w' =>
      e = .returned (.tuple #[]) ∧ (∃ S : List Int, S.Perm (x :: B) ∧ Sorted key S ∧ KI.R 3 w' base ok (.slice A L c) (P ++ (S ++ Q))) ∧ Below base w0 w' ∧ w.grownBy w' (Value.slice A L c).ownBlock := by
  have hlen : a + 1 + B.length + Q.length = L := by
    have := (Kd.R_reads' HO).1
    simp only [List.length_append, List.length_cons] at this; omega
  have hab : b ≤ L ∧ m ≤ b := by omega
  have H0 := Aside0.mk HO
  have BB := Aside0.mk hB
  have BS := Aside0.mk hbase
  have HC := Aside0.mk hC
  have HK := Aside0.mk hK
  have HDX := Aside0.mk hdx
  have HDB := Aside0.mk hdb
  have HSB := Aside0.mk hSB
  have HAA := Aside0.mk ha
  have HBB := Aside0.mk hb
  have HMM := Aside0.mk hm
  have HMON := Aside0.mk (show Mon (fun t => key (gt B (t - m)) < key x) m (m + B.length) from fun s t h1 h2 h3 h4 => Int.lt_of_le_of_lt (Sorted.gt hSB (show s - m ≤ t - m by omega) (by omega)) h4)
  have HST := Aside0.mk (Cut.start (fun t => key (gt B (t - m)) < key x) m (m + B.length) (by omega))
  rw [hb] at HST HMON
  have w1 : IntKind.i64.wrap ((m : Int) - (a : Int)) = 1 := by rw [IntKind.wrap_i64]; omega
  clear HO hB hbase hC hK hdx hdb hSB hlen ha hb hm
  go_enter Try.func43, Try.ntmps43
  go_wp2
  clear w1
  go_loopg [10, 11, 12] (b - m) (fun gg s10 s11 s12 wr => ∃ i j : Nat, i ≤ j ∧ j - i ≤ gg ∧ m ≤ i ∧ j ≤ b ∧ s10 = .int .i64 i ∧ s11 = .int .i64 j ∧ Aside0 (Cut (fun t => key (gt B (t - m)) < key x) m b i j) ∧ Aside0 (KI.R 3 wr base ok (.slice A L c) (P ++ (x :: (B ++ Q)))) ∧ Aside0 (Below base w0 wr) ∧ Aside0 (base ≤ wr.heap.size) ∧ Aside0 (K wr) ∧ Aside0 (w.grownBy wr (Value.slice A L c).ownBlock))
  case atStart =>
    exact ⟨m, b, hab.2, Nat.le_refl _, Nat.le_refl _, Nat.le_refl _, rfl, rfl, HST, H0, BB, BS, HK, ⟨World.grownBy.refl _ _⟩⟩
  case round =>
    clear H0 BB BS HK HST
    obtain ⟨i, j, hij, hgg, hmi, hjb, rfl, rfl, HCUT, HR, HB1, HS1, HK1, HG1⟩ := hrel
    by_cases hlt : i < j
    · obtain ⟨h, hh⟩ : ∃ h : Nat, (i + j) / 2 = h := ⟨_, rfl⟩
      have h1 : i ≤ h := by omega
      have h2 : h < j := by omega
      go_upto_region 5 with fail
      have hh' : ((i : Int) + (j : Int)) / 2 = (h : Int) := by omega
      rw [hh']
      obtain ⟨y, hy⟩ : ∃ y, gt B (h - m) = y := ⟨_, rfl⟩
      have e1 : gt (P ++ (x :: (B ++ Q))) h = y := by
        rw [← hy, show P ++ (x :: (B ++ Q)) = (P ++ [x]) ++ (B ++ Q) by simp]
        exact gt_mid _ _ _ _ _ (by have := HAA.out; have := HMM.out; rw [List.length_append, List.length_singleton]; omega) (by have := HBB.out; omega)
      have e2 : gt (P ++ (x :: (B ++ Q))) a = x := gt_at _ _ _ _ HAA.out
      have hdy : dom y := HDB.out y (hy ▸ gt_mem _ _ (by have := HBB.out; omega))
      have hrl := (Kd.R_reads' HR.out).1
      have hLL : a < L ∧ h < L := by have := HMM.out; omega
      obtain ⟨g, rfl, hg0, g1⟩ := row_cell HR.out h (by omega)
      obtain ⟨g', hg', _, g2⟩ := row_cell HR.out a (by omega)
      injection hg' with hg'
      injection hg' with hg'
      subst hg'
      rw [e1] at g1
      rw [e2] at g2
      have q1 : ((h : Int) < (L : Int)) = True := eq_true (by omega)
      have q2 : ((a : Int) < (L : Int)) = True := eq_true (by omega)
      have q3 : (0 ≤ (h : Int)) = True := eq_true (by omega)
      have q4 : (0 ≤ (a : Int)) = True := eq_true (by omega)
      have hcall := Aside0.mk (fun (w' : World) (hb : Below wr.heap.size wr w') => HC.out.says w' y x (HC.out.lasts _ _ HK1.out (grown_below (World.grownBy.refl _ _) hb)) hdy HDX.out)
      have HUP := Aside0.mk (fun hl : key y < key x => Cut.up HMON.out HCUT.out h1 h2 (show key (gt B (h - m)) < key x from hy ▸ hl))
      have HDN := Aside0.mk (fun hl : ¬ key y < key x => Cut.down HMON.out HCUT.out h1 h2 (show ¬ key (gt B (h - m)) < key x from hy ▸ hl))
      clear e1 e2 hdy hrl hLL hy HCUT
      refine start_ (n := 11) (S := fun w' => (w'.cell? ⟨g, h, none⟩ = some (.int .i64 y) ∧ w'.cell? ⟨g, a, none⟩ = some (.int .i64 x)) ∧ Aside0 (Below wr.heap.size wr w')) (ds := [10]) #[false, false, false, false, false, false, false, false, false, false, false] rfl rfl rfl ⟨⟨g1, g2⟩, ⟨(Below.refl _ _).drew⟩⟩ (fun hHeld => ?_)
      refine with_tabW reg43.tab5 reg43.bits5 (fun HT_ HW_ => ?_)
      obtain ⟨hHeld, HBW⟩ := hHeld
      refine pz_ 0 40 HT_ ?_
      refine pz_ 1 41 HT_ ?_
      refine pz_ 2 42 HT_ ?_
      refine pz_ 3 43 HT_ ?_
      refine tz_ 4 44 HT_ HW_ ⟨hHeld, HBW⟩ ?_
      refine pz_ 5 45 HT_ ?_
      refine pz_ 6 46 HT_ ?_
      refine pz_ 7 47 HT_ ?_
      refine tz_ 8 48 HT_ HW_ ⟨hHeld, HBW⟩ ?_
      refine oz_ 9 49 HT_ (fun K' hK' => ?_)
      refine goesv_ Try.func36 (by kernel_rfl) rfl #[.int .i64 y, .int .i64 x, .pointer (some ⟨BX, 0, none⟩)] #[.pointer (some ⟨BX, 0, none⟩)] (by rfl) rfl rfl rfl ma_ ?_
      refine (hcall.out _ HBW.out).mono ?_
      rintro e w4 ⟨rfl, hb4⟩
      refine ⟨_, rfl, hK'.out _ _ ⟨⟨hh_ hb4 hHeld.1, hh_ hb4 hHeld.2⟩, ⟨HBW.out.trans (hb4.mono HBW.out.size)⟩⟩ (fun hHeld4 => ?_)⟩
      clear hK' K'
      obtain ⟨hHeld4, HBW4⟩ := hHeld4
      clear hb4 hHeld4
      generalize hwd : wr.drew = wd at hHeld HBW
      clear hHeld HBW hwd hcall g1 g2
      have HRN := Aside0.mk (Kd.R_below HR.out HBW4.out)
      have HBN := Aside0.mk (HB1.out.trans (HBW4.out.mono HS1.out))
      have HGN := Aside0.mk (grown_below HG1.out HBW4.out)
      have HSN := Aside0.mk (Nat.le_trans HS1.out HBW4.out.size)
      have HKN := Aside0.mk (HC.out.lasts _ _ HK1.out (grown_below (World.grownBy.refl _ _) HBW4.out))
      clear HR HB1 HG1 HS1 HK1 HBW4
      by_cases hlt2 : key y < key x
      · have hc3 : cmp3 (key y) (key x) = -1 := by unfold cmp3; rw [if_pos hlt2]
        rw [hc3]
        refine pz_ 10 50 HT_ ?_
        refine done_ (done_of HT_.out (by kernel_rfl)) ?_
        clear HT_ HW_ hc3 q1 q2 q3 q4
        have HCN := Aside0.mk (HUP.out hlt2)
        clear HUP HDN
        have m3 : IntKind.i64.wrap ((h : Int) + 1) = ((h + 1 : Nat) : Int) := by rw [IntKind.wrap_i64]; omega
        go_upto_region 6 with (fail)
        repeat go_step
        clear m3
        go_roundg (j - (h + 1))
        case measure => omega
        case rel => exact ⟨h + 1, j, by omega, Nat.le_refl _, by omega, hjb, by go_num, rfl, HCN, HRN, HBN, HSN, HKN, HGN⟩
      · have hc3 : 0 ≤ cmp3 (key y) (key x) := by unfold cmp3; rw [if_neg hlt2]; split <;> omega
        obtain ⟨cc, hcc⟩ : ∃ cc, cmp3 (key y) (key x) = cc := ⟨_, rfl⟩
        rw [hcc] at hc3 ⊢
        have qc : (cc < 0) = False := eq_false (by omega)
        refine pz_ 10 50 HT_ ?_
        refine done_ (done_of HT_.out (by kernel_rfl)) ?_
        clear HT_ HW_ hc3 q1 q2 q3 q4 qc hcc
        have HCN := Aside0.mk (HDN.out hlt2)
        clear HUP HDN
        go_upto_region 7 with (fail)
        repeat go_step
        go_roundg (h - i)
        case measure => omega
        case rel => exact ⟨i, h, by omega, Nat.le_refl _, by omega, by omega, rfl, by go_num, HCN, HRN, HBN, HSN, HKN, HGN⟩
    · have hii : j = i := by omega
      subst hii
      obtain ⟨B1, B2, hBB, hbl, hsrt⟩ := one_left HSB.out (HBB.out.symm ▸ HCUT.out : Cut (fun t => key (gt B (t - m)) < key x) m (m + B.length) j j)
      have HPM := Aside0.mk (show (B1 ++ x :: B2).Perm (x :: B) by rw [hBB]; exact List.perm_middle)
      have HSO := Aside0.mk hsrt
      obtain ⟨e, he⟩ : ∃ e, a + B1.length = e := ⟨_, rfl⟩
      have HPE := Aside0.mk (show P.length + B1.length = e by rw [HAA.out]; exact he)
      have hej : e + 1 = j := by have := HMM.out; omega
      have hae : a ≤ e ∧ e < L := by omega
      have HU := Aside0.mk (show Upw P B1 (B2 ++ Q) x a (fun l => KI.R 3 wr base ok (.slice A L c) l) from Upw.start HAA.out (by have := HR.out; rw [hBB] at this; simpa only [List.append_assoc] using this))
      have w2 : IntKind.i64.wrap ((j : Int) - 1) = (e : Int) := by rw [IntKind.wrap_i64]; omega
      clear HR HCUT hsrt hbl hBB he hlt
      go_upto_region 8 with (fail)
      go_wp2
      clear w2
      go_loopg [13] (e - a) (fun gg s13 wr => ∃ k : Nat, a ≤ k ∧ e - k ≤ gg ∧ k ≤ e ∧ s13 = .int .i64 k ∧ Aside0 (Upw P B1 (B2 ++ Q) x k (fun l => KI.R 3 wr base ok (.slice A L c) l)) ∧ Aside0 (Below base w0 wr) ∧ Aside0 (base ≤ wr.heap.size) ∧ Aside0 (w.grownBy wr (Value.slice A L c).ownBlock))
      case atStart => exact ⟨a, Nat.le_refl _, Nat.le_refl _, hae.1, rfl, HU, HB1, HS1, HG1⟩
      case round =>
        clear HU HB1 HS1 HK1 HG1
        obtain ⟨k, hak, hgk, hke, rfl, HU, HB1, HS1, HG1⟩ := hrel
        have w2 : IntKind.i64.wrap ((j : Int) - 1) = (e : Int) := by rw [IntKind.wrap_i64]; omega
        by_cases hlt : k < e
        · obtain ⟨A0, B0, y, hk, hrow, hnext⟩ := HU.out.open (show k < P.length + B1.length by have := HPE.out; omega)
          have hrd := Kd.R_drew hrow
          obtain ⟨g, rfl, hg0, g1, g2, z2, ⟨zz, g3⟩, z3, hrow5, hgr5⟩ := adj_up base ok _ A L c A0 B0 x y k hk (Kd.R_reads' hrow).1.symm hrd
          have HRN := Aside0.mk (hnext _ hrow5)
          have HGR := Aside0.mk hgr5
          have HB4 := Aside0.mk HB1.out.drew
          have HS4 := Aside0.mk (show base ≤ wr.drew.heap.size from HS1.out)
          have HG4 := Aside0.mk (HG1.out.trans (grown_drew_any wr _))
          have w1 : IntKind.i64.wrap ((k : Int) + 1) = ((k + 1 : Nat) : Int) := by rw [IntKind.wrap_i64]; omega
          have q1 : (0 ≤ (k : Int)) = True := eq_true (by omega)
          have q2 : (0 ≤ (k : Int) + 1) = True := eq_true (by omega)
          have q3 : ((k : Int) + 1 < (L : Int)) = True := eq_true (by omega)
          have q4 : ((k : Int) < (L : Int)) = True := eq_true (by omega)
          have t1 : ((k : Int) + 1).toNat = k + 1 := by omega
          clear hrd hrow hnext hrow5 hgr5 HU HB1 HS1 HG1 hk
          go_upto_region 11 with (fail)
          clear w2
          refine start_ (n := 18) (S := fun w' => w'.cell? ⟨g, k, none⟩ = some (.int .i64 x) ∧ w'.cell? ⟨g, k + 1, none⟩ = some (.int .i64 y)) (ds := [15, 17]) #[false, false, false, false, false, false, false, false, false, false, false, false, false, false, false, false, false, false] rfl rfl rfl ⟨g1, g2⟩ (fun hHeld => ?_)
          refine with_tabW reg43.tab11 reg43.bits11 (fun HT_ HW_ => ?_)
          generalize wr.drew = w5 at *
          refine pz_ 0 61 HT_ ?_
          refine pz_ 1 62 HT_ ?_
          refine pz_ 2 63 HT_ ?_
          refine pz_ 3 64 HT_ ?_
          refine pz_ 4 65 HT_ ?_
          refine pz_ 5 66 HT_ ?_
          refine pz_ 6 67 HT_ ?_
          refine pz_ 7 68 HT_ ?_
          refine pz_ 8 69 HT_ ?_
          refine tz_ 9 70 HT_ HW_ hHeld ?_
          refine pz_ 10 71 HT_ ?_
          refine pz_ 11 72 HT_ ?_
          refine pz_ 12 73 HT_ ?_
          refine tz_ 13 74 HT_ HW_ hHeld ?_
          refine pz_ 14 75 HT_ ?_
          refine last_ (i := 15) (N := none) #[true, true, true, true, true, true, true, true, true, true, true, true, true, true, true, true, false, false] rfl rfl (one_of HT_.out (by kernel_rfl)) (by decide) (fun K' hK => ?_)
          refine skip_ (w1 := ?_) (by rfl) rfl ?_ ?_
          rotate_left
          · go_simp
            rfl
          refine hK.out _ _ ?_
          clear hK K'
          refine pz_ 16 76 HT_ ?_
          refine last_ (i := 17) (N := none) #[true, true, true, true, true, true, true, true, true, true, true, true, true, true, true, true, true, true] rfl rfl (one_of HT_.out (by kernel_rfl)) (by decide) (fun K' hK => ?_)
          refine skip_ (w1 := ?_) (by rfl) rfl ?_ ?_
          rotate_left
          · go_simp
            rfl
          refine hK.out _ _ ?_
          clear hK K'
          refine done_ (done_of HT_.out (by kernel_rfl)) ?_
          clear HT_ HW_ hHeld
          have HBN := Aside0.mk (HB4.out.grown HGR.out HS4.out (fun k hk => by injection hk with hk; subst hk; exact hg0))
          have HSN := Aside0.mk (Nat.le_trans HS4.out HGR.out.size)
          have HGN := Aside0.mk (HG4.out.trans HGR.out)
          clear HGR HB4 HG4 HS4 g1 g2 g3 z2 z3 q1 q2 q3 q4 t1
          generalize (w5.setCell ⟨g, k, none⟩ (Value.int IntKind.i64 y)).setCell ⟨g, k + 1, none⟩ (Value.int IntKind.i64 x) = w7 at *
          go_upto_region 10 with (fail)
          repeat go_step
          clear w1
          go_roundg (e - (k + 1))
          case measure => omega
          case rel => exact ⟨k + 1, by omega, Nat.le_refl _, by omega, by go_num, HRN, HBN, HSN, HGN⟩
        · have HFIN := Aside0.mk (HU.out.done (show P.length + B1.length ≤ k by have := HPE.out; omega))
          have hke2 : e = k := by omega
          subst hke2
          clear HU
          go_wp2
          refine bodyPost_ret (results_none rfl _ _ _) rfl ?_
          exact ⟨rfl, ⟨_, HPM.out, HSO.out, HFIN.out⟩, HB1.out, HG1.out⟩
end Go.Proofs.Ytnlnglfjehohpaa.Q
