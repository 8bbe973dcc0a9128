import Derived.Test.YtnlnglfjehohpaaSH
namespace Go.Proofs.Ytnlnglfjehohpaa.Q
open Go.RowKit Go.Proofs.YtnlnglfjehohpaaW Go.Proofs.YtnlnglfjehohpaaW.PrintWords Go.Proofs.YtnlnglfjehohpaaW.PrintLast Go.Proofs.YtnlnglfjehohpaaW.PrintMore
set_option linter.unusedVariables false
set_option linter.unusedSimpArgs false
def geT (key : Int → Int) (AA B : List Int) (a m mid : Nat) (c : Nat) : Prop := ¬ key (gt B (mid + m - 1 - c - m)) < key (gt AA (c - a))
/-- What symMerge does with two sorted segments of together at most n. -/
def SymAt (BX : Nat) (key : Int → Int) (dom : Int → Prop) (K : World → Prop) (A : Option Addr) (c L base : Nat) (ok : Nat → Prop) (w0 : World) (n : Nat) : Prop :=
  ∀ (w : World) (P AA B Q : List Int) (a m b : Nat), K w → (∀ x ∈ AA, dom x) → (∀ x ∈ B, dom x) → Sorted key AA → Sorted key B → P.length = a → a + AA.length = m → m + B.length = b → 0 < AA.length → 0 < B.length → AA.length + B.length ≤ n →
    KI.R 3 w base ok (.slice A L c) (P ++ (AA ++ (B ++ Q))) → Below base w0 w → base ≤ w.heap.size →
    Calls Try.prog 43 #[.slice A L c, .int .i64 (a : Int), .int .i64 (m : Int), .int .i64 (b : Int), .func (.func 36) #[] #[.pointer (some ⟨BX, 0, none⟩)]] w fun e w' =>
      e = .returned (.tuple #[]) ∧ (∃ S : List Int, S.Perm (AA ++ B) ∧ Sorted key S ∧ KI.R 3 w' base ok (.slice A L c) (P ++ (S ++ Q))) ∧ Below base w0 w' ∧ w.grownBy w' (Value.slice A L c).ownBlock
/-- The world of a walk over the row. -/
structure Wr (K : World → Prop) (A : Option Addr) (c L base : Nat) (ok : Nat → Prop) (w0 w : World) (l : List Int) (W : World) : Prop where
  row : KI.R 3 W base ok (.slice A L c) l
  below : Below base w0 W
  size : base ≤ W.heap.size
  k : K W
  grown : w.grownBy W (Value.slice A L c).ownBlock
def reg43.T35 : Bool × List (List Nat × List Nat) := (true, [([], []), ([], []), ([], []), ([], []), ([2, 3], [2, 3]), ([1, 4], [1, 4]), ([5], [5]), ([], []), ([], []), ([7, 8], [7, 8]), ([9], [9]), ([0, 6, 10], [0, 6, 10]), ([11], [11]), ([12], [12])])
def reg43.B35 : List Nat := [0, 0, 0, 0, 12, 30, 62, 0, 0, 384, 896, 2047, 4095, 8191]
theorem reg43.tab35 : rtab .any (opsOf Try.f43 35) = reg43.T35 := by kernel_rfl
theorem reg43.bits35 : waitsOk reg43.T35.2 reg43.B35 = true := by kernel_rfl
set_option maxRecDepth 100000 in
set_option maxHeartbeats 6400000 in
theorem sym_step (BX : Nat) (key : Int → Int) (dom : Int → Prop) (K : World → Prop) (A : Option Addr) (c L base : Nat) (ok : Nat → Prop) (w0 : World) (hC : CmpI 36 BX key dom (Value.slice A L c).ownBlock K) (hl : L < 1000) (n : Nat)
    (hIH : SymAt BX key dom K A c L base ok w0 n) (w : World) (P AA B Q : List Int) (a m b : Nat) (hK : K w) (hda : ∀ x ∈ AA, dom x) (hdb : ∀ x ∈ B, dom x) (hSA : Sorted key AA) (hSB : Sorted key B) (ha : P.length = a) (hm : a + AA.length = m) (hb : m + B.length = b)
    (hA2 : 2 ≤ AA.length) (hB2 : 2 ≤ B.length) (hn : AA.length + B.length ≤ n + 1) (HO : KI.R 3 w base ok (.slice A L c) (P ++ (AA ++ (B ++ Q)))) (hB : Below base w0 w) (hbase : base ≤ w.heap.size) :
    Calls Try.prog 43 #[.slice A L c, .int .i64 (a : Int), .int .i64 (m : Int), .int .i64 (b : Int), .func (.func 36) #[] #[.pointer (some ⟨BX, 0, none⟩)]] w fun e w' =>
      e = .returned (.tuple #[]) ∧ (∃ S : List Int, S.Perm (AA ++ B) ∧ Sorted key S ∧ KI.R 3 w' base ok (.slice A L c) (P ++ (S ++ Q))) ∧ Below base w0 w' ∧ w.grownBy w' (Value.slice A L c).ownBlock := by
  have hlen : a + AA.length + B.length + Q.length = L := by
    have := (Kd.R_reads' HO).1
    simp only [List.length_append] at this; omega
  have W0 := Aside0.mk (show Wr K A c L base ok w0 w (P ++ (AA ++ (B ++ Q))) w from ⟨HO, hB, hbase, hK, World.grownBy.refl _ _⟩)
  obtain ⟨mid, hmid⟩ : ∃ mid, mid = (a + b) / 2 := ⟨_, rfl⟩
  have hab : a + 2 ≤ m ∧ m + 2 ≤ b ∧ b ≤ L := by omega
  have hmd : a < mid ∧ mid < b := by omega
  have HC := Aside0.mk hC
  have HIH := Aside0.mk hIH
  have HDA := Aside0.mk hda
  have HDB := Aside0.mk hdb
  have HSA := Aside0.mk hSA
  have HSB := Aside0.mk hSB
  have HAA := Aside0.mk ha
  have HBB := Aside0.mk hb
  have HMM := Aside0.mk hm
  have HMID := Aside0.mk hmid
  have HNN := Aside0.mk hn
  have HMON := Aside0.mk (fun lo hi (h1 : lo = if mid < m then mid + m - b else a) (h2 : hi = if mid < m then mid else m) => (show Mon (geT key AA B a m mid) lo hi from two_mon hSA hSB hm hb hmid h1 h2))
  obtain ⟨nn, hnn⟩ : ∃ nn, mid + m = nn := ⟨_, rfl⟩
  obtain ⟨la, hla⟩ : ∃ la, AA.length = la := ⟨_, rfl⟩
  obtain ⟨lb, hlb⟩ : ∃ lb, B.length = lb := ⟨_, rfl⟩
  have w1 : IntKind.i64.wrap ((m : Int) - (a : Int)) = (la : Int) := by rw [IntKind.wrap_i64]; omega
  have w1b : ((la : Int) == 1) = false := by rw [beq_eq_false_iff_ne]; omega
  have w2 : IntKind.i64.wrap ((b : Int) - (m : Int)) = (lb : Int) := by rw [IntKind.wrap_i64]; omega
  have w2b : ((lb : Int) == 1) = false := by rw [beq_eq_false_iff_ne]; omega
  have w3 : IntKind.i64.wrap ((mid : Int) + (m : Int)) = (nn : Int) := by rw [IntKind.wrap_i64]; omega
  clear HO hB hbase hC hK hda hdb hSA hSB hlen hn hIH hA2 hB2 ha hb hm hla hlb
  go_enter Try.func43, Try.ntmps43
  go_upto_region 25 with (fail)
  have hh' : ((a : Int) + (b : Int)) / 2 = (mid : Int) := by omega
  rw [hh']
  clear hh' w1 w1b w2 w2b hmid
  go_upto_if 140 with (fail)
  clear w3
  go_cut [20, 21] from 220 (fun v20 v21 wc => ∃ lo hi : Nat, lo = (if mid < m then mid + m - b else a) ∧ hi = (if mid < m then mid else m) ∧ v20 = .int .i64 lo ∧ v21 = .int .i64 hi ∧ w = wc)
  case first =>
    by_cases hlt : mid < m
    · have hq : ((mid : Int) < (m : Int)) = True := eq_true (by omega)
      have w4 : IntKind.i64.wrap ((nn : Int) - (b : Int)) = ((mid + m - b : Nat) : Int) := by rw [IntKind.wrap_i64]; have := HMID.out; omega
      go_wp2
      go_meet
      exact ⟨mid + m - b, mid, by rw [if_pos hlt], by rw [if_pos hlt], by rw [hnn], rfl, rfl⟩
    · have hq : ((mid : Int) < (m : Int)) = False := eq_false (by omega)
      go_wp2
      go_meet
      exact ⟨a, m, by rw [if_neg hlt], by rw [if_neg hlt], rfl, rfl, rfl⟩
  case rest =>
    obtain ⟨lo, hi, hlo, hhi, rfl, rfl, rfl⟩ := hcut
    have hll : a ≤ lo ∧ lo ≤ hi ∧ hi ≤ m ∧ hi ≤ mid ∧ nn ≤ b + lo := by have := HMID.out; split at hlo <;> split at hhi <;> omega
    have HLO := Aside0.mk hlo
    have HHI := Aside0.mk hhi
    have HM2 := Aside0.mk (HMON.out lo hi hlo hhi)
    have HST := Aside0.mk (Cut.start (geT key AA B a m mid) lo hi hll.2.1)
    obtain ⟨p, hp⟩ : ∃ p, nn = p + 1 := ⟨nn - 1, by omega⟩
    have w1 : IntKind.i64.wrap ((nn : Int) - 1) = (p : Int) := by rw [IntKind.wrap_i64]; omega
    have HPP := Aside0.mk hp
    clear hlo hhi HMON hp
    go_upto_region 32 with (fail)
    go_wp2
    clear w1
    go_loopg [20, 21, 23] (hi - lo) (fun gg s20 s21 s23 wr => ∃ i j : Nat, i ≤ j ∧ j - i ≤ gg ∧ lo ≤ i ∧ j ≤ hi ∧ s20 = .int .i64 i ∧ s21 = .int .i64 j ∧ Aside0 (Cut (geT key AA B a m mid) lo hi i j) ∧ Aside0 (Wr K A c L base ok w0 w (P ++ (AA ++ (B ++ Q))) wr))
    case atStart =>
      exact ⟨lo, hi, hll.2.1, Nat.le_refl _, Nat.le_refl _, Nat.le_refl _, rfl, rfl, HST, W0⟩
    case round =>
      clear W0 HST
      obtain ⟨i, j, hij, hgg, hmi, hjb, rfl, rfl, HCUT, HW⟩ := hrel
      by_cases hlt : i < j
      · obtain ⟨h, hh⟩ : ∃ h : Nat, (i + j) / 2 = h := ⟨_, rfl⟩
        have h1 : i ≤ h := by omega
        have h2 : h < j := by omega
        go_upto_region 35 with fail
        have hh' : ((i : Int) + (j : Int)) / 2 = (h : Int) := by omega
        rw [hh']
        have hpp := HPP.out
        obtain ⟨ph, hph⟩ : ∃ ph, p = ph + h := ⟨p - h, by omega⟩
        have hphm : m ≤ ph ∧ ph < b := by omega
        have w1 : IntKind.i64.wrap ((p : Int) - (h : Int)) = (ph : Int) := by rw [IntKind.wrap_i64]; omega
        obtain ⟨x, hx⟩ : ∃ x, gt AA (h - a) = x := ⟨_, rfl⟩
        obtain ⟨y, hy⟩ : ∃ y, gt B (ph - m) = y := ⟨_, rfl⟩
        have hyy : gt B (mid + m - 1 - h - m) = y := by rw [← hy]; congr 1; omega
        have e1 : gt (P ++ (AA ++ (B ++ Q))) h = x := by
          rw [← hx]
          exact gt_mid _ _ _ _ _ (by have := HAA.out; omega) (by have := HMM.out; omega)
        have e2 : gt (P ++ (AA ++ (B ++ Q))) ph = y := by
          rw [← hy, ← List.append_assoc]
          exact gt_mid _ _ _ _ _ (by have := HAA.out; have := HMM.out; rw [List.length_append]; omega) (by have := HBB.out; omega)
        have hdx : dom x := HDA.out x (hx ▸ gt_mem _ _ (by have := HMM.out; omega))
        have hdy : dom y := HDB.out y (hy ▸ gt_mem _ _ (by have := HBB.out; omega))
        have hrl := (Kd.R_reads' HW.out.row).1
        obtain ⟨g, rfl, hg0, g1⟩ := row_cell HW.out.row ph (by omega)
        obtain ⟨g', hg', _, g2⟩ := row_cell HW.out.row h (by omega)
        injection hg' with hg'
        injection hg' with hg'
        subst hg'
        rw [e2] at g1
        rw [e1] at g2
        have q1 : ((h : Int) < (L : Int)) = True := eq_true (by omega)
        have q2 : ((ph : Int) < (L : Int)) = True := eq_true (by omega)
        have q3 : (0 ≤ (h : Int)) = True := eq_true (by omega)
        have q4 : (0 ≤ (ph : Int)) = True := eq_true (by omega)
        have hcall := Aside0.mk (fun (w' : World) (hb : Below wr.heap.size wr w') => HC.out.says w' y x (HC.out.lasts _ _ HW.out.k (grown_below (World.grownBy.refl _ _) hb)) hdy hdx)
        have HDN := Aside0.mk (fun hl : key y < key x => Cut.down HM2.out HCUT.out h1 h2 (show ¬ geT key AA B a m mid h from fun hn => (show ¬ key (gt B (mid + m - 1 - h - m)) < key (gt AA (h - a)) from hn) (by rw [hyy, hx]; exact hl)))
        have HUP := Aside0.mk (fun hl : ¬ key y < key x => Cut.up HM2.out HCUT.out h1 h2 (show geT key AA B a m mid h from (show ¬ key (gt B (mid + m - 1 - h - m)) < key (gt AA (h - a)) by rw [hyy, hx]; exact hl)))
        have HR := Aside0.mk HW.out.row
        have HB1 := Aside0.mk HW.out.below
        have HS1 := Aside0.mk HW.out.size
        have HK1 := Aside0.mk HW.out.k
        have HG1 := Aside0.mk HW.out.grown
        clear e1 e2 hdx hdy hrl hx hy hyy HCUT HW hpp hph hphm
        refine start_ (n := 14) (S := fun w' => (w'.cell? ⟨g, ph, none⟩ = some (.int .i64 y) ∧ w'.cell? ⟨g, h, none⟩ = some (.int .i64 x)) ∧ Aside0 (Below wr.heap.size wr w')) (ds := [13]) #[false, false, false, false, false, false, false, false, false, false, false, false, false, false] rfl rfl rfl ⟨⟨g1, g2⟩, ⟨(Below.refl _ _).drew⟩⟩ (fun hHeld => ?_)
        refine with_tabW reg43.tab35 reg43.bits35 (fun HT_ HW_ => ?_)
        obtain ⟨hHeld, HBW⟩ := hHeld
        refine pz_ 0 158 HT_ ?_
        refine pz_ 1 159 HT_ ?_
        refine pz_ 2 160 HT_ ?_
        refine pz_ 3 161 HT_ ?_
        refine pz_ 4 162 HT_ ?_
        refine pz_ 5 163 HT_ ?_
        refine tz_ 6 164 HT_ HW_ ⟨hHeld, HBW⟩ ?_
        refine pz_ 7 165 HT_ ?_
        refine pz_ 8 166 HT_ ?_
        refine pz_ 9 167 HT_ ?_
        refine tz_ 10 168 HT_ HW_ ⟨hHeld, HBW⟩ ?_
        refine oz_ 11 169 HT_ (fun K' hK' => ?_)
        refine goesv_ Try.func36 (by kernel_rfl) rfl #[.int .i64 y, .int .i64 x, .pointer (some ⟨BX, 0, none⟩)] #[.pointer (some ⟨BX, 0, none⟩)] (by rfl) rfl rfl rfl ma_ ?_
        refine (hcall.out _ HBW.out).mono ?_
        rintro e w4 ⟨rfl, hb4⟩
        refine ⟨_, rfl, hK'.out _ _ ⟨⟨hh_ hb4 hHeld.1, hh_ hb4 hHeld.2⟩, ⟨HBW.out.trans (hb4.mono HBW.out.size)⟩⟩ (fun hHeld4 => ?_)⟩
        clear hK' K'
        obtain ⟨hHeld4, HBW4⟩ := hHeld4
        clear hb4 hHeld4
        generalize hwd : wr.drew = wd at hHeld HBW
        clear hHeld HBW hwd hcall g1 g2
        have HRN := Aside0.mk (Kd.R_below HR.out HBW4.out)
        have HBN := Aside0.mk (HB1.out.trans (HBW4.out.mono HS1.out))
        have HGN := Aside0.mk (grown_below HG1.out HBW4.out)
        have HSN := Aside0.mk (Nat.le_trans HS1.out HBW4.out.size)
        have HKN := Aside0.mk (HC.out.lasts _ _ HK1.out (grown_below (World.grownBy.refl _ _) HBW4.out))
        clear HR HB1 HG1 HS1 HK1 HBW4
        by_cases hlt2 : key y < key x
        · have hc3 : cmp3 (key y) (key x) = -1 := by unfold cmp3; rw [if_pos hlt2]
          rw [hc3]
          refine pz_ 12 170 HT_ ?_
          refine pz_ 13 171 HT_ ?_
          refine done_ (done_of HT_.out (by kernel_rfl)) ?_
          clear HT_ HW_ hc3 q1 q2 q3 q4 w1
          have HCN := Aside0.mk (HDN.out hlt2)
          have HWN := Aside0.mk (show Wr K _ c L base ok w0 w (P ++ (AA ++ (B ++ Q))) w4 from ⟨HRN.out, HBN.out, HSN.out, HKN.out, HGN.out⟩)
          clear HUP HDN HRN HBN HSN HKN HGN
          go_upto_region 37 with (fail)
          repeat go_step
          go_roundg (h - i)
          case measure => omega
          case rel => exact ⟨i, h, by omega, Nat.le_refl _, by omega, by omega, rfl, by go_num, HCN, HWN⟩
        · have hc3 : 0 ≤ cmp3 (key y) (key x) := by unfold cmp3; rw [if_neg hlt2]; split <;> omega
          obtain ⟨cc, hcc⟩ : ∃ cc, cmp3 (key y) (key x) = cc := ⟨_, rfl⟩
          rw [hcc] at hc3 ⊢
          have qc : (cc < 0) = False := eq_false (by omega)
          refine pz_ 12 170 HT_ ?_
          refine pz_ 13 171 HT_ ?_
          refine done_ (done_of HT_.out (by kernel_rfl)) ?_
          clear HT_ HW_ hc3 q1 q2 q3 q4 qc hcc w1
          have HCN := Aside0.mk (HUP.out hlt2)
          have HWN := Aside0.mk (show Wr K _ c L base ok w0 w (P ++ (AA ++ (B ++ Q))) w4 from ⟨HRN.out, HBN.out, HSN.out, HKN.out, HGN.out⟩)
          clear HUP HDN HRN HBN HSN HKN HGN
          have m3 : IntKind.i64.wrap ((h : Int) + 1) = ((h + 1 : Nat) : Int) := by rw [IntKind.wrap_i64]; omega
          go_upto_region 36 with (fail)
          repeat go_step
          clear m3
          go_roundg (j - (h + 1))
          case measure => omega
          case rel => exact ⟨h + 1, j, by omega, Nat.le_refl _, by omega, hjb, by go_num, rfl, HCN, HWN⟩
      · have hii : j = i := by omega
        subst hii
        obtain ⟨A1, A2, B1, B2, hAe, hBe, hl1, hl2, sA1, sA2, sB1, sB2, hcross⟩ := two_cut HSA.out HSB.out HMM.out HBB.out HMID.out (by have := HMM.out; omega) (by have := HBB.out; omega) HLO.out HHI.out HCUT.out
        subst hAe hBe
        obtain ⟨en, hen⟩ : ∃ en, nn = en + j := ⟨nn - j, by omega⟩
        have hl2' : m + B1.length = en := by omega
        have hm3 := HMM.out
        have hb3 := HBB.out
        have ha3 := HAA.out
        have hn3 := HNN.out
        rw [List.length_append] at hm3 hb3
        have l1 : j + A2.length = m := by omega
        have l2 : j + B1.length = mid := by omega
        have l3 : en + B2.length = b := by omega
        have l4 : mid + A2.length = en := by omega
        have l5 : A1.length + B1.length ≤ n ∧ A2.length + B2.length ≤ n := by rw [List.length_append, List.length_append] at hn3; omega
        have dA1 : ∀ x ∈ A1, dom x := fun x hx => HDA.out x (List.mem_append_left _ hx)
        have dA2 : ∀ x ∈ A2, dom x := fun x hx => HDA.out x (List.mem_append_right _ hx)
        have dB1 : ∀ x ∈ B1, dom x := fun x hx => HDB.out x (List.mem_append_left _ hx)
        have dB2 : ∀ x ∈ B2, dom x := fun x hx => HDB.out x (List.mem_append_right _ hx)
        have F1 := Aside0.mk (And.intro sA1 (And.intro sA2 (And.intro sB1 sB2)))
        have F2 := Aside0.mk hcross
        have F3 := Aside0.mk (And.intro hl1 (And.intro l1 (And.intro l2 (And.intro l3 (And.intro l4 hl2')))))
        have F4 := Aside0.mk (And.intro dA1 (And.intro dA2 (And.intro dB1 dB2)))
        have F5 := Aside0.mk l5
        have hje : en ≤ L ∧ j ≤ m := by omega
        clear HCUT sA1 sA2 sB1 sB2 hcross hl2 hl1 hl2' hm3 hb3 ha3 hn3 l1 l2 l3 l4 l5 dA1 dA2 dB1 dB2 HDA HDB HSA HSB HM2 HLO HHI HMM HBB HNN hlt hgg hij
        have w1 : IntKind.i64.wrap ((nn : Int) - (j : Int)) = (en : Int) := by rw [IntKind.wrap_i64]; omega
        clear hen HMID HPP hll hmi hjb
        go_upto_region 39 with (fail)
        go_cut [185] from 220 (fun vv wc => vv = .bool (decide (j < m) && decide (m < en)) ∧ wr = wc)
        case first =>
          by_cases hx : j < m
          · have q1 : ((j : Int) < (m : Int)) = True := eq_true (by omega)
            by_cases hy : m < en
            · have q2 : ((m : Int) < (en : Int)) = True := eq_true (by omega)
              go_wp2
              go_meet
              exact ⟨by rw [decide_eq_true hx, decide_eq_true hy]; rfl, rfl⟩
            · have q2 : ((m : Int) < (en : Int)) = False := eq_false (by omega)
              go_wp2
              go_meet
              exact ⟨by rw [decide_eq_true hx, decide_eq_false hy]; rfl, rfl⟩
          · have q1 : ((j : Int) < (m : Int)) = False := eq_false (by omega)
            go_wp2
            go_meet
            exact ⟨by rw [decide_eq_false hx]; rfl, rfl⟩
        obtain ⟨rfl, rfl⟩ := hcut
        go_upto_if 185 with (fail)
        go_cut [185] from 220 (fun _ wc => Aside0 (Wr K A c L base ok w0 w (P ++ (A1 ++ (B1 ++ (A2 ++ (B2 ++ Q))))) wc))
        case first =>
          by_cases hc : j < m ∧ m < en
          · rw [decide_eq_true hc.1, decide_eq_true hc.2]
            have hcall := rotate_ok (P ++ A1) A2 B1 (B2 ++ Q) (.slice A L c) (.func (.func 36) #[] #[.pointer (some ⟨BX, 0, none⟩)]) base ok w0 wr (by simpa only [List.append_assoc] using HW.out.row) HW.out.below HW.out.size (by have := (Kd.R_reads' HW.out.row).1; simp only [List.length_append] at this ⊢; omega) (by intro h0; subst h0; have := F3.out.2.1; simp at this; omega) (by intro h0; subst h0; have := F3.out.2.2.2.2.2; simp at this; omega)
            have f1 : (P ++ A1).length = j := by rw [List.length_append, HAA.out]; exact F3.out.1
            have f2 : (P ++ A1).length + A2.length = m := by rw [f1]; exact F3.out.2.1
            have f3 : (P ++ A1).length + A2.length + B1.length = en := by rw [f2]; exact F3.out.2.2.2.2.2
            rw [f3, f2, f1] at hcall
            have HCALL := Aside0.mk hcall
            clear hcall f1 f2 f3
            go_wp2_with (go_at_call 44; refine HCALL.out.mono ?_; rintro e w1 ⟨rfl, hr1, hb1, hg1⟩; have HWN := Aside0.mk (show Wr K A c L base ok w0 w (P ++ (A1 ++ (B1 ++ (A2 ++ (B2 ++ Q))))) w1 from ⟨by simpa only [List.append_assoc] using hr1, hb1, Nat.le_trans HW.out.size hg1.size, HC.out.lasts _ _ HW.out.k hg1, HW.out.grown.trans hg1⟩); clear HCALL hr1 hb1 hg1)
            go_meet
            exact HWN
          · have hq : (decide (j < m) && decide (m < en)) = false := by rw [← Bool.decide_and]; exact decide_eq_false hc
            rw [hq]
            have hAB : A2 = [] ∨ B1 = [] := by
              by_cases h1 : j < m
              · exact .inr (List.length_eq_zero_iff.1 (by have := F3.out.2.2.2.2.2; omega))
              · exact .inl (List.length_eq_zero_iff.1 (by have := F3.out.2.1; omega))
            have HWN := Aside0.mk (show Wr K A c L base ok w0 w (P ++ (A1 ++ (B1 ++ (A2 ++ (B2 ++ Q))))) wr from ⟨by rcases hAB with rfl | rfl <;> simpa only [List.append_assoc, List.nil_append] using HW.out.row, HW.out.below, HW.out.size, HW.out.k, HW.out.grown⟩)
            clear hq hAB hc
            go_wp2
            go_meet
            exact HWN
        clear HW
        have HW := Aside0.mk hcut.out
        clear hcut
        clear w1
        generalize wc = wb at *
        go_upto_region 41 with (fail)
        go_cut [199] from 220 (fun vv wn => vv = .bool (decide (a < j) && decide (j < mid)) ∧ wb = wn)
        case first =>
          by_cases hx : a < j
          · have q1 : ((a : Int) < (j : Int)) = True := eq_true (by omega)
            by_cases hy : j < mid
            · have q2 : ((j : Int) < (mid : Int)) = True := eq_true (by omega)
              go_wp2
              go_meet
              exact ⟨by rw [decide_eq_true hx, decide_eq_true hy]; rfl, rfl⟩
            · have q2 : ((j : Int) < (mid : Int)) = False := eq_false (by omega)
              go_wp2
              go_meet
              exact ⟨by rw [decide_eq_true hx, decide_eq_false hy]; rfl, rfl⟩
          · have q1 : ((a : Int) < (j : Int)) = False := eq_false (by omega)
            go_wp2
            go_meet
            exact ⟨by rw [decide_eq_false hx]; rfl, rfl⟩
        obtain ⟨rfl, rfl⟩ := hcut
        go_upto_if 199 with (fail)
        go_cut [199] from 220 (fun _ wc => Aside0 (∃ S1 : List Int, S1.Perm (A1 ++ B1) ∧ Sorted key S1 ∧ Wr K A c L base ok w0 w (P ++ (S1 ++ (A2 ++ (B2 ++ Q)))) wc))
        case first =>
          by_cases hc : a < j ∧ j < mid
          · rw [decide_eq_true hc.1, decide_eq_true hc.2]
            have HCALL := Aside0.mk (HIH.out wb P A1 B1 (A2 ++ (B2 ++ Q)) a j mid HW.out.k F4.out.1 F4.out.2.2.1 F1.out.1 F1.out.2.2.1 HAA.out F3.out.1 F3.out.2.2.1 (by have := F3.out.1; omega) (by have := F3.out.2.2.1; omega) F5.out.1 HW.out.row HW.out.below HW.out.size)
            go_wp2_with (go_at_call 43; refine HCALL.out.mono ?_; rintro e w1 ⟨rfl, hr1, hb1, hg1⟩; have HWN := Aside0.mk (show ∃ S1 : List Int, S1.Perm (A1 ++ B1) ∧ Sorted key S1 ∧ Wr K A c L base ok w0 w (P ++ (S1 ++ (A2 ++ (B2 ++ Q)))) w1 from hr1.elim fun S1 h => ⟨S1, h.1, h.2.1, h.2.2, hb1, Nat.le_trans HW.out.size hg1.size, HC.out.lasts _ _ HW.out.k hg1, HW.out.grown.trans hg1⟩); clear HCALL hr1 hb1 hg1)
            go_meet
            exact HWN
          · have hq : (decide (a < j) && decide (j < mid)) = false := by rw [← Bool.decide_and]; exact decide_eq_false hc
            rw [hq]
            have hAB : A1 = [] ∨ B1 = [] := by
              by_cases h1 : a < j
              · exact .inr (List.length_eq_zero_iff.1 (by have := F3.out.2.2.1; omega))
              · exact .inl (List.length_eq_zero_iff.1 (by have := F3.out.1; omega))
            have HWN := Aside0.mk (show ∃ S1 : List Int, S1.Perm (A1 ++ B1) ∧ Sorted key S1 ∧ Wr K A c L base ok w0 w (P ++ (S1 ++ (A2 ++ (B2 ++ Q)))) wb from ⟨A1 ++ B1, .refl _, by rcases hAB with rfl | rfl <;> simp only [List.append_nil, List.nil_append] <;> first | exact F1.out.1 | exact F1.out.2.2.1, by simpa only [List.append_assoc] using HW.out.row, HW.out.below, HW.out.size, HW.out.k, HW.out.grown⟩)
            clear hq hAB hc
            go_wp2
            go_meet
            exact HWN
        clear HW
        obtain ⟨S1, hp1, hs1, hw1⟩ := hcut.out
        have HW := Aside0.mk hw1
        have HP1 := Aside0.mk hp1
        have HS1 := Aside0.mk hs1
        have HL1 := Aside0.mk (show (P ++ S1).length = mid by rw [List.length_append, hp1.length_eq, List.length_append, HAA.out]; have := F3.out.1; have := F3.out.2.2.1; omega)
        clear hcut hw1 hp1 hs1
        generalize wc = wb at *
        go_upto_region 43 with (fail)
        go_cut [213] from 220 (fun vv wn => vv = .bool (decide (mid < en) && decide (en < b)) ∧ wb = wn)
        case first =>
          by_cases hx : mid < en
          · have q1 : ((mid : Int) < (en : Int)) = True := eq_true (by omega)
            by_cases hy : en < b
            · have q2 : ((en : Int) < (b : Int)) = True := eq_true (by omega)
              go_wp2
              go_meet
              exact ⟨by rw [decide_eq_true hx, decide_eq_true hy]; rfl, rfl⟩
            · have q2 : ((en : Int) < (b : Int)) = False := eq_false (by omega)
              go_wp2
              go_meet
              exact ⟨by rw [decide_eq_true hx, decide_eq_false hy]; rfl, rfl⟩
          · have q1 : ((mid : Int) < (en : Int)) = False := eq_false (by omega)
            go_wp2
            go_meet
            exact ⟨by rw [decide_eq_false hx]; rfl, rfl⟩
        obtain ⟨rfl, rfl⟩ := hcut
        go_upto_if 213 with (fail)
        have HCR := Aside0.mk (fun (S2 : List Int) (h2 : S2.Perm (A2 ++ B2)) (hs2 : Sorted key S2) => (⟨by
            refine (HP1.out.append h2).trans ?_
            simp only [List.append_assoc]
            refine List.Perm.append_left _ ?_
            rw [← List.append_assoc, ← List.append_assoc]
            exact List.Perm.append_right _ List.perm_append_comm, Sorted.split HS1.out hs2 (fun x hx y hy => F2.out x (HP1.out.subset hx) y (h2.subset hy))⟩ : (S1 ++ S2).Perm ((A1 ++ A2) ++ (B1 ++ B2)) ∧ Sorted key (S1 ++ S2)))
        by_cases hc : mid < en ∧ en < b
        · rw [decide_eq_true hc.1, decide_eq_true hc.2]
          have HCALL := Aside0.mk (HIH.out wb (P ++ S1) A2 B2 Q mid en b HW.out.k F4.out.2.1 F4.out.2.2.2 F1.out.2.1 F1.out.2.2.2 HL1.out F3.out.2.2.2.2.1 F3.out.2.2.2.1 (by have := F3.out.2.2.2.2.1; omega) (by have := F3.out.2.2.2.1; omega) F5.out.2 (by simpa only [List.append_assoc] using HW.out.row) HW.out.below HW.out.size)
          go_wp2_with (go_at_call 43; refine HCALL.out.mono ?_; rintro e w1 ⟨rfl, hr1, hb1, hg1⟩; have HRE := Aside0.mk hr1; have HBE := Aside0.mk hb1; have HGE := Aside0.mk (HW.out.grown.trans hg1); clear HCALL hr1 hb1 hg1)
          go_end0
          obtain ⟨S2, h2, hs2, hr2⟩ := HRE.out
          exact ⟨rfl, ⟨S1 ++ S2, (HCR.out S2 h2 hs2).1, (HCR.out S2 h2 hs2).2, by simpa only [List.append_assoc] using hr2⟩, HBE.out, HGE.out⟩
        · have hq : (decide (mid < en) && decide (en < b)) = false := by rw [← Bool.decide_and]; exact decide_eq_false hc
          rw [hq]
          have hAB : A2 = [] ∨ B2 = [] := by
            by_cases h1 : mid < en
            · exact .inr (List.length_eq_zero_iff.1 (by have := F3.out.2.2.2.1; omega))
            · exact .inl (List.length_eq_zero_iff.1 (by have := F3.out.2.2.2.2.1; omega))
          have hs2 : Sorted key (A2 ++ B2) := by
            rcases hAB with rfl | rfl <;> simp only [List.append_nil, List.nil_append] <;> first | exact F1.out.2.1 | exact F1.out.2.2.2
          have HFIN := Aside0.mk (HCR.out (A2 ++ B2) (.refl _) hs2)
          clear hq hAB hc hs2
          go_wp2
          go_end0
          exact ⟨rfl, ⟨S1 ++ (A2 ++ B2), HFIN.out.1, HFIN.out.2, by simpa only [List.append_assoc] using HW.out.row⟩, HW.out.below, HW.out.grown⟩
theorem sym_ok (BX : Nat) (key : Int → Int) (dom : Int → Prop) (K : World → Prop) (A : Option Addr) (c L base : Nat) (ok : Nat → Prop) (w0 : World) (hC : CmpI 36 BX key dom (Value.slice A L c).ownBlock K) (hl : L < 1000) (n : Nat) : SymAt BX key dom K A c L base ok w0 n := by
  induction n with
  | zero => intro w P AA B Q a m b _ _ _ _ _ _ _ _ h0 _ h1; omega
  | succ n ih =>
    intro w P AA B Q a m b hK hda hdb hSA hSB ha hm hb h0 h1 hn HO hB hbase
    by_cases h2 : AA.length = 1
    · obtain ⟨x, rfl⟩ := List.length_eq_one_iff.1 h2
      exact sym_one BX key dom K A c L base ok w0 w hC hK P B Q x (hda x (List.mem_singleton_self _)) hdb hSB HO hB hbase hl a m b ha (by simpa using hm) hb
    by_cases h3 : B.length = 1
    · obtain ⟨y, rfl⟩ := List.length_eq_one_iff.1 h3
      exact sym_last BX key dom K A c L base ok w0 w hC hK P AA Q y (hdb y (List.mem_singleton_self _)) hda hSA HO hB hbase hl a m b ha hm (by simpa using hb) (by omega)
    exact sym_step BX key dom K A c L base ok w0 hC hl n ih w P AA B Q a m b hK hda hdb hSA hSB ha hm hb (by omega) (by omega) hn HO hB hbase
end Go.Proofs.Ytnlnglfjehohpaa.Q
