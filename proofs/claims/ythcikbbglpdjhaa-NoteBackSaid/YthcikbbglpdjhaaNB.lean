/- NoteBack: the walk. No condition. -/
import Derived.Test.YthcikbbglpdjhaaYC
import Derived.Test.YthcikbbglpdjhaaFNoteBack
namespace Go.Proofs.Ythcikbbglpdjhaa.Q
open Go.RowKit Go.Proofs.YthcikbbglpdjhaaW Go.Proofs.YthcikbbglpdjhaaW.PrintWords Go.Proofs.YthcikbbglpdjhaaW.PrintLast Go.Proofs.YthcikbbglpdjhaaW.PrintMore
attribute [local go_sem] max2_int min2_int max_two min_two
set_option linter.unusedVariables false
set_option linter.unusedSimpArgs false
def regB.T11 : Bool × List (List Nat × List Nat) := (true, [([], []), ([0], [0]), ([1], [1]), ([2, 1], [1, 2]), ([1, 3], [1, 3]), ([4, 1], [4]), ([5], [5]), ([6, 5, 5], [5, 6]), ([5], [5]), ([7, 8, 7, 5], [5, 7, 8]), ([5, 9], [5, 9]), ([10, 9], [10]), ([11], [11]), ([12, 11], [11, 12]), ([11, 13], [11, 13]), ([14, 11], [14]), ([15], [15]), ([16, 15], [15, 16]), ([15, 17], [15, 17]), ([18, 15], [18]), ([19], [19]), ([20, 19], [19, 20]), ([19], [19]), ([22, 19, 19], [19, 22]), ([23, 23, 19], [19, 23]), ([21, 24, 19], [19, 21, 24]), ([19, 25], [19, 25]), ([26, 24], [26]), ([27], [27]), ([28, 27], [27, 28]), ([27], [27]), ([30, 27], [27, 30]), ([31, 27], [27, 31]), ([32, 27], [27, 32]), ([33, 27], [27, 33]), ([27], [27]), ([35, 27], [27, 35]), ([36, 27], [27, 36]), ([37, 27], [27, 37]), ([34, 38, 27], [27, 34, 38]), ([29, 39, 27], [27, 29, 39]), ([27, 40], [27, 40]), ([41, 27, 0, 1, 2, 3, 4, 5, 6, 7, 8, 9, 10, 11, 12, 13, 14, 15, 16, 17, 18, 19, 20, 21, 22, 23, 24, 25, 26, 27, 28, 29, 30, 31, 32, 33, 34, 35, 36, 37, 38, 39, 40, 41], [41])])
def regB.B11 : List Nat := [0, 1, 3, 7, 15, 31, 63, 127, 63, 511, 1023, 2047, 4095, 8191, 16383, 32767, 65535, 131071, 262143, 524287, 1048575, 2097151, 1048575, 5242879, 13631487, 33554431, 67108863, 134217727, 268435455, 536870911, 268435455, 1342177279, 3489660927, 7784628223, 16374562815, 268435455, 34628173823, 103347650559, 240786604031, 548950507519, 1099511627775, 2199023255551, 4398046511103]
theorem regB.tab11 : rtab .any (opsOf Try.f4 11) = regB.T11 := by kernel_rfl
theorem regB.bits11 : waitsOk regB.T11.2 regB.B11 = true := by kernel_rfl
section
variable (a b : Int) (A2 : Option Addr) (c2 : Nat) (im : List S44) (A3 : Option Addr) (c3 : Nat) (os : List S46) (c : Int) (w : World)
def Back : Prop := Calls Try.prog 4 #[.agg #[.int .i64 a, .int .i64 b, .slice A2 im.length c2, .slice A3 os.length c3], .int .u8 c] w fun e w' => e = .returned (.bool true) ∧ Below w.heap.size w w'

set_option maxRecDepth 100000 in
set_option maxHeartbeats 3200000 in
theorem back_few (hn : NC w A2 c2 im A3 c3 os) (hf : fewB 40 im os = false) : Back a b A2 c2 im A3 c3 os c w := by
  have HB0 := Aside0.mk (B4.new w 32 (.int .i64 a) (.int .i64 b) (.slice A2 im.length c2) (.slice A3 os.length c3) (Below.refl _ _))
  have HN := Aside0.mk hn
  have hu := Try.underlying32
  have hu2 := Try.underlying27
  clear hn
  unfold Back
  obtain ⟨b1, hb1⟩ : ∃ b1, w.heap.size = b1 := ⟨_, rfl⟩
  go_enter Try.func4, Try.ntmps4
  go_upto_region 1 with (fail)
  generalize w.alloc (.cells #[.int .i64 a, .int .i64 b, .slice A2 im.length c2, .slice A3 os.length c3] 32) = w1 at *
  rw [hb1] at HB0
  clear hb1
  have C9 := Aside0.mk (fun W => awake_c W)
  have C15 := Aside0.mk (fun W (h : NC W A2 c2 im A3 c3 os) => few_c h a b 40 (by omega))
  simp only [hf] at C15
  clear hf
  have x0 := HB0.out.x0; have x1 := HB0.out.x1; have x2 := HB0.out.x2; have x3 := HB0.out.x3
  go_wp2_with (first | (go_at_call 9; refine (C9.out _).mono ?_; rintro e w2 ⟨rfl, hb⟩; have HB1 := Aside0.mk (HB0.out.next hb); clear HB0 hb x0 x1 x2 x3 C9; have x0 := HB1.out.x0; have x1 := HB1.out.x1; have x2 := HB1.out.x2; have x3 := HB1.out.x3) | (go_at_call 15; refine (C15.out _ (HN.out.below HB1.out.below)).mono ?_; rintro e w3 ⟨rfl, hb⟩; have HB2 := Aside0.mk (HB1.out.next hb); clear HB1 hb x0 x1 x2 x3 C15; have x0 := HB2.out.x0; have x1 := HB2.out.x1; have x2 := HB2.out.x2; have x3 := HB2.out.x3))
  go_ret
  exact ⟨rfl, HB2.out.below⟩
set_option maxRecDepth 100000 in
set_option maxHeartbeats 3200000 in
theorem back_bad (hn : NC w A2 c2 im A3 c3 os) (hf : fewB 40 im os = true) (hs : saneN a b im os = false) : Back a b A2 c2 im A3 c3 os c w := by
  have hl := few_parts hf
  have HL := Aside0.mk (show im.length < 1000000000 ∧ os.length < 1000000000 by omega)
  clear hl
  have HB0 := Aside0.mk (B4.new w 32 (.int .i64 a) (.int .i64 b) (.slice A2 im.length c2) (.slice A3 os.length c3) (Below.refl _ _))
  have HN := Aside0.mk hn
  have hu := Try.underlying32
  have hu2 := Try.underlying27
  clear hn
  unfold Back
  obtain ⟨b1, hb1⟩ : ∃ b1, w.heap.size = b1 := ⟨_, rfl⟩
  go_enter Try.func4, Try.ntmps4
  go_upto_region 1 with (fail)
  generalize w.alloc (.cells #[.int .i64 a, .int .i64 b, .slice A2 im.length c2, .slice A3 os.length c3] 32) = w1 at *
  rw [hb1] at HB0
  clear hb1
  have C9 := Aside0.mk (fun W => awake_c W)
  have C15 := Aside0.mk (fun W (h : NC W A2 c2 im A3 c3 os) => few_c h a b 40 (by omega))
  simp only [hf] at C15
  clear hf
  have x0 := HB0.out.x0; have x1 := HB0.out.x1; have x2 := HB0.out.x2; have x3 := HB0.out.x3
  have C16 := Aside0.mk (fun W (h : NC W A2 c2 im A3 c3 os) => ours_c h a b)
  have C13 := Aside0.mk (fun W (h : NC W A2 c2 im A3 c3 os) => enc_c h a b HL.out.1 HL.out.2)
  have C14 := Aside0.mk (fun W (h : NC W A2 c2 im A3 c3 os) => sane_c h a b HL.out.1 HL.out.2)
  have C17 := Aside0.mk (fun W (h : NC W A2 c2 im A3 c3 os) => size_c h a b HL.out.1 HL.out.2)
  simp only [hs] at C13 C14 C17
  clear hs
  go_wp2_with (first | (go_at_call 9; refine (C9.out _).mono ?_; rintro e w2 ⟨rfl, hb⟩; have HB1 := Aside0.mk (HB0.out.next hb); clear HB0 hb x0 x1 x2 x3 C9; have x0 := HB1.out.x0; have x1 := HB1.out.x1; have x2 := HB1.out.x2; have x3 := HB1.out.x3) | (go_at_call 15; refine (C15.out _ (HN.out.below HB1.out.below)).mono ?_; rintro e w3 ⟨rfl, hb⟩; have HB2 := Aside0.mk (HB1.out.next hb); clear HB1 hb x0 x1 x2 x3 C15; have x0 := HB2.out.x0; have x1 := HB2.out.x1; have x2 := HB2.out.x2; have x3 := HB2.out.x3) | (go_at_call 16; refine (C16.out _ (HN.out.below HB2.out.below)).mono ?_; rintro e w4 ⟨rfl, hb⟩; have HB3 := Aside0.mk (HB2.out.next hb); clear HB2 hb x0 x1 x2 x3 ; have x0 := HB3.out.x0; have x1 := HB3.out.x1; have x2 := HB3.out.x2; have x3 := HB3.out.x3) | (go_at_call 13; refine (C13.out _ (HN.out.below HB3.out.below)).mono ?_; rintro e w5 ⟨v0, rfl, hr, hb⟩; have HB4 := Aside0.mk (HB3.out.next hb); have HR := Aside0.mk (Kd.R_lower hr HB3.out.below.size); clear HB3 hb hr x0 x1 x2 x3 C13; obtain ⟨Ab, cb, eb⟩ := Kd.R_slice HR.out; subst eb; have x0 := HB4.out.x0; have x1 := HB4.out.x1; have x2 := HB4.out.x2; have x3 := HB4.out.x3) | (go_at_call 16; refine (C16.out _ (HN.out.below HB4.out.below)).mono ?_; rintro e w6 ⟨rfl, hb⟩; have HB5 := Aside0.mk (HB4.out.next hb); clear HB4 hb x0 x1 x2 x3 ; have x0 := HB5.out.x0; have x1 := HB5.out.x1; have x2 := HB5.out.x2; have x3 := HB5.out.x3) | (go_at_call 14; refine (C14.out _ (HN.out.below HB5.out.below)).mono ?_; rintro e w7 ⟨rfl, hb⟩; have HB6 := Aside0.mk (HB5.out.next hb); clear HB5 hb x0 x1 x2 x3 C14; have x0 := HB6.out.x0; have x1 := HB6.out.x1; have x2 := HB6.out.x2; have x3 := HB6.out.x3) | (go_at_call 16; refine (C16.out _ (HN.out.below HB6.out.below)).mono ?_; rintro e w8 ⟨rfl, hb⟩; have HB7 := Aside0.mk (HB6.out.next hb); clear HB6 hb x0 x1 x2 x3 C16; have x0 := HB7.out.x0; have x1 := HB7.out.x1; have x2 := HB7.out.x2; have x3 := HB7.out.x3) | (go_at_call 17; refine (C17.out _ (HN.out.below HB7.out.below)).mono ?_; rintro e w9 ⟨rfl, hb⟩; have HB8 := Aside0.mk (HB7.out.next hb); clear HB7 hb x0 x1 x2 x3 C17; have x0 := HB8.out.x0; have x1 := HB8.out.x1; have x2 := HB8.out.x2; have x3 := HB8.out.x3))
  go_ret
  exact ⟨rfl, HB8.out.below⟩
set_option maxRecDepth 100000 in
set_option maxHeartbeats 6400000 in
theorem back_ok (hn : NC w A2 c2 im A3 c3 os) (hf : fewB 40 im os = true) (hs : saneN a b im os = true) (hw : ∀ x ∈ im, ∀ y ∈ x.f1, byteB y) (ho : ∀ o ∈ os, wfO o) (hc : byteB c) : Back a b A2 c2 im A3 c3 os c w := by
  have hl := few_parts hf
  have HL := Aside0.mk (show im.length < 1000000000 ∧ os.length < 1000000000 by omega)
  clear hl
  have hp := pNote_lay hs ho
  have hlb := encN_bytes a b im os hw
  have hln := encN_length a b im os (sane_data hs).1
  have hsz := sane_data hs
  have HB0 := Aside0.mk (B4.new w 32 (.int .i64 a) (.int .i64 b) (.slice A2 im.length c2) (.slice A3 os.length c3) (Below.refl _ _))
  have HN := Aside0.mk hn
  have hu := Try.underlying32
  have hu2 := Try.underlying27
  clear hn
  unfold Back
  obtain ⟨b1, hb1⟩ : ∃ b1, w.heap.size = b1 := ⟨_, rfl⟩
  go_enter Try.func4, Try.ntmps4
  go_upto_region 1 with (fail)
  generalize w.alloc (.cells #[.int .i64 a, .int .i64 b, .slice A2 im.length c2, .slice A3 os.length c3] 32) = w1 at *
  rw [hb1] at HB0
  clear hb1
  have C9 := Aside0.mk (fun W => awake_c W)
  have C15 := Aside0.mk (fun W (h : NC W A2 c2 im A3 c3 os) => few_c h a b 40 (by omega))
  simp only [hf] at C15
  clear hf
  have x0 := HB0.out.x0; have x1 := HB0.out.x1; have x2 := HB0.out.x2; have x3 := HB0.out.x3
  have C16 := Aside0.mk (fun W (h : NC W A2 c2 im A3 c3 os) => ours_c h a b)
  have C13 := Aside0.mk (fun W (h : NC W A2 c2 im A3 c3 os) => enc_c h a b HL.out.1 HL.out.2)
  have C14 := Aside0.mk (fun W (h : NC W A2 c2 im A3 c3 os) => sane_c h a b HL.out.1 HL.out.2)
  have C17 := Aside0.mk (fun W (h : NC W A2 c2 im A3 c3 os) => size_c h a b HL.out.1 HL.out.2)
  simp only [hs] at C13 C14 C17
  clear hs
  simp only [if_pos] at C13 C17
  obtain ⟨l, hl⟩ : ∃ l, encN a b im os = l := ⟨_, rfl⟩
  rw [hl] at C13 hp hlb hln
  rw [show 11 + 33 * (im.length : Int) + 9 * (os.length : Int) = (l.length : Int) by omega] at C17
  have HFIN := Aside0.mk (show wrap64 (wrap64 (11 + wrap64 (33 * (im.length : Int))) + wrap64 (9 * (os.length : Int))) = (l.length : Int) by rw [w64_of (x := 33 * (im.length : Int)) (by omega) (by omega), w64_of (x := 9 * (os.length : Int)) (by omega) (by omega), w64_of (x := 11 + 33 * (im.length : Int)) (by omega) (by omega), w64_of (by omega) (by omega)]; omega)
  have HLB := Aside0.mk hlb
  have HLN := Aside0.mk (show 11 ≤ l.length ∧ l.length ≤ 100000 by omega)
  have HP := Aside0.mk hp
  have HCB := Aside0.mk hc
  clear hl hp hlb hln hsz hw ho hc
  go_upto_region 7 with (first | (go_at_call 9; refine (C9.out _).mono ?_; rintro e w2 ⟨rfl, hb⟩; have HB1 := Aside0.mk (HB0.out.next hb); clear HB0 hb x0 x1 x2 x3 C9; have x0 := HB1.out.x0; have x1 := HB1.out.x1; have x2 := HB1.out.x2; have x3 := HB1.out.x3) | (go_at_call 15; refine (C15.out _ (HN.out.below HB1.out.below)).mono ?_; rintro e w3 ⟨rfl, hb⟩; have HB2 := Aside0.mk (HB1.out.next hb); clear HB1 hb x0 x1 x2 x3 C15; have x0 := HB2.out.x0; have x1 := HB2.out.x1; have x2 := HB2.out.x2; have x3 := HB2.out.x3) | (go_at_call 16; refine (C16.out _ (HN.out.below HB2.out.below)).mono ?_; rintro e w4 ⟨rfl, hb⟩; have HB3 := Aside0.mk (HB2.out.next hb); clear HB2 hb x0 x1 x2 x3 ; have x0 := HB3.out.x0; have x1 := HB3.out.x1; have x2 := HB3.out.x2; have x3 := HB3.out.x3) | (go_at_call 13; refine (C13.out _ (HN.out.below HB3.out.below)).mono ?_; rintro e w5 ⟨v0, rfl, hr, hb⟩; have HB4 := Aside0.mk (HB3.out.next hb); have HR := Aside0.mk (Kd.R_lower hr HB3.out.below.size); clear HB3 hb hr x0 x1 x2 x3 C13; obtain ⟨Ab, cb, eb⟩ := Kd.R_slice HR.out; subst eb; have x0 := HB4.out.x0; have x1 := HB4.out.x1; have x2 := HB4.out.x2; have x3 := HB4.out.x3))
  have D1 := Aside0.mk (fun W (h : Kd.C KU W Ab l.length l) => dec_c h (Kd.R_reads' HR.out).2.1 HLB.out a b im os 0 (by rw [HP.out]; rfl))
  go_upto_region 8 with (first | (go_at_call 10; refine (D1.out _ (Kd.R_reads' HR.out).2.2).mono ?_; rintro e w6 ⟨P2, p2, P3, p3, rfl, hm, hb⟩; have HB5 := Aside0.mk (HB4.out.next hb); have HR5 := Aside0.mk (Kd.R_below HR.out hb); have HM := Aside0.mk hm; clear HB4 HR hm hb x0 x1 x2 x3 D1; skip))
  obtain ⟨w7, hw7⟩ : ∃ w7, w6.alloc (.cells #[.int .i64 a, .int .i64 b, .slice P2 im.length p2, .slice P3 os.length p3] 27) = w7 := ⟨_, rfl⟩
  have hb7 : Below w6.heap.size w6 w7 := by rw [← hw7]; exact (Below.refl _ _).alloc (Nat.le_refl _) _
  have k7 : w7.heap[w6.heap.size]? = some (.cells #[.int .i64 a, .int .i64 b, .slice P2 im.length p2, .slice P3 os.length p3] 27 (0, 0)) := by rw [← hw7]; exact blk_new _ _
  rw [hw7]
  have HB7 := Aside0.mk (HB5.out.next hb7)
  have HR7 := Aside0.mk (Kd.R_below HR5.out hb7)
  have HM7 := Aside0.mk (HM.out.below hb7)
  have HX7 := Aside0.mk (show B4 w w6.heap.size 27 (.int .i64 a) (.int .i64 b) (.slice P2 im.length p2) (.slice P3 os.length p3) w7 from ⟨HB7.out.below, k7, HB5.out.below.size⟩)
  obtain ⟨b8, hb8⟩ : ∃ b8, w6.heap.size = b8 := ⟨_, rfl⟩
  rw [hb8] at HX7
  rw [hb8]
  clear hb8 hw7 hb7 k7 HB5 HR5 HM w6
  skip
  have hlt := HLN.out.1
  have ws : wrap64 ((l.length : Int) - 1) = (l.length : Int) - 1 := by rw [w64_of (by have := HLN.out.2; omega) (by have := HLN.out.2; omega)]
  have u1 : (0 < (l.length : Int) - 1) = True := eq_true (by omega)
  have u2 : (1 < (l.length : Int)) = True := eq_true (by omega)
  have u3 : (1 < l.length) = True := eq_true (by omega)
  have ji : ((l.length : Int) - 1).toNat = l.length - 1 := by omega
  obtain ⟨i027, hi027, _, hsz27, _⟩ := info_parts info5
  obtain ⟨hcut, hA27, hC27⟩ := print_take_of (P := Try.prog) (Value.int .u8) 0 22 5 .i64 Try.underlying22 hi027 hsz27 Ab cb l ((l.length : Int) - 1) (by omega) (by omega) (Kd.R_reads' HR7.out).2.1
  rw [ji] at hcut hA27 hC27
  have HCT := Aside0.mk hC27
  have HAT := Aside0.mk (fun W (h : Kd.C KU W Ab l.length l) => (show Kd.C KU W Ab (l.take (l.length - 1)).length (l.take (l.length - 1)) from Kd.C_of_reads (h1 := fun _ => rfl) (hA27 W (Kd.reads_of_C h))))
  clear hA27 hC27 hi027 hsz27 hlt ji
  have hlen2 : (l.take (l.length - 1)).length = l.length - 1 := by rw [List.length_take]; omega
  have hd2 := fun W (h : Kd.C KU W Ab l.length l) => dec_c (HAT.out W h) HCT.out (fun x hx => HLB.out x (List.mem_of_mem_take hx)) 0 0 [] [] 2 (by rw [pNote_short HP.out _ (by have := HLN.out.1; omega)]; rfl)
  simp only [hlen2] at hd2 hcut
  have D2 := Aside0.mk hd2
  clear hd2 hlen2
  go_upto_region 9 with (first | (go_at_call 10; refine (D2.out _ (Kd.R_reads' HR7.out).2.2).mono ?_; rintro e w8 ⟨Q2, q2, Q3, q3, rfl, -, hb⟩; have HB8 := Aside0.mk (HB7.out.next hb); have HR8 := Aside0.mk (Kd.R_below HR7.out hb); have HM8 := Aside0.mk (HM7.out.below hb); have HX8 := Aside0.mk (HX7.out.next hb); clear HB7 HR7 HM7 HX7 hb D2))
  clear u1 u2 u3 ws hcut
  obtain ⟨w9, hw9⟩ : ∃ w9, w8.alloc (.cells #[.int .i64 0, .int .i64 0, .slice Q2 0 q2, .slice Q3 0 q3] 27) = w9 := ⟨_, rfl⟩
  have hb9 : Below w8.heap.size w8 w9 := by rw [← hw9]; exact (Below.refl _ _).alloc (Nat.le_refl _) _
  have HB9 := Aside0.mk (HB8.out.next hb9)
  have HR9 := Aside0.mk (Kd.R_below HR8.out hb9)
  have HM9 := Aside0.mk (HM8.out.below hb9)
  have HX9 := Aside0.mk (HX8.out.next hb9)
  rw [hw9]
  obtain ⟨b10, hb10⟩ : ∃ b10, w8.heap.size = b10 := ⟨_, rfl⟩
  rw [hb10]
  clear hb10 hw9 hb9 HB8 HR8 HM8 HX8 w8
  have HL9 := Aside0.mk (Kd.R_reads' HR9.out).2.2
  go_upto_region 10 with (first | ((with_reducible refine gate_dst (N := 61) rfl ?_); refine Kd.R_lit (Kd.int .u8) w9.heap.size 5 ?hg (N := 61) ?hd (xs := ([] : List (Int))) (inner := []) (ok := fun _ => True) (okp := fun _ => True) ?hr ?hp (fun _ hk => hk) trivial (Below.refl _ _) (Nat.le_refl _) (by simp) ?_; (case hd => rfl); (case hg => rfl); (case hr => first | (go_simp; done) | (go_simp; rfl)); (case hp => exact (Reps.none _ _)); intro v1 w10 ho1 hb hg_ hnew_; clear hg_ hnew_; have HO1 := Aside0.mk ho1; have HE1 := Aside0.mk hb; clear hb ho1) | ((with_reducible refine gate_builtin (b := .append) (xs := #[.tmp 61, .tmp 62]) rfl ?_); at_builtin; refine Kd.R_append_rows (Kd.int .u8) (w0 := w9) w9.heap.size rfl (.tmp 61) (.tmp 62) 22 5 (.int .u8 0) 1 rfl Try.underlying22 (by kernel_rfl) rfl (by decide) (by omega) v1 [] l _ _ _ (fun _ => True) (fun _ => False) rfl rfl ?aO ?aR (fun _ _ h => h) (fun _ h => h.elim) ?aF ?aB ?aS ?aL ?_; (case aO => exact HO1.out); (case aR => exact (Kd.C_below HL9.out HE1.out)); (case aF => exact (fun _ _ => trivial)); (case aB => exact HE1.out); (case aS => exact HE1.out.size); (case aL => have := HLN.out.2; simp only [List.length_nil]; omega); intro v2 w11 ho hb hg hat; rw [List.nil_append] at ho; have HO2 := Aside0.mk ho; have HE2 := Aside0.mk hb; clear ho hb hg hat HO1 HE1) | ((with_reducible refine gate_builtin (b := .append) (xs := #[.tmp 63, .tmp 65]) rfl ?_); at_builtin; refine Kd.R_append (Kd.int .u8) (w0 := w9) w9.heap.size rfl (.tmp 63) (.tmp 65) 22 5 (.int .u8 0) 1 rfl Try.underlying22 (by kernel_rfl) rfl (by decide) (by omega) v2 l c [.int .u8 c] (fun _ => True) (fun _ => False) rfl rfl ?bP (fun _ hk => hk.elim) ?bF ?bO ?bB ?bS ?bL ?_; (case bP => rfl); (case bF => exact (fun _ _ => trivial)); (case bO => exact HO2.out); (case bB => exact HE2.out); (case bS => exact HE2.out.size); (case bL => have := HLN.out.2; omega); intro v3 w12 ho hb hg hat; have HO3 := Aside0.mk ho; have HE3 := Aside0.mk hb; clear ho hb hg hat HO2 HE2))
  obtain ⟨Av, cv, ev⟩ := Kd.R_slice HO3.out
  have hlen3 : (l ++ [c]).length = l.length + 1 := by rw [List.length_append, List.length_singleton]
  rw [hlen3] at ev
  subst ev
  have HB12 := Aside0.mk (HB9.out.next HE3.out)
  have HM12 := Aside0.mk (HM9.out.below HE3.out)
  have HX12 := Aside0.mk (HX9.out.next HE3.out)
  obtain ⟨-, hcv, hcv3⟩ := Kd.R_reads' HO3.out
  rw [hlen3] at hcv3
  have hd3 := fun W (h : Kd.C KU W Av (l ++ [c]).length (l ++ [c])) => dec_c h (by rw [hlen3]; exact hcv) (fun x hx => by rcases List.mem_append.1 hx with hx | hx; exact HLB.out x hx; rw [List.mem_singleton] at hx; subst hx; exact HCB.out) 0 0 [] [] 3 (by rw [pNote_long HP.out]; rfl)
  simp only [hlen3] at hd3
  have D3 := Aside0.mk hd3
  have HCV := Aside0.mk hcv3
  clear hd3 hlen3 hcv hcv3 HB9 HM9 HX9 HO3 HE3 HR9 HL9
  go_upto_region 11 with (first | (go_at_call 10; refine (D3.out _ HCV.out).mono ?_; rintro e w13 ⟨R2, r2, R3, r3, rfl, -, hb⟩; have HB13 := Aside0.mk (HB12.out.next hb); have HM13 := Aside0.mk (HM12.out.below hb); have HX13 := Aside0.mk (HX12.out.next hb); clear HB12 HM12 HX12 hb D3 HCV))
  obtain ⟨w14, hw14⟩ : ∃ w14, (w13.alloc (.cells #[.int .i64 0, .int .i64 0, .slice R2 0 r2, .slice R3 0 r3] 27)).drew = w14 := ⟨_, rfl⟩
  have hb14 : Below w13.heap.size w13 w14 := by rw [← hw14]; exact ((Below.refl _ _).alloc (Nat.le_refl _) _).drew
  have HB14 := Aside0.mk (HB13.out.next hb14)
  have HM14 := Aside0.mk (HM13.out.below hb14)
  have HX14 := Aside0.mk (HX13.out.next hb14)
  clear HB13 HM13 HX13 hb14
  obtain ⟨b13, hb13⟩ : ∃ b13, w13.heap.size = b13 := ⟨_, rfl⟩
  rw [hb13]
  clear hb13
  refine start_ (n := 43) (S := fun w' => w'.cell? ⟨b1, 0, none⟩ = some (.int .i64 a) ∧ w'.cell? ⟨b1, 1, none⟩ = some (.int .i64 b) ∧ w'.cell? ⟨b1, 2, none⟩ = some (.slice A2 im.length c2) ∧ w'.cell? ⟨b1, 3, none⟩ = some (.slice A3 os.length c3) ∧ w'.cell? ⟨b8, 0, none⟩ = some (.int .i64 a) ∧ w'.cell? ⟨b8, 1, none⟩ = some (.int .i64 b) ∧ w'.cell? ⟨b8, 2, none⟩ = some (.slice P2 im.length p2) ∧ w'.cell? ⟨b8, 3, none⟩ = some (.slice P3 os.length p3)) (ds := [42]) #[false, false, false, false, false, false, false, false, false, false, false, false, false, false, false, false, false, false, false, false, false, false, false, false, false, false, false, false, false, false, false, false, false, false, false, false, false, false, false, false, false, false, false] rfl rfl rfl (by rw [hw14]; exact ⟨HB14.out.x0, HB14.out.x1, HB14.out.x2, HB14.out.x3, HX14.out.x0, HX14.out.x1, HX14.out.x2, HX14.out.x3⟩) (fun hHeld => ?_)
  refine with_tabW regB.tab11 regB.bits11 (fun HT_ HW_ => ?_)
  rw [hw14] at hHeld ⊢
  clear hw14 w13
  refine pz_ 0 72 HT_ ?_
  refine pz_ 1 73 HT_ ?_
  refine pz_ 2 74 HT_ ?_
  refine pz_ 3 75 HT_ ?_
  refine pz_ 4 76 HT_ ?_
  refine pz_ 5 77 HT_ ?_
  refine tz_ 6 78 HT_ HW_ hHeld ?_
  refine tz_ 8 80 HT_ HW_ hHeld ?_
  refine oz_ 7 79 HT_ (fun K hK => ?_)
  refine goes_ Try.func12 (by kernel_rfl) rfl #[.agg #[.int .i64 a, .int .i64 b, .slice P2 im.length p2, .slice P3 os.length p3]] (by rfl) rfl rfl ma_ ?_
  refine (theirs_c HM14.out a b).mono ?_
  rintro e w15 ⟨rfl, hb⟩
  refine ⟨_, rfl, ?_⟩
  have HB15 := Aside0.mk (HB14.out.next hb)
  have HX15 := Aside0.mk (HX14.out.next hb)
  have HM15 := Aside0.mk (HM14.out.below hb)
  refine hK.out _ _ ⟨HB15.out.x0, HB15.out.x1, HB15.out.x2, HB15.out.x3, HX15.out.x0, HX15.out.x1, HX15.out.x2, HX15.out.x3⟩ (fun hHeld => ?_)
  clear hK K hb HB14 HX14 HM14
  refine oz_ 9 81 HT_ (fun K hK => ?_)
  refine goes_ Try.func11 (by kernel_rfl) rfl #[.agg #[.int .i64 a, .int .i64 b, .slice P2 im.length p2, .slice P3 os.length p3], .agg #[.int .i64 a, .int .i64 b, .slice A2 im.length c2, .slice A3 os.length c3]] (by rfl) rfl rfl ma_ ?_
  refine (same_c HM15.out (HN.out.below HB15.out.below) a b HL.out.1 HL.out.2).mono ?_
  rintro e w16 ⟨rfl, hb⟩
  refine ⟨_, rfl, ?_⟩
  have HB16 := Aside0.mk (HB15.out.next hb)
  have HX16 := Aside0.mk (HX15.out.next hb)
  have HM16 := Aside0.mk (HM15.out.below hb)
  refine hK.out _ _ ⟨HB16.out.x0, HB16.out.x1, HB16.out.x2, HB16.out.x3, HX16.out.x0, HX16.out.x1, HX16.out.x2, HX16.out.x3⟩ (fun hHeld => ?_)
  clear hK K hb HB15 HX15 HM15
  refine pz_ 10 82 HT_ ?_
  refine pz_ 11 83 HT_ ?_
  refine pz_ 12 84 HT_ ?_
  refine pz_ 13 85 HT_ ?_
  refine pz_ 14 86 HT_ ?_
  refine pz_ 15 87 HT_ ?_
  refine pz_ 16 88 HT_ ?_
  refine pz_ 17 89 HT_ ?_
  refine pz_ 18 90 HT_ ?_
  refine pz_ 19 91 HT_ ?_
  refine pz_ 20 92 HT_ ?_
  refine pz_ 21 93 HT_ ?_
  refine tz_ 22 94 HT_ HW_ hHeld ?_
  refine oz_ 23 95 HT_ (fun K hK => ?_)
  refine goes_ Try.func16 (by kernel_rfl) rfl #[.agg #[.int .i64 a, .int .i64 b, .slice A2 im.length c2, .slice A3 os.length c3]] (by rfl) rfl rfl ma_ ?_
  refine (C16.out _ (HN.out.below HB16.out.below)).mono ?_
  rintro e w17 ⟨rfl, hb⟩
  refine ⟨_, rfl, ?_⟩
  have HB17 := Aside0.mk (HB16.out.next hb)
  have HX17 := Aside0.mk (HX16.out.next hb)
  have HM17 := Aside0.mk (HM16.out.below hb)
  refine hK.out _ _ ⟨HB17.out.x0, HB17.out.x1, HB17.out.x2, HB17.out.x3, HX17.out.x0, HX17.out.x1, HX17.out.x2, HX17.out.x3⟩ (fun hHeld => ?_)
  clear hK K hb HB16 HX16 HM16
  refine oz_ 24 96 HT_ (fun K hK => ?_)
  refine goes_ Try.func17 (by kernel_rfl) rfl #[.agg #[.int .i64 a, .int .i64 b, .slice A2 im.length c2, .slice A3 os.length c3]] (by rfl) rfl rfl ma_ ?_
  refine (C17.out _ (HN.out.below HB17.out.below)).mono ?_
  rintro e w18 ⟨rfl, hb⟩
  refine ⟨_, rfl, ?_⟩
  have HB18 := Aside0.mk (HB17.out.next hb)
  have HX18 := Aside0.mk (HX17.out.next hb)
  have HM18 := Aside0.mk (HM17.out.below hb)
  refine hK.out _ _ ⟨HB18.out.x0, HB18.out.x1, HB18.out.x2, HB18.out.x3, HX18.out.x0, HX18.out.x1, HX18.out.x2, HX18.out.x3⟩ (fun hHeld => ?_)
  clear hK K hb HB17 HX17 HM17
  refine pz_ 25 97 HT_ ?_
  refine pz_ 26 98 HT_ ?_
  refine pz_ 27 99 HT_ ?_
  refine pz_ 28 100 HT_ ?_
  refine pz_ 29 101 HT_ ?_
  refine pz_ 30 102 HT_ ?_
  refine tz_ 31 103 HT_ HW_ hHeld ?_
  refine pz_ 32 104 HT_ ?_
  refine pz_ 33 105 HT_ ?_
  refine pz_ 34 106 HT_ ?_
  refine pz_ 35 107 HT_ ?_
  refine tz_ 36 108 HT_ HW_ hHeld ?_
  refine pz_ 37 109 HT_ ?_
  refine pz_ 38 110 HT_ ?_
  refine pz_ 39 111 HT_ ?_
  refine pz_ 40 112 HT_ ?_
  refine pz_ 41 113 HT_ ?_
  refine last_ (i := 42) (N := some 4) #[true, true, true, true, true, true, true, true, true, true, true, true, true, true, true, true, true, true, true, true, true, true, true, true, true, true, true, true, true, true, true, true, true, true, true, true, true, true, true, true, true, true, true] rfl rfl (one_of HT_.out (by kernel_rfl)) (by decide) (fun K hK => ?_)
  have hfin := HFIN.out
  refine value_ (v := .bool true) (w1 := w18) (by rfl) rfl (by first | (go_simp; done) | (go_simp; rfl)) ?_
  refine hK.out _ _ ?_
  clear hK K
  refine done_ (done_of HT_.out (by kernel_rfl)) ?_
  clear HT_ HW_ hHeld
  go_wp2
  go_ret
  exact ⟨rfl, HB18.out.below⟩
end
end Go.Proofs.Ythcikbbglpdjhaa.Q
