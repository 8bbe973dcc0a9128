import Derived.Test.YtajghkmjgedikaaS26
namespace Go.Proofs.Ytajghkmjgedikaa.Q
open Go.RowKit Go.Proofs.YtajghkmjgedikaaW Go.Proofs.YtajghkmjgedikaaW.PrintWords Go.Proofs.YtajghkmjgedikaaW.PrintLast Go.Proofs.YtajghkmjgedikaaW.PrintMore
set_option linter.unusedVariables false
set_option linter.unusedSimpArgs false
def reg4.T17 : Bool × List (List Nat × List Nat) := (true, [([], []), ([0], [0]), ([1], [1]), ([2], [2]), ([], []), ([4], [4]), ([5], [5]), ([6], [6]), ([], []), ([7, 8], [7, 8]), ([9], [9]), ([3, 10], [3, 10]), ([], []), ([12], [12]), ([13], [13]), ([14], [14]), ([], []), ([15, 16], [15, 16]), ([17], [17]), ([11, 18], [11, 18])])
def reg4.B17 : List Nat := [0, 1, 3, 7, 0, 16, 48, 112, 0, 496, 1008, 2047, 0, 4096, 12288, 28672, 0, 126976, 258048, 524287]
theorem reg4.tab17 : rtab .any (opsOf Try.f4 17) = reg4.T17 := by kernel_rfl
theorem reg4.bits17 : waitsOk reg4.T17.2 reg4.B17 = true := by kernel_rfl
def reg4.T22 : Bool × List (List Nat × List Nat) := (true, [([], []), ([0], [0]), ([1], [1]), ([2], [2]), ([], []), ([3, 4], [3, 4]), ([5], [5]), ([], []), ([7], [7]), ([8], [8]), ([9], [9]), ([], []), ([10, 11], [10, 11]), ([12], [12]), ([6, 13], [6, 13])])
def reg4.B22 : List Nat := [0, 1, 3, 7, 0, 31, 63, 0, 128, 384, 896, 0, 3968, 8064, 16383]
theorem reg4.tab22 : rtab .any (opsOf Try.f4 22) = reg4.T22 := by kernel_rfl
theorem reg4.bits22 : waitsOk reg4.T22.2 reg4.B22 = true := by kernel_rfl
def reg4.T28 : Bool × List (List Nat × List Nat) := (true, [([], []), ([0], [0]), ([1], [1]), ([2], [2]), ([2], [2]), ([4, 2], [2, 4]), ([5, 2], [2, 5]), ([6, 2], [2, 6]), ([7, 2], [2, 7]), ([3, 8, 2], [2, 3, 8]), ([9, 2, 2], [2, 9]), ([10], [10]), ([11, 10], [10, 11]), ([12, 10], [10, 12]), ([13, 10], [10, 13]), ([10], [10]), ([15, 10], [10, 15]), ([16, 10], [10, 16]), ([17, 10], [10, 17]), ([10], [10]), ([18, 19, 10], [10, 18, 19]), ([20, 10], [10, 20]), ([10], [10]), ([14, 21, 22, 10, 10], [10, 14, 21, 22]), ([23, 10], [10, 23]), ([10, 24, 2], [2, 10, 24]), ([25, 23, 2], [2, 25]), ([26], [26]), ([27, 26], [26, 27]), ([28, 26], [26, 28]), ([29, 26], [26, 29]), ([26], [26]), ([30, 31, 26, 26], [26, 30, 31]), ([26], [26]), ([33, 26], [26, 33]), ([34, 26], [26, 34]), ([35, 26], [26, 35]), ([26], [26]), ([36, 37, 26], [26, 36, 37]), ([38, 26], [26, 38]), ([39, 26], [26, 39]), ([32, 40, 26], [26, 32, 40]), ([26, 41, 2], [2, 26, 41]), ([2, 42], [2, 42]), ([43, 32], [43]), ([44], [44]), ([45, 44], [44, 45]), ([46, 44, 44], [44, 46]), ([47], [47]), ([48, 47], [47, 48]), ([49, 47], [47, 49]), ([50, 47], [47, 50]), ([47], [47]), ([51, 52, 47, 47], [47, 51, 52]), ([53, 47], [47, 53]), ([47, 54, 44], [44, 47, 54]), ([44, 55], [44, 55])])
def reg4.B28 : List Nat := [0, 1, 3, 7, 7, 23, 55, 119, 247, 511, 1023, 2047, 4095, 8191, 16383, 2047, 34815, 100351, 231423, 2047, 1017855, 2066431, 2047, 8388607, 16777215, 33554431, 67108863, 134217727, 268435455, 536870911, 1073741823, 134217727, 4294967295, 134217727, 8724152319, 25904021503, 60263759871, 134217727, 266422190079, 541300097023, 1091055910911, 2199023255551, 4398046511103, 8796093022207, 17592186044415, 35184372088831, 70368744177663, 140737488355327, 281474976710655, 562949953421311, 1125899906842623, 2251799813685247, 281474976710655, 9007199254740991, 18014398509481983, 36028797018963967, 72057594037927935]
theorem reg4.tab28 : rtab .any (opsOf Try.f4 28) = reg4.T28 := by kernel_rfl
theorem reg4.bits28 : waitsOk reg4.T28.2 reg4.B28 = true := by kernel_rfl

section
variable {ops : Array Oper} {rest : List Oper} {op : Oper} {a : Act} {w : World} {Q : Exit → Act → World → Prop}
theorem ld44 (x : Operand) (g : Nat) (cs : Array Value) (hb : w.rangeAt g 0 cs.toList) (hs : cs.size = 48) (h : wpList Try.prog ops Q rest (a.put op.dst (.agg cs)) w)
    (ho : op.op = .load 28 x := by rfl) (hx : a.eval x = .pointer (some ⟨g, 0, none⟩) := by rfl) (hw : Region.wanted op (yielded ops a.tmps) = true := by rfl) : wpList Try.prog ops Q (op :: rest) a w := by
  refine wpList_step fun K hK => ?_
  rw [hw, if_pos rfl]
  refine wp_load_mid 28 x ho g 0 hx cs.toList _ hb Try.underlying28 rfl (by rw [Array.length_toList, hs]; kernel_rfl) (hK _ _ ?_)
  exact h
end
def zO (j : Nat) : List Int := List.replicate j (-1) ++ List.replicate (64 - j) 0
theorem zO_succ (j : Nat) (hj : j < 64) : (zO j).set j (-1) = zO (j + 1) := by
  unfold zO
  rw [List.set_append_right _ _ (by simp), List.length_replicate, Nat.sub_self]
  obtain ⟨q, hq⟩ : ∃ q, 64 - j = q + 1 := ⟨63 - j, by omega⟩
  rw [hq, List.replicate_succ, List.set_cons_zero, show 64 - (j + 1) = q by omega, List.replicate_succ' (n := j), List.append_assoc]
  rfl
def m0 (O : List Int) : Mdl := ⟨z_st, z_op, z_ls, [], [], O⟩
set_option maxRecDepth 100000 in
set_option maxHeartbeats 6400000 in
theorem stale_walk (A : Option Addr) (c : Nat) (l : List S47) (w : World) (hr : Kd.C k47 w A l.length l) (hc : l.length ≤ c) :
    Calls Try.prog 4 #[.slice A l.length c] w fun e w' => e = .returned (.bool true) ∧ Below w.heap.size w w' := by
  have HR := Aside0.mk hr
  have HCC := Aside0.mk hc
  have hmax : l.length ≤ 9223372036854775807 := hr.2.1
  clear hr hc
  by_cases hlen : (l.length : Int) > 120
  · go_enter Try.func4, Try.ntmps4
    go_wp2_with (go_at_call 6; refine (awake_ok _).mono ?_; rintro e w1 ⟨rfl, hb1⟩; have HB1 := Aside0.mk hb1; clear hb1)
    go_ret
    exact ⟨rfl, HB1.out⟩
  have hl120 : l.length ≤ 120 := by omega
  go_enter Try.func4, Try.ntmps4
  have hmk : ∀ W : World, (Instr.makeSlice 23 (.int .i64 64) (.int .i64 64)).run Try.prog W = .ok (.slice (some ⟨W.heap.size, 0, none⟩) 64 64) (W.alloc (.cells (madeCells #[.int .i64 0] 64) 3)) := fun W => print_make 23 3 .i64 8 Try.underlying23 (by kernel_rfl) (by decide) 64 (by decide) W
  go_upto_region 5 with (go_at_call 6; refine (awake_ok _).mono ?_; rintro e w1 ⟨rfl, hb1⟩; have HB1 := Aside0.mk hb1; clear hb1)
  have hst : Wx w (w1.heap.size + 1) w1.heap.size (m0 (zO 0)) ((w1.alloc (.cells (madeCells #[.int .i64 0] 64) 3)).alloc (.cells (Z48 ++ #[.slice none 0 0, .slice none 0 0, .slice (some ⟨w1.heap.size, 0, none⟩) 64 64]) 44)) := by
    have hb1 := HB1.out
    have e1 := blk_new (w1.alloc (.cells (madeCells #[.int .i64 0] 64) 3)) (.cells (Z48 ++ #[.slice none 0 0, .slice none 0 0, .slice (some ⟨w1.heap.size, 0, none⟩) 64 64]) 44)
    rw [show (w1.alloc (.cells (madeCells #[.int .i64 0] 64) 3)).heap.size = w1.heap.size + 1 by simp] at e1
    refine ⟨(hb1.alloc hb1.size _).alloc (by simp; have := hb1.size; omega) _, by have := hb1.size; omega, Z48, fun _ => .slice none 0 0, .slice none 0 0, .slice none 0 0, ⟨e1, rfl⟩, z_cells, z_rows' _, fun i hi k hk => by simp [Value.ownBlock] at hk, Kd.R_nil _ _ _ _ _, Kd.R_nil _ _ _ _ _, ?_⟩
    have ho := Kd.R_of_own (α := Int) (enc := Value.int .i64) (h1 := fun _ => rfl) (xs := List.replicate 64 0) (own_made w1 w.heap.size 3 .i64 64 hb1.size (by decide)) (ok := fun k => k = w1.heap.size) (fun k hk => by injection hk with hk; exact hk.symm)
    exact Kd.R_alloc ho _
  have HST := Aside0.mk hst
  clear hst
  go_wp2
  clear hmk HB1
  generalize w1.heap.size + 1 = g at HST ⊢
  generalize w1.heap.size = go at HST ⊢
  go_loopg [5] 64 (fun gg s5 wr => ∃ j : Nat, j ≤ 64 ∧ 64 - j ≤ gg ∧ s5 = .int .i64 j ∧ Aside0 (Wx w g go (m0 (zO j)) wr))
  case atStart =>
    exact ⟨0, Nat.zero_le _, by omega, rfl, HST⟩
  case round =>
    obtain ⟨j, hj, hgj, rfl, HX⟩ := hrel
    clear HST
    by_cases hlt : j < 64
    · obtain ⟨k1, k2, k3⟩ := HX.out.own_at j hlt
      have hn := HX.out.own_set j (-1)
      have HN := Aside0.mk (show Wx w g go (m0 (zO (j + 1))) _ by have := hn; rw [show ({ m0 (zO j) with O := (m0 (zO j)).O.set j (-1) } : Mdl) = m0 (zO (j + 1)) by (unfold m0; simp only [zO_succ j hlt])] at this; exact this)
      clear hn
      generalize (m0 (zO j)).o j = u at k2
      go_wp2
      go_roundg (64 - (j + 1))
      case measure => omega
      case rel => exact ⟨j + 1, by omega, by omega, by go_num, HN⟩
    · have : j = 64 := by omega
      subst this
      have HWD := Aside0.mk (HX.out.wd (show Inv (m0 (zO 64)) from Inv.start))
      have hm0 : (m0 (zO 64)).H.length = 0 := rfl
      generalize m0 (zO 64) = mm at HWD hm0
      clear HX hlt hgj hj
      go_wp2
      go_loopg [6] l.length (fun gg s6 wr => ∃ (j : Nat) (m : Mdl), j ≤ l.length ∧ l.length - j ≤ gg ∧ s6 = .int .i64 j ∧ m.H.length ≤ j ∧ Aside0 (Wd w g go m wr))
      case atStart =>
        exact ⟨0, mm, Nat.zero_le _, by omega, rfl, by omega, HWD⟩
      case round =>
        obtain ⟨j, m, hj, hgj, rfl, hmj, HM⟩ := hrel
        clear HWD hm0
        by_cases hlt : j < l.length
        · obtain ⟨ad, rfl, x1, x2, x3⟩ := at_T47 (Kd.C_below HR.out HM.out.be) (j : Int) (by omega) (by omega)
          rw [Int.toNat_natCast] at x1 x2 x3
          generalize rd_T47 l (j : Int) = act at x1 x2 x3
          obtain ⟨f0, f1, f2⟩ := act
          simp only at x1 x2 x3
          have hdo := Aside0.mk (do_walk w g go m wr HM.out (by omega) f0 f1 f2)
          go_wp2_with (go_at_call 11; refine hdo.out.mono ?_; clear hdo x1 x2 x3; rintro e w5 ⟨rfl, m', hm', hl'⟩; have HM' := Aside0.mk hm'; clear hm')
          go_roundg (l.length - (j + 1))
          case measure => omega
          case rel => exact ⟨j + 1, m', by omega, by omega, by go_num, by omega, HM'⟩
        · have : j = l.length := by omega
          subst this
          go_wp2
          have HN := Aside0.mk (show m.H.length ≤ 120 by omega)
          obtain ⟨n, hn⟩ : ∃ n, m.H.length = n := ⟨_, rfl⟩
          have HNN := Aside0.mk hn
          have hn120 : n ≤ 120 := by omega
          clear hmj hn hj hgj hlt
          go_loopg [7] n (fun gg s7 wr => ∃ i : Nat, i ≤ n ∧ n - i ≤ gg ∧ s7 = .int .i64 i ∧ Aside0 (Wd w g go m wr))
          case atStart =>
            exact ⟨0, Nat.zero_le _, by omega, rfl, HM⟩
          case round =>
            obtain ⟨i, hi, hgi, rfl, HM1⟩ := hrel
            clear HM
            obtain ⟨cs, tx, v1, v2, hbw, hcl, hrw, hab, hH, hC, hO⟩ := HM1.out.ex
            obtain ⟨A1, c1, rfl, hc1, hr1⟩ := Kd.R_reads hH
            have z48_ := hbw.c1
            rw [HNN.out] at z48_
            have HRG := Aside0.mk hbw.range
            have HCS := Aside0.mk hcl.size
            have HCL := Aside0.mk hcl
            clear hbw hcl hrw hab hH hC hO hc1 hr1
            by_cases hlt : i < n
            · obtain ⟨ad, ch, y1, y2, y3⟩ := HM1.out.x.all_at i (by rw [HNN.out]; exact hlt)
              rw [HNN.out] at y1
              obtain ⟨rfl, rfl⟩ : A1 = some ad ∧ c1 = ch := by
                rw [z48_] at y1
                injection y1 with y1
                injection y1 with y4 _ y5
                exact ⟨y4, y5⟩
              obtain ⟨s, hs, e0, _, _⟩ := HM1.out.inv.slot i (by rw [HNN.out]; exact hlt)
              rw [e0] at y2
              obtain ⟨gc, cc, k2, k3⟩ := HM1.out.x.shut_at i (by rw [HM1.out.inv.len, HNN.out]; exact hlt)
              rw [HM1.out.inv.len, HNN.out] at k2
              have hlv := HM1.out.inv.live i (by rw [HNN.out]; exact hlt)
              unfold Mdl.live at hlv
              rw [e0] at hlv
              obtain ⟨p, hp⟩ : ∃ p, (m.h i).f1 = p := ⟨_, rfl⟩
              rw [hp] at y3 hlv
              obtain ⟨bb, hbb⟩ : ∃ bb, m.c i = bb := ⟨_, rfl⟩
              rw [hbb] at k3 hlv
              have hlc := Aside0.mk (fun W => live_at cs m.st m.op tx HCL.out (s : Int) p W (!bb) hlv)
              have E0 := Aside0.mk e0
              have EP := Aside0.mk hp
              clear e0 hp hbb hlv y1
              go_upto_region 17 with (fail)
              refine start_ (n := 20) (S := fun w' => w'.rangeAt g 0 cs.toList ∧ w'.cell? ⟨g, 48, none⟩ = some (.slice (some ad) n c1) ∧ w'.cell? (ad.add (i * 2)) = some (.int .i64 (s : Int)) ∧ w'.cell? ⟨(ad.add (i * 2)).block, (ad.add (i * 2)).off + 1, none⟩ = some (.int .i64 p) ∧ w'.cell? ⟨g, 49, none⟩ = some (.slice (some ⟨gc, 0, none⟩) n cc) ∧ w'.cell? ⟨gc, i, none⟩ = some (.bool bb)) (ds := []) #[false, false, false, false, false, false, false, false, false, false, false, false, false, false, false, false, false, false, false, false] rfl rfl rfl ⟨drew_range HRG.out, z48_, y2, y3, k2, k3⟩ (fun hHeld => ?_)
              refine with_tabW reg4.tab17 reg4.bits17 (fun HT_ HW_ => ?_)
              have HWD := Aside0.mk (HM1.out.below (below_drew1 (Below.refl _ _)))
              have q1 : (0 ≤ (i : Int)) = True := eq_true (by omega)
              have q2 : ((i : Int) < (n : Int)) = True := eq_true (by omega)
              clear z48_ y2 y3 k2 k3 HM1 HRG
              generalize wr.drew = w2 at *
              refine pz_ 0 51 HT_ ?_
              refine pz_ 1 52 HT_ ?_
              refine pz_ 2 53 HT_ ?_
              refine tz_ 3 54 HT_ HW_ hHeld ?_ (hy := yieldsIf_load_mid (by rfl) 28 (.tmp 53) rfl g 0 rfl cs.toList _ (fun _ h => h.1) Try.underlying28 rfl (by rw [Array.length_toList, HCS.out]; kernel_rfl))
              refine pz_ 4 55 HT_ ?_
              refine pz_ 5 56 HT_ ?_
              refine pz_ 6 57 HT_ ?_
              refine tz_ 7 58 HT_ HW_ hHeld ?_
              refine pz_ 8 59 HT_ ?_
              refine pz_ 9 60 HT_ ?_
              refine tz_ 10 61 HT_ HW_ hHeld ?_
              refine pz_ 12 63 HT_ ?_
              refine pz_ 13 64 HT_ ?_
              refine pz_ 14 65 HT_ ?_
              refine tz_ 15 66 HT_ HW_ hHeld ?_
              refine pz_ 16 67 HT_ ?_
              refine pz_ 17 68 HT_ ?_
              refine tz_ 18 69 HT_ HW_ hHeld ?_
              refine oz_ 11 62 HT_ (fun K hK => ?_)
              refine goes_ Try.func9 (by kernel_rfl) rfl #[.agg cs, .agg #[.int .i64 (s : Int), .int .i64 p]] (by rfl) rfl rfl ma_ ?_
              refine (hlc.out _).mono ?_
              rintro e w1 ⟨rfl, hb⟩
              refine ⟨_, rfl, ?_⟩
              have HW1 := Aside0.mk (HWD.out.below hb)
              refine hK.out _ _ ⟨hr_ hb hHeld.1, hh_ hb hHeld.2.1, hh_ hb hHeld.2.2.1, hh_ hb hHeld.2.2.2.1, hh_ hb hHeld.2.2.2.2.1, hh_ hb hHeld.2.2.2.2.2⟩ (fun hHeld => ?_)
              clear hK K hb HWD
              refine norm_ (a' := ?_) ?_ ?_
              rotate_left
              · show Act.put _ (some 62) _ = _
                simp only [Act.put, List.setIfInBounds_toArray, List.set_cons_zero, List.set_cons_succ]
                rfl
              have hbe : ((!bb) == bb) = false := by cases bb <;> rfl
              refine pz_ 19 70 HT_ ?_
              refine done_ (done_of HT_.out (by kernel_rfl)) ?_
              clear HT_ HW_ hHeld hlc
              simp only [Exit.inBlock, Exit.then]
              go_wp2
              go_loopg [8] i (fun gg s8 wr => ∃ k : Nat, k ≤ i ∧ i - k ≤ gg ∧ s8 = .int .i64 k ∧ Aside0 (Wd w g go m wr))
              case atStart =>
                exact ⟨0, Nat.zero_le _, by omega, rfl, HW1⟩
              case round =>
                obtain ⟨k, hk, hgk, rfl, HM2⟩ := hrel
                clear HW1
                by_cases hki : k < i
                · have hdist : m.h k ≠ m.h i := fun e => by have := HM2.out.inv.dist k i (by rw [HNN.out]; omega) (by rw [HNN.out]; omega) e; omega
                  obtain ⟨ad1, ch1, y1, y2, y3⟩ := HM2.out.x.all_at k (by rw [HNN.out]; omega)
                  obtain ⟨ad2, ch2, z1, z2, z3⟩ := HM2.out.x.all_at i (by rw [HNN.out]; omega)
                  rw [HNN.out] at y1 z1
                  obtain ⟨rfl, rfl⟩ : ad1 = ad2 ∧ ch1 = ch2 := by
                    rw [z1] at y1
                    injection y1 with y1
                    injection y1 with y4 _ y5
                    injection y4 with y4
                    exact ⟨y4.symm, y5.symm⟩
                  obtain ⟨a1, ha1⟩ : ∃ a, (m.h k).f0 = a := ⟨_, rfl⟩
                  obtain ⟨a2, ha2⟩ : ∃ a, (m.h k).f1 = a := ⟨_, rfl⟩
                  obtain ⟨b1, hb1⟩ : ∃ a, (m.h i).f0 = a := ⟨_, rfl⟩
                  obtain ⟨b2, hb2⟩ : ∃ a, (m.h i).f1 = a := ⟨_, rfl⟩
                  have hne : ((a1 == b1) && (a2 == b2)) = false := by
                    cases e : ((a1 == b1) && (a2 == b2)) with
                    | false => rfl
                    | true =>
                      rw [Bool.and_eq_true, beq_iff_eq, beq_iff_eq] at e
                      refine absurd ?_ hdist
                      cases h1 : m.h k
                      cases h2 : m.h i
                      rw [h1] at ha1 ha2
                      rw [h2] at hb1 hb2
                      simp only at ha1 ha2 hb1 hb2
                      rw [ha1, ha2, hb1, hb2, e.1, e.2]
                  rw [ha1] at y2
                  rw [ha2] at y3
                  rw [hb1] at z2
                  rw [hb2] at z3
                  clear hdist ha1 ha2 hb1 hb2 z1
                  go_upto_region 22 with (fail)
                  refine start_ (n := 15) (S := fun w' => w'.cell? ⟨g, 48, none⟩ = some (.slice (some ad1) n ch1) ∧ w'.cell? (ad1.add (k * 2)) = some (.int .i64 a1) ∧ w'.cell? ⟨(ad1.add (k * 2)).block, (ad1.add (k * 2)).off + 1, none⟩ = some (.int .i64 a2) ∧ w'.cell? (ad1.add (i * 2)) = some (.int .i64 b1) ∧ w'.cell? ⟨(ad1.add (i * 2)).block, (ad1.add (i * 2)).off + 1, none⟩ = some (.int .i64 b2)) (ds := []) #[false, false, false, false, false, false, false, false, false, false, false, false, false, false, false] rfl rfl rfl ⟨y1, y2, y3, z2, z3⟩ (fun hHeld => ?_)
                  refine with_tabW reg4.tab22 reg4.bits22 (fun HT_ HW_ => ?_)
                  have HWD := Aside0.mk (HM2.out.below (below_drew1 (Below.refl _ _)))
                  have q3 : (0 ≤ (k : Int)) = True := eq_true (by omega)
                  have q4 : ((k : Int) < (n : Int)) = True := eq_true (by omega)
                  clear y1 y2 y3 z2 z3 HM2
                  generalize wr.drew = w3 at *
                  refine pz_ 0 76 HT_ ?_
                  refine pz_ 1 77 HT_ ?_
                  refine pz_ 2 78 HT_ ?_
                  refine tz_ 3 79 HT_ HW_ hHeld ?_
                  refine pz_ 4 80 HT_ ?_
                  refine pz_ 5 81 HT_ ?_
                  refine tz_ 6 82 HT_ HW_ hHeld ?_
                  refine pz_ 7 83 HT_ ?_
                  refine pz_ 8 84 HT_ ?_
                  refine pz_ 9 85 HT_ ?_
                  refine tz_ 10 86 HT_ HW_ hHeld ?_
                  refine pz_ 11 87 HT_ ?_
                  refine pz_ 12 88 HT_ ?_
                  refine tz_ 13 89 HT_ HW_ hHeld ?_
                  refine pz_ 14 90 HT_ ?_ (v := .bool false) (hy := Or.inl ⟨by rfl, fun w' => by go_simp; by_cases e1 : a1 = b1 <;> by_cases e2 : a2 = b2 <;> simp [e1, e2] <;> simp [e1, e2] at hne⟩)
                  refine done_ (done_of HT_.out (by kernel_rfl)) ?_
                  clear HT_ HW_ hHeld
                  simp only [Exit.inBlock, Exit.then]
                  go_wp2
                  go_roundg (i - (k + 1))
                  case measure => omega
                  case rel => exact ⟨k + 1, by omega, by omega, by go_num, HWD⟩
                · have : k = i := by omega
                  subst this
                  go_wp2
                  go_roundg (n - (k + 1))
                  case measure => omega
                  case rel => exact ⟨k + 1, by omega, by omega, by go_num, HM2⟩
            · have e : n = i := by omega
              subst e
              go_wp2
              go_loopg [9] 64 (fun gg s9 wr => ∃ x : Nat, x ≤ 64 ∧ 64 - x ≤ gg ∧ s9 = .int .i64 x ∧ Aside0 (Wd w g go m wr))
              case atStart =>
                exact ⟨0, Nat.zero_le _, by omega, rfl, HM1⟩
              case round =>
                obtain ⟨x, hx, hgx, rfl, HM4⟩ := hrel
                clear HM1 z48_ HCL HRG HCS
                obtain ⟨cs, tx, v1, v2, hbw, hcl, hrw, hab, hH, hC, hO⟩ := HM4.out.ex
                have HRG := Aside0.mk hbw.range
                have HCS := Aside0.mk hcl.size
                have HCL := Aside0.mk hcl
                have HRW := Aside0.mk hrw
                clear hbw hrw hab hH hC hO
                by_cases hx64 : x < 64
                · obtain ⟨w50, wox, _⟩ := HM4.out.x.own_at x hx64
                  rcases HM4.out.inv.own x hx64 with ⟨ho, hno⟩ | ⟨k, s, hk, hs, ho, hli, hf0, hin⟩
                  · rw [ho] at wox
                    have hwho := Aside0.mk (fun W (hr : Rows3 W m.ls tx) => whose_at (x : Int) cs m.st m.op m.ls tx HCL.out W hr (-1) (whoseT_none hno))
                    clear ho hno hcl
                    go_upto_region 28 with (fail)
                    clear w50 wox
                    refine start_ (n := 57) (S := fun w' => w'.rangeAt g 0 cs.toList) (ds := []) #[false, false, false, false, false, false, false, false, false, false, false, false, false, false, false, false, false, false, false, false, false, false, false, false, false, false, false, false, false, false, false, false, false, false, false, false, false, false, false, false, false, false, false, false, false, false, false, false, false, false, false, false, false, false, false, false, false] rfl rfl rfl (drew_range HRG.out) (fun hHeld => ?_)
                    refine with_tabW reg4.tab28 reg4.bits28 (fun HT_ HW_ => ?_)
                    have HWD := Aside0.mk (HM4.out.below (below_drew1 (Below.refl _ _)))
                    have HRD := Aside0.mk (HRW.out.below (below_drew1 (Below.refl _ _)))
                    clear HM4 HRG HRW
                    generalize wr.drew = w6 at *
                    refine pz_ 0 102 HT_ ?_
                    refine pz_ 1 103 HT_ ?_
                    refine pz_ 2 104 HT_ ?_
                    refine pn_ 3 105 HT_ ?_
                    refine pn_ 4 106 HT_ ?_
                    refine pn_ 5 107 HT_ ?_
                    refine pn_ 6 108 HT_ ?_
                    refine pn_ 7 109 HT_ ?_
                    refine pn_ 8 110 HT_ ?_
                    refine pn_ 9 111 HT_ ?_
                    refine pn_ 10 112 HT_ ?_
                    refine pn_ 11 113 HT_ ?_
                    refine pn_ 12 114 HT_ ?_
                    refine pn_ 13 115 HT_ ?_
                    refine pn_ 14 116 HT_ ?_
                    refine pn_ 15 117 HT_ ?_
                    refine pn_ 16 118 HT_ ?_
                    refine pn_ 17 119 HT_ ?_
                    refine pn_ 18 120 HT_ ?_
                    refine pn_ 19 121 HT_ ?_
                    refine pn_ 20 122 HT_ ?_
                    refine pn_ 21 123 HT_ ?_
                    refine pn_ 22 124 HT_ ?_
                    refine pn_ 23 125 HT_ ?_
                    refine pn_ 24 126 HT_ ?_
                    refine pn_ 25 127 HT_ ?_
                    refine pn_ 26 128 HT_ ?_
                    refine pn_ 27 129 HT_ ?_
                    refine pn_ 28 130 HT_ ?_
                    refine pn_ 29 131 HT_ ?_
                    refine pn_ 30 132 HT_ ?_
                    refine pn_ 31 133 HT_ ?_
                    refine pn_ 32 134 HT_ ?_
                    refine pn_ 33 135 HT_ ?_
                    refine pn_ 34 136 HT_ ?_
                    refine pn_ 35 137 HT_ ?_
                    refine pn_ 36 138 HT_ ?_
                    refine pn_ 37 139 HT_ ?_
                    refine pn_ 38 140 HT_ ?_
                    refine pn_ 39 141 HT_ ?_
                    refine pn_ 40 142 HT_ ?_
                    refine pn_ 41 143 HT_ ?_
                    refine pn_ 42 144 HT_ ?_
                    refine pz_ 43 145 HT_ ?_
                    refine pz_ 44 146 HT_ ?_
                    refine pz_ 45 147 HT_ ?_
                    refine pz_ 46 148 HT_ ?_
                    refine pz_ 47 149 HT_ ?_
                    refine pz_ 48 150 HT_ ?_
                    refine pz_ 49 151 HT_ ?_
                    refine pz_ 50 152 HT_ ?_
                    refine tz_ 51 153 HT_ HW_ hHeld ?_ (hy := yieldsIf_load_mid (by rfl) 28 (.tmp 152) rfl g 0 rfl cs.toList _ (fun _ h => h) Try.underlying28 rfl (by rw [Array.length_toList, HCS.out]; kernel_rfl))
                    refine pz_ 52 154 HT_ ?_
                    refine oz_ 53 155 HT_ (fun K hK => ?_)
                    refine goes_ Try.func13 (by kernel_rfl) rfl #[.agg cs, .int .i64 (x : Int)] (by rfl) rfl rfl ma_ ?_
                    refine (hwho.out _ HRD.out).mono ?_
                    rintro e w8 ⟨rfl, hb⟩
                    refine ⟨_, rfl, ?_⟩
                    have HW8 := Aside0.mk (HWD.out.below hb)
                    refine hK.out _ _ (hr_ hb hHeld) (fun hHeld => ?_)
                    clear hK K hb HWD HRD
                    refine norm_ (a' := ?_) ?_ ?_
                    rotate_left
                    · show Act.put _ (some 155) _ = _
                      simp only [Act.put, List.setIfInBounds_toArray, List.set_cons_zero, List.set_cons_succ]
                      rfl
                    refine pz_ 54 156 HT_ ?_
                    refine pz_ 55 157 HT_ ?_
                    refine pz_ 56 158 HT_ ?_
                    refine done_ (done_of HT_.out (by kernel_rfl)) ?_
                    clear HT_ HW_ hHeld
                    simp only [Exit.inBlock, Exit.then]
                    go_wp2
                    go_roundg (64 - (x + 1))
                    case measure => omega
                    case rel => exact ⟨x + 1, by omega, by omega, by go_num, HW8⟩
                  · rw [ho] at wox
                    rw [HNN.out] at hk
                    obtain ⟨ad, ch, y1, y2, y3⟩ := HM4.out.x.all_at k (by rw [HNN.out]; exact hk)
                    rw [HNN.out] at y1
                    have hl2 := hli
                    unfold Mdl.live at hl2
                    rw [hf0] at hl2
                    obtain ⟨o1, o2⟩ := (live_iff hs).1 hl2
                    rw [hf0] at y2
                    obtain ⟨p, hp⟩ : ∃ p, (m.h k).f1 = p := ⟨_, rfl⟩
                    rw [hp] at y3 o2
                    have hhas := Aside0.mk (fun W (hr : Rows3 W m.ls tx) => has_live cs m.st m.op m.ls tx HCL.out W hr s hs o1 (s : Int) p (x : Int) rfl o2 true (decide_eq_true hin))
                    have hwho := Aside0.mk (fun W (hr : Rows3 W m.ls tx) => whose_at (x : Int) cs m.st m.op m.ls tx HCL.out W hr (s : Int) (whoseT_at hs hin (fun j hj hj2 => by have := HM4.out.inv.sane.one j s (x : Int) (by omega) hs hj2 hin; omega)))
                    have d1 : decide (0 ≤ (k : Int)) = true := decide_eq_true (by omega)
                    have d2 : decide ((n : Int) ≤ (k : Int)) = false := decide_eq_false (by omega)
                    have d4 : decide (n ≤ k) = false := decide_eq_false (by omega)
                    have d3 : decide ((k : Int) < 0) = false := decide_eq_false (by omega)
                    have q1 : (0 ≤ (k : Int)) = True := eq_true (by omega)
                    have q2 : ((k : Int) < (n : Int)) = True := eq_true (by omega)
                    clear ho hli hl2 o1 o2 hcl hf0 hin hp
                    go_upto_region 28 with (fail)
                    clear w50 wox
                    refine start_ (n := 57) (S := fun w' => w'.rangeAt g 0 cs.toList ∧ w'.cell? ⟨g, 48, none⟩ = some (.slice (some ad) n ch) ∧ w'.cell? (ad.add (k * 2)) = some (.int .i64 (s : Int)) ∧ w'.cell? ⟨(ad.add (k * 2)).block, (ad.add (k * 2)).off + 1, none⟩ = some (.int .i64 p)) (ds := []) #[false, false, false, false, false, false, false, false, false, false, false, false, false, false, false, false, false, false, false, false, false, false, false, false, false, false, false, false, false, false, false, false, false, false, false, false, false, false, false, false, false, false, false, false, false, false, false, false, false, false, false, false, false, false, false, false, false] rfl rfl rfl ⟨drew_range HRG.out, y1, y2, y3⟩ (fun hHeld => ?_)
                    refine with_tabW reg4.tab28 reg4.bits28 (fun HT_ HW_ => ?_)
                    have HWD := Aside0.mk (HM4.out.below (below_drew1 (Below.refl _ _)))
                    have HRD := Aside0.mk (HRW.out.below (below_drew1 (Below.refl _ _)))
                    clear y1 y2 y3 HM4 HRG HRW
                    generalize wr.drew = w6 at *
                    refine pz_ 0 102 HT_ ?_
                    refine pz_ 1 103 HT_ ?_
                    refine pz_ 2 104 HT_ ?_
                    refine pz_ 3 105 HT_ ?_
                    refine pz_ 4 106 HT_ ?_
                    refine pz_ 5 107 HT_ ?_
                    refine pz_ 6 108 HT_ ?_
                    refine tz_ 7 109 HT_ HW_ hHeld ?_
                    refine pz_ 8 110 HT_ ?_
                    refine pz_ 9 111 HT_ ?_
                    refine pz_ 10 112 HT_ ?_
                    refine pz_ 11 113 HT_ ?_
                    refine pz_ 12 114 HT_ ?_
                    refine pz_ 13 115 HT_ ?_
                    refine tz_ 14 116 HT_ HW_ hHeld ?_ (hy := yieldsIf_load_mid (by rfl) 28 (.tmp 115) rfl g 0 rfl cs.toList _ (fun _ h => h.1) Try.underlying28 rfl (by rw [Array.length_toList, HCS.out]; kernel_rfl))
                    refine pz_ 15 117 HT_ ?_
                    refine pz_ 16 118 HT_ ?_
                    refine pz_ 17 119 HT_ ?_
                    refine tz_ 18 120 HT_ HW_ hHeld ?_
                    refine pz_ 19 121 HT_ ?_
                    refine pz_ 20 122 HT_ ?_
                    refine tz_ 21 123 HT_ HW_ hHeld ?_
                    refine pz_ 22 124 HT_ ?_
                    refine oz_ 23 125 HT_ (fun K hK => ?_)
                    refine goes_ Try.func12 (by kernel_rfl) rfl #[.agg cs, .agg #[.int .i64 (s : Int), .int .i64 p], .int .i64 (x : Int)] (by rfl) rfl rfl ma_ ?_
                    refine (hhas.out _ HRD.out).mono ?_
                    rintro e w7 ⟨rfl, hb⟩
                    refine ⟨_, rfl, ?_⟩
                    have HW7 := Aside0.mk (HWD.out.below hb)
                    have HR7 := Aside0.mk (HRD.out.below hb)
                    refine hK.out _ _ ⟨hr_ hb hHeld.1, hh_ hb hHeld.2.1, hh_ hb hHeld.2.2.1, hh_ hb hHeld.2.2.2⟩ (fun hHeld => ?_)
                    clear hK K hb HWD HRD
                    refine norm_ (a' := ?_) ?_ ?_
                    rotate_left
                    · show Act.put _ (some 125) _ = _
                      simp only [Act.put, List.setIfInBounds_toArray, List.set_cons_zero, List.set_cons_succ]
                      rfl
                    refine pz_ 24 126 HT_ ?_
                    refine pz_ 25 127 HT_ ?_
                    refine pz_ 26 128 HT_ ?_
                    refine pz_ 27 129 HT_ ?_
                    refine pz_ 28 130 HT_ ?_
                    refine pz_ 29 131 HT_ ?_
                    refine tz_ 30 132 HT_ HW_ hHeld ?_ (hy := yieldsIf_load_mid (by rfl) 28 (.tmp 131) rfl g 0 rfl cs.toList _ (fun _ h => h.1) Try.underlying28 rfl (by rw [Array.length_toList, HCS.out]; kernel_rfl))
                    refine pz_ 31 133 HT_ ?_
                    refine pz_ 33 135 HT_ ?_
                    refine pz_ 34 136 HT_ ?_
                    refine pz_ 35 137 HT_ ?_
                    refine tz_ 36 138 HT_ HW_ hHeld ?_
                    refine pz_ 37 139 HT_ ?_
                    refine pz_ 38 140 HT_ ?_
                    refine pz_ 39 141 HT_ ?_
                    refine tz_ 40 142 HT_ HW_ hHeld ?_
                    refine oz_ 32 134 HT_ (fun K hK => ?_)
                    refine goes_ Try.func13 (by kernel_rfl) rfl #[.agg cs, .int .i64 (x : Int)] (by rfl) rfl rfl ma_ ?_
                    refine (hwho.out _ HR7.out).mono ?_
                    rintro e w8 ⟨rfl, hb⟩
                    refine ⟨_, rfl, ?_⟩
                    have HW8 := Aside0.mk (HW7.out.below hb)
                    refine hK.out _ _ ⟨hr_ hb hHeld.1, hh_ hb hHeld.2.1, hh_ hb hHeld.2.2.1, hh_ hb hHeld.2.2.2⟩ (fun hHeld => ?_)
                    clear hK K hb HW7 HR7
                    refine norm_ (a' := ?_) ?_ ?_
                    rotate_left
                    · show Act.put _ (some 134) _ = _
                      simp only [Act.put, List.setIfInBounds_toArray, List.set_cons_zero, List.set_cons_succ]
                      rfl
                    refine pz_ 41 143 HT_ ?_
                    refine pz_ 42 144 HT_ ?_
                    refine pz_ 43 145 HT_ ?_
                    refine pz_ 44 146 HT_ ?_
                    refine pz_ 45 147 HT_ ?_
                    refine pz_ 46 148 HT_ ?_
                    refine pz_ 47 149 HT_ ?_
                    refine pn_ 48 150 HT_ ?_
                    refine pn_ 49 151 HT_ ?_
                    refine pn_ 50 152 HT_ ?_
                    refine pn_ 51 153 HT_ ?_
                    refine pn_ 52 154 HT_ ?_
                    refine pn_ 53 155 HT_ ?_
                    refine pn_ 54 156 HT_ ?_
                    refine pz_ 55 157 HT_ ?_
                    refine pz_ 56 158 HT_ ?_
                    refine done_ (done_of HT_.out (by kernel_rfl)) ?_
                    clear HT_ HW_ hHeld
                    simp only [Exit.inBlock, Exit.then]
                    go_wp2
                    go_roundg (64 - (x + 1))
                    case measure => omega
                    case rel => exact ⟨x + 1, by omega, by omega, by go_num, HW8⟩
                · have : x = 64 := by omega
                  subst this
                  have hsn := Aside0.mk (fun W (hr : Rows3 W m.ls tx) => sane_ok cs m.st m.op m.ls tx HCL.out HM4.out.inv.sane W hr)
                  have HBE := Aside0.mk HM4.out.be
                  clear hcl HM4
                  go_wp2_with (first | (refine ld44 (.tmp 163) g cs HRG.out HCS.out ?_) | (go_at_call 10; refine (hsn.out _ HRW.out).mono ?_; clear hsn; rintro e w9 ⟨rfl, hb9⟩; have HB9 := Aside0.mk (below_then HBE.out HBE.out.size hb9); clear hb9))
                  go_ret
                  exact ⟨rfl, HB9.out⟩
end Go.Proofs.Ytajghkmjgedikaa.Q
