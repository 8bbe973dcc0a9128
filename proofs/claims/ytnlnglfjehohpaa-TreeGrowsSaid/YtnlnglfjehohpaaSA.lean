import Derived.Test.YtnlnglfjehohpaaQ0
import Derived.Test.YtnlnglfjehohpaaQA
import Derived.Lib.Hide
namespace Go.Proofs.Ytnlnglfjehohpaa.Q
open Go.RowKit Go.Proofs.YtnlnglfjehohpaaW Go.Proofs.YtnlnglfjehohpaaW.PrintWords Go.Proofs.YtnlnglfjehohpaaW.PrintLast Go.Proofs.YtnlnglfjehohpaaW.PrintMore
set_option linter.unusedVariables false
set_option linter.unusedSimpArgs false
def reg45.T3 : Bool × List (List Nat × List Nat) := (true, [([], []), ([], []), ([], []), ([1, 2], [1, 2]), ([], []), ([], []), ([], []), ([5, 6], [5, 6]), ([], []), ([], []), ([], []), ([9, 10], [9, 10]), ([8, 11], [8, 11]), ([12], [12]), ([], []), ([], []), ([], []), ([15, 16], [15, 16]), ([14, 17], [14, 17]), ([18], [18]), ([0, 3, 0, 1, 2, 3, 8, 9, 10, 11, 12, 13, 19], [0, 3]), ([20, 13, 0, 1, 2, 3, 8, 9, 10, 11, 12, 13, 19], [13, 20]), ([4, 7, 0, 1, 2, 3, 4, 5, 6, 7, 8, 9, 10, 11, 12, 13, 14, 15, 16, 17, 18, 19, 20, 21], [4, 7]), ([22, 19, 21, 0, 1, 2, 3, 4, 5, 6, 7, 8, 9, 10, 11, 12, 13, 14, 15, 16, 17, 18, 19, 20, 21], [19, 22])])
def reg45.B3 : List Nat := [0, 0, 0, 6, 0, 0, 0, 96, 0, 0, 0, 1536, 3840, 7936, 0, 0, 0, 98304, 245760, 507904, 1048335, 2096911, 4194303, 8388607]
theorem reg45.tab3 : rtab .any (opsOf Try.f45 3) = reg45.T3 := by kernel_rfl
theorem reg45.bits3 : waitsOk reg45.T3.2 reg45.B3 = true := by kernel_rfl

theorem set_at {α : Type} (A B : List α) (x y : α) (i : Nat) (h : i = A.length) : (A ++ x :: B).set i y = A ++ y :: B := by
  subst h; simp
theorem get_at {α : Type} (A B : List α) (x : α) (i : Nat) (h : i = A.length) : (A ++ x :: B)[i]? = some x := by
  subst h; simp
/-- Two segments, swapped as far as i. -/
def swp (P X M Y Q : List Int) (i : Nat) : List Int := P ++ ((Y.take i ++ X.drop i) ++ (M ++ ((X.take i ++ Y.drop i) ++ Q)))
theorem swp_zero (P X M Y Q : List Int) : swp P X M Y Q 0 = P ++ (X ++ (M ++ (Y ++ Q))) := by simp [swp]
theorem swp_end (P X M Y Q : List Int) (h : X.length = Y.length) : swp P X M Y Q X.length = P ++ (Y ++ (M ++ (X ++ Q))) := by
  unfold swp
  rw [List.drop_length, List.take_length, h, List.drop_length, List.take_length]; simp
theorem swp_len (P X M Y Q : List Int) (h : X.length = Y.length) (i : Nat) (hi : i ≤ X.length) : (swp P X M Y Q i).length = P.length + X.length + M.length + Y.length + Q.length := by
  unfold swp; simp only [List.length_append, List.length_take, List.length_drop]; omega
theorem swp_form (P X M Y Q : List Int) (h : X.length = Y.length) (i : Nat) (hi : i < X.length) :
    swp P X M Y Q i = (P ++ Y.take i) ++ X[i] :: (X.drop (i + 1) ++ (M ++ ((X.take i ++ Y.drop i) ++ Q))) := by
  unfold swp
  rw [List.drop_eq_getElem_cons hi]; simp only [List.append_assoc, List.cons_append]
theorem swp_step (P X M Y Q : List Int) (h : X.length = Y.length) (i : Nat) (hi : i < X.length) :
    (swp P X M Y Q i)[P.length + i]? = some X[i] ∧ (swp P X M Y Q i)[P.length + X.length + M.length + i]? = some (Y[i]'(by omega)) ∧
    ((swp P X M Y Q i).set (P.length + i) (Y[i]'(by omega))).set (P.length + X.length + M.length + i) X[i] = swp P X M Y Q (i + 1) := by
  have hy : i < Y.length := by omega
  have e1 := swp_form P X M Y Q h i hi
  have lY : (Y.take i).length = i := by rw [List.length_take]; omega
  have lX : (X.take i).length = i := by rw [List.length_take]; omega
  have e2 : ∀ z : Int, (P ++ Y.take i) ++ z :: (X.drop (i + 1) ++ (M ++ ((X.take i ++ Y.drop i) ++ Q))) = (P ++ (Y.take i ++ (z :: (X.drop (i + 1) ++ (M ++ X.take i))))) ++ Y[i] :: (Y.drop (i + 1) ++ Q) := fun z => by
    rw [List.drop_eq_getElem_cons hy]; simp only [List.append_assoc, List.cons_append]
  have l2 : ∀ z : Int, (P ++ (Y.take i ++ (z :: (X.drop (i + 1) ++ (M ++ X.take i))))).length = P.length + X.length + M.length + i := fun z => by
    simp only [List.length_append, List.length_cons, List.length_drop, lY, lX]; omega
  refine ⟨?_, ?_, ?_⟩
  · rw [e1]; exact get_at _ _ _ _ (by rw [List.length_append, lY])
  · rw [e1, e2]; exact get_at _ _ _ _ (l2 _).symm
  · rw [e1, set_at _ _ _ _ _ (by rw [List.length_append, lY]), e2, set_at _ _ _ _ _ (l2 _).symm]
    unfold swp
    rw [List.take_succ_eq_append_getElem hi, List.take_succ_eq_append_getElem hy]
    simp only [List.append_assoc, List.cons_append, List.nil_append]
theorem grown_drew_any (w : World) (row : Option Nat) : w.grownBy w.drew row := ⟨rfl, rfl, rfl, Nat.le_refl _, fun _ _ _ => rfl⟩
set_option maxRecDepth 100000 in
set_option maxHeartbeats 3200000 in
theorem swap_range (P X M Y Q : List Int) (hn : X.length = Y.length) (v f : Value) (base : Nat) (ok : Nat → Prop) (w0 w : World) (HO : (Kd.int .i64).R 3 w base ok v (P ++ (X ++ (M ++ (Y ++ Q))))) (hB : Below base w0 w) (hbase : base ≤ w.heap.size) (hl : P.length + X.length + M.length + Y.length + Q.length < 1000) :
    Calls Try.prog 45 #[v, .int .i64 (P.length : Int), .int .i64 ((P.length + X.length + M.length : Nat) : Int), .int .i64 (X.length : Int), f] w fun e w' =>
      e = .returned (.tuple #[]) ∧ (Kd.int .i64).R 3 w' base ok v (P ++ (Y ++ (M ++ (X ++ Q)))) ∧ Below base w0 w' ∧ w.grownBy w' v.ownBlock := by
  obtain ⟨A, c, rfl⟩ := Kd.R_slice HO
  obtain ⟨L, hL⟩ : ∃ L, L = P.length + X.length + M.length + Y.length + Q.length := ⟨_, rfl⟩
  have e0 : (P ++ (X ++ (M ++ (Y ++ Q)))).length = L := by rw [hL]; simp only [List.length_append]; omega
  rw [e0] at HO ⊢
  rw [← swp_zero] at HO
  rw [← swp_end P X M Y Q hn]
  have H0 := Aside0.mk HO
  have BB := Aside0.mk hB
  have BS := Aside0.mk hbase
  have HN := Aside0.mk hn
  have HLL := Aside0.mk hL
  obtain ⟨a, ha⟩ : ∃ a, P.length = a := ⟨_, rfl⟩
  obtain ⟨b, hb⟩ : ∃ b, P.length + X.length + M.length = b := ⟨_, rfl⟩
  obtain ⟨n, hx⟩ : ∃ n, X.length = n := ⟨_, rfl⟩
  have hab : a + n ≤ b ∧ b + n ≤ L ∧ L < 1000 := by omega
  rw [hb, ha, hx]
  have HA := Aside0.mk ha
  have HBL := Aside0.mk hb
  have HX := Aside0.mk hx
  clear HO hB hbase hn hL ha hb hx e0 hl
  go_enter Try.func45, Try.ntmps45
  go_wp2
  go_loopg [10] n (fun gg s10 wr => ∃ i : Nat, i ≤ n ∧ n - i ≤ gg ∧ s10 = .int .i64 i ∧ Aside0 ((Kd.int .i64).R 3 wr base ok (.slice A L c) (swp P X M Y Q i)) ∧ Aside0 (Below base w0 wr) ∧ Aside0 (base ≤ wr.heap.size) ∧ Aside0 (w.grownBy wr (Value.slice A L c).ownBlock))
  case atStart =>
    exact ⟨0, Nat.zero_le _, by omega, rfl, H0, BB, BS, ⟨⟨rfl, rfl, rfl, Nat.le_refl _, fun _ _ _ => rfl⟩⟩⟩
  case round =>
    obtain ⟨i, hi, hgi, rfl, HR, HB1, HS1, HG1⟩ := hrel
    by_cases hlt : i < n
    · have hstep := swp_step P X M Y Q HN.out i (by rw [HX.out]; exact hlt)
      have hlen := swp_len P X M Y Q HN.out i (by rw [HX.out]; omega)
      rw [← HLL.out] at hlen
      rw [HBL.out, HA.out] at hstep
      obtain ⟨s1, s2, s3⟩ := hstep
      obtain ⟨p, hp⟩ : ∃ p, X[i]'(by rw [HX.out]; exact hlt) = p := ⟨_, rfl⟩
      obtain ⟨q, hq⟩ : ∃ q, Y[i]'(by rw [← HN.out, HX.out]; exact hlt) = q := ⟨_, rfl⟩
      rw [hp] at s1 s3
      rw [hq] at s2 s3
      have hr1 := HR.out
      rw [← hlen] at hr1
      obtain ⟨g, cap, hv, hg0, _, _⟩ := Kd.R_form hr1 (by omega)
      injection hv with hv1 _ hv3
      subst hv1
      subst hv3
      have hd1 := Kd.R_drew hr1
      have c1 := Kd.R_cell (0 : Int) hd1 ((a + i : Nat) : Int) (by omega) (by omega)
      have c2 := Kd.R_cell (0 : Int) hd1 ((b + i : Nat) : Int) (by omega) (by omega)
      rw [Int.toNat_natCast] at c1 c2
      rw [show rdOf (0 : Int) (swp P X M Y Q i) ((a + i : Nat) : Int) = p by (unfold rdOf; rw [Int.toNat_natCast, List.getD_eq_getElem?_getD, s1]; rfl)] at c1
      rw [show rdOf (0 : Int) (swp P X M Y Q i) ((b + i : Nat) : Int) = q by (unfold rdOf; rw [Int.toNat_natCast, List.getD_eq_getElem?_getD, s2]; rfl)] at c2
      have d1 := Kd.R_putg hd1 ((a + i : Nat) : Int) q
      rw [Int.toNat_natCast] at d1
      obtain ⟨sq, hsq⟩ : ∃ sq, (swp P X M Y Q i).set (a + i) q = sq := ⟨_, rfl⟩
      have lsq : sq.length = (swp P X M Y Q i).length := by rw [← hsq, List.length_set]
      rw [hsq] at d1 s3
      have d1b := d1.1
      rw [← lsq] at d1b
      have d2 := Kd.R_putg d1b ((b + i : Nat) : Int) p
      rw [Int.toNat_natCast, s3] at d2
      have c3 := Kd.R_cell (0 : Int) d1b ((b + i : Nat) : Int) (by omega) (by rw [lsq]; omega)
      rw [Int.toNat_natCast] at c3
      have D1 := Aside0.mk d1
      have D2 := Aside0.mk d2
      have HLE := Aside0.mk hlen
      have HDB := Aside0.mk HB1.out.drew
      have HDS := Aside0.mk (show base ≤ wr.drew.heap.size from HS1.out)
      have HDG := Aside0.mk (HG1.out.trans (grown_drew_any wr _))
      have w1 : IntKind.i64.wrap ((a : Int) + (i : Int)) = ((a + i : Nat) : Int) := by rw [IntKind.wrap_i64]; omega
      have w2 : IntKind.i64.wrap ((b : Int) + (i : Int)) = ((b + i : Nat) : Int) := by rw [IntKind.wrap_i64]; omega
      have q1 : (0 ≤ (a : Int) + (i : Int)) = True := eq_true (by omega)
      have q2 : ((a : Int) + (i : Int) < (L : Int)) = True := eq_true (by omega)
      have q3 : (0 ≤ (b : Int) + (i : Int)) = True := eq_true (by omega)
      have q4 : ((b : Int) + (i : Int) < (L : Int)) = True := eq_true (by omega)
      have t1 : ((a : Int) + (i : Int)).toNat = a + i := by omega
      have t2 : ((b : Int) + (i : Int)).toNat = b + i := by omega
      have g1 := c1.1
      have g2 := c2.1
      have z1 := c1.2
      have z3 := c3.2
      have g3 := c3.1
      clear hp hq s1 s2 s3 hr1 hd1 c1 c2 c3 d1 d2 HR hlen
      go_upto_region 3 with (fail)
      refine start_ (n := 24) (S := fun w' => w'.cell? ⟨g, a + i, none⟩ = some (.int .i64 p) ∧ w'.cell? ⟨g, b + i, none⟩ = some (.int .i64 q)) (ds := [21, 23]) #[false, false, false, false, false, false, false, false, false, false, false, false, false, false, false, false, false, false, false, false, false, false, false, false] rfl rfl rfl ⟨g1, g2⟩ (fun hHeld => ?_)
      refine with_tabW reg45.tab3 reg45.bits3 (fun HT_ HW_ => ?_)
      generalize wr.drew = w5 at *
      refine pz_ 0 16 HT_ ?_
      refine pz_ 1 17 HT_ ?_
      refine pz_ 2 18 HT_ ?_
      refine pz_ 3 19 HT_ ?_
      refine pz_ 4 20 HT_ ?_
      refine pz_ 5 21 HT_ ?_
      refine pz_ 6 22 HT_ ?_
      refine pz_ 7 23 HT_ ?_
      refine pz_ 8 24 HT_ ?_
      refine pz_ 9 25 HT_ ?_
      refine pz_ 10 26 HT_ ?_
      refine pz_ 11 27 HT_ ?_
      refine pz_ 12 28 HT_ ?_
      refine tz_ 13 29 HT_ HW_ hHeld ?_
      refine pz_ 14 30 HT_ ?_
      refine pz_ 15 31 HT_ ?_
      refine pz_ 16 32 HT_ ?_
      refine pz_ 17 33 HT_ ?_
      refine pz_ 18 34 HT_ ?_
      refine tz_ 19 35 HT_ HW_ hHeld ?_
      refine pz_ 20 36 HT_ ?_
      refine last_ (i := 21) (N := none) #[true, true, true, true, true, true, true, true, true, true, true, true, true, true, true, true, true, true, true, true, true, true, false, false] rfl rfl (one_of HT_.out (by kernel_rfl)) (by decide) (fun K hK => ?_)
      refine skip_ (w1 := ?_) (by rfl) rfl ?_ ?_
      rotate_left
      · go_simp
        rfl
      refine hK.out _ _ ?_
      clear hK K
      refine pz_ 22 37 HT_ ?_
      refine last_ (i := 23) (N := none) #[true, true, true, true, true, true, true, true, true, true, true, true, true, true, true, true, true, true, true, true, true, true, true, true] rfl rfl (one_of HT_.out (by kernel_rfl)) (by decide) (fun K hK => ?_)
      refine skip_ (w1 := ?_) (by rfl) rfl ?_ ?_
      rotate_left
      · go_simp
        rfl
      refine hK.out _ _ ?_
      clear hK K
      refine done_ (done_of HT_.out (by kernel_rfl)) ?_
      clear HT_ HW_ hHeld
      have HR2 := D2.out.1
      rw [lsq, HLE.out] at HR2
      have GG := D1.out.2.trans D2.out.2
      have HRN := Aside0.mk HR2
      have HGN := Aside0.mk (HDG.out.trans GG)
      have HBN := Aside0.mk (HDB.out.grown GG HDS.out (fun k hk => by injection hk with hk; subst hk; exact hg0))
      have HSN := Aside0.mk (Nat.le_trans HDS.out GG.size)
      clear HR2 GG D1 D2 HDB HDS HDG g1 g2 g3 z1 z3 hsq lsq HLE HB1 HS1 HG1
      generalize (w5.setCell ⟨g, a + i, none⟩ (Value.int IntKind.i64 q)).setCell ⟨g, b + i, none⟩ (Value.int IntKind.i64 p) = w7 at HRN HGN HBN HSN ⊢
      clear w1 w2 q1 q2 q3 q4 t1 t2
      go_wp2
      go_roundg (n - (i + 1))
      case measure => omega
      case rel => exact ⟨i + 1, by omega, by omega, by go_num, HRN, HBN, HSN, HGN⟩
    · have : i = n := by omega
      subst this
      go_wp2
      go_end0
      exact ⟨rfl, HR.out, HB1.out, HG1.out⟩
end Go.Proofs.Ytnlnglfjehohpaa.Q
