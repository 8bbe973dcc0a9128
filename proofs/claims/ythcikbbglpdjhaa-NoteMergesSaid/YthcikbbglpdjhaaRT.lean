/- The note's reader: note. No condition. -/
import Derived.Test.YthcikbbglpdjhaaRP
namespace Go.Proofs.Ythcikbbglpdjhaa.Q
open Go.RowKit Go.Proofs.YthcikbbglpdjhaaW Go.Proofs.YthcikbbglpdjhaaW.PrintWords Go.Proofs.YthcikbbglpdjhaaW.PrintLast Go.Proofs.YthcikbbglpdjhaaW.PrintMore
set_option linter.unusedVariables false
set_option linter.unusedSimpArgs false
def reg26.T1 : Bool × List (List Nat × List Nat) := (true, [([], []), ([0], [0]), ([], []), ([2, 1], [2]), ([1, 3], [1, 3]), ([], []), ([5, 4, 3, 0, 1, 2, 3, 4, 5], [4, 5])])
def reg26.B1 : List Nat := [0, 1, 0, 7, 15, 0, 63]
theorem reg26.tab1 : rtab .any (opsOf Try.f26 1) = reg26.T1 := by kernel_rfl
theorem reg26.bits1 : waitsOk reg26.T1.2 reg26.B1 = true := by kernel_rfl
def reg26.T4 : Bool × List (List Nat × List Nat) := (true, [([], []), ([0], [0]), ([], []), ([2], [2]), ([3], [3]), ([1, 4, 3], [1, 4]), ([0, 1, 2, 3, 4, 5], []), ([6, 5, 5, 0, 1, 2, 3, 4, 5], [5, 6])])
def reg26.B4 : List Nat := [0, 1, 0, 4, 12, 31, 63, 127]
theorem reg26.tab4 : rtab .any (opsOf Try.f26 4) = reg26.T4 := by kernel_rfl
theorem reg26.bits4 : waitsOk reg26.T4.2 reg26.B4 = true := by kernel_rfl
def reg26.T8 : Bool × List (List Nat × List Nat) := (true, [([], []), ([0], [0]), ([], []), ([2], [2]), ([3], [3]), ([1, 4, 3], [1, 4]), ([0, 1, 2, 3, 4, 5], []), ([6, 5, 5, 0, 1, 2, 3, 4, 5], [5, 6])])
def reg26.B8 : List Nat := [0, 1, 0, 4, 12, 31, 63, 127]
theorem reg26.tab8 : rtab .any (opsOf Try.f26 8) = reg26.T8 := by kernel_rfl
theorem reg26.bits8 : waitsOk reg26.T8.2 reg26.B8 = true := by kernel_rfl
def O27 : Obj := .cells #[.int .i64 0, .int .i64 0, .slice none 0 0, .slice none 0 0] 27 (0, 0)
/-- The note that is being read. -/
def Bt (t : Nat) (k s : Int) (v2 v3 : Value) (W : World) : Prop := W.heap[t]? = some (.cells #[.int .i64 k, .int .i64 s, v2, v3] 27 (0, 0))
theorem S_row {WD w6 : World} {g base : Nat} {v : Value} {xs : List S44} (h : Kd.S k44 44 WD base (fun _ => True) v xs) (hg : ∃ cs, WD.heap[g]? = some (.cells cs 89 (0, 0))) (hr : WD.grownBy w6 (some g)) : Kd.S k44 44 w6 base (fun _ => True) v xs := by
  obtain ⟨cs, hc⟩ := hg
  exact Kd.S_mono (Kd.S_grown (Kd.S_types h hc (by decide)) hr (fun k hk e => hk.2 (by injection e))) (fun _ _ => trivial)
set_option maxRecDepth 100000 in
set_option maxHeartbeats 3200000 in
theorem rnote (w0 W : World) (g : Nat) (l : List Int) (h : Rdy w0 W g l) :
    Calls Try.prog 26 #[.agg #[.pointer (some ⟨g, 0, none⟩)]] W fun e w' => RNote w0.heap.size W g (pNote l) e w' := by
  have PAN1 := Aside0.mk (fun (n : Int) (w' : World) (hp : pNum 1 l = .error n) (hg : W.grownBy w' (some g)) => (show RNote w0.heap.size W g (pNote l) (.panicked (stopped n)) w' from by
    unfold pNote; rw [hp]; exact ⟨rfl, hg⟩))
  have PAN2 := Aside0.mk (fun (k n : Int) (r : List Int) (w' : World) (hp : pNum 1 l = .ok (k, r)) (hp2 : pNum 6 r = .error n) (hg : W.grownBy w' (some g)) => (show RNote w0.heap.size W g (pNote l) (.panicked (stopped n)) w' from by
    unfold pNote; rw [hp]; dsimp only; rw [hp2]; exact ⟨rfl, hg⟩))
  have PAN := Aside0.mk (fun (n : Int) (w' : World) (hp : pNote l = .error n) (hg : W.grownBy w' (some g)) => (show RNote w0.heap.size W g (pNote l) (.panicked (stopped n)) w' from by
    rw [hp]; exact ⟨rfl, hg⟩))
  obtain ⟨W2, hW2⟩ : ∃ W2, (W.alloc (.cells #[.pointer (some ⟨g, 0, none⟩)] 61)).alloc O27 = W2 := ⟨_, rfl⟩
  have hb2 : Below W.heap.size W W2 := by rw [← hW2]; exact ((Below.refl _ _).alloc (Nat.le_refl _) _).alloc (by simp) _
  have hx1 : W2.heap[W.heap.size]? = some (.cells #[.pointer (some ⟨g, 0, none⟩)] 61 (0, 0)) := by rw [← hW2]; simpa using blk_alloc (blk_new W (.cells #[.pointer (some ⟨g, 0, none⟩)] 61)) O27
  have hx2 : W2.heap[W.heap.size + 1]? = some O27 := by rw [← hW2]; simpa using blk_new (W.alloc (.cells #[.pointer (some ⟨g, 0, none⟩)] 61)) O27
  have hIS : IS w0 W g W.heap.size O27 W2 l := ⟨h.later hb2, hx1, hx2, grown_b hb2 (some g)⟩
  have HGB := Aside0.mk h.lt
  have HW0 := Aside0.mk h.below.size
  have ISD := Aside0.mk hIS.drew
  have hu := Try.underlying61
  have hu2 := Try.underlying27
  have hu3 := Try.underlying24
  have hu4 := Try.underlying25
  obtain ⟨b1, hb1⟩ : ∃ b1, W.heap.size = b1 := ⟨_, rfl⟩
  rw [hb1] at HGB ISD
  have HBS := Aside0.mk hb1
  unfold O27 at hW2
  clear h hx1 hx2 hb2 hIS
  go_enter Try.func26, Try.ntmps26
  go_upto_region 1 with (fail)
  clear hW2 hb1
  refine start_ (n := 7) (S := fun w' => w'.cell? ⟨b1, 0, none⟩ = some (.pointer (some ⟨g, 0, none⟩))) (ds := [6]) #[false, false, false, false, false, false, false] rfl rfl rfl ISD.out.cell (fun hHeld => ?_)
  refine with_tabW reg26.tab1 reg26.bits1 (fun HT_ HW_ => ?_)
  refine tz_ 0 4 HT_ HW_ hHeld ?_
  refine tz_ 2 6 HT_ HW_ hHeld ?_
  generalize W2.drew = WD at *
  clear W2
  refine join_ (σ := Int × Int × Nat) 1 #[true, true, true, true, true, true, false] (fun q => [(5, .int .i64 q.1), (7, .int .i64 q.2.1), (8, .agg #[.int .i64 q.1, .int .i64 q.2.1, .slice none 0 0, .slice none 0 0]), (3, .pointer (some ⟨q.2.2, 0, none⟩))]) (fun q w' => ∃ l1 l2, pNum 1 l = .ok (q.1, l1) ∧ pNum 6 l1 = .ok (q.2.1, l2) ∧ Aside0 (IS w0 W g b1 O27 w' l2) ∧ Aside0 (b1 + 1 < q.2.2) ∧ Aside0 (Bt q.2.2 0 0 (.slice none 0 0) (.slice none 0 0) w')) ?hcont ?hord
  case hord =>
    intro JN
    have JNN := Aside0.mk JN
    have hgb := HGB.out
    clear JN
    refine two_ (i := 1) (j := 5) (Ni := some 5) (Nj := some 3) #[true, true, true, false, false, false, false] #[true, false, true, false, false, true, false] rfl rfl rfl rfl (two_of HT_.out (by kernel_rfl)) (by decide) (by decide) (fun K hK => ?_) (fun K hK => ?_)
    · refine goesP_ Try.func44 (by kernel_rfl) rfl #[.agg #[.pointer (some ⟨g, 0, none⟩)], .int .i64 1] (by rfl) rfl rfl ma_ ?_
      refine (rnum w0 _ g l 1 ISD.out.rdy (by omega) (by omega)).mono ?_
      intro e w1 hrd
      rcases Reads.split hrd with ⟨k, l1, hp, rfl, hr, hg⟩ | ⟨n, hp, rfl, hg⟩
      rotate_left
      · exact Or.inr ⟨_, rfl, rfl, PAN1.out _ _ hp (ISD.out.gr.trans hg)⟩
      refine Or.inl ⟨.int .i64 k, rfl, ?_⟩
      have HP1 := Aside0.mk hp
      have is1 := ISD.out.read HGB.out hr hg
      have IS1 := Aside0.mk is1
      refine hK.out _ _ is1.cell (fun hHeld => ?_)
      clear hK K is1 hrd hp hr hg
      refine two_ (i := 3) (j := 5) (Ni := some 7) (Nj := some 3) #[true, true, true, true, false, false, false] #[true, true, true, false, false, true, false] rfl rfl rfl rfl (two_of HT_.out (by kernel_rfl)) (by decide) (by decide) (fun K hK => ?_) (fun K hK => ?_)
      · refine goesP_ Try.func44 (by kernel_rfl) rfl #[.agg #[.pointer (some ⟨g, 0, none⟩)], .int .i64 6] (by rfl) rfl rfl ma_ ?_
        refine (rnum w0 _ g l1 6 IS1.out.rdy (by omega) (by omega)).mono ?_
        intro e w2 hrd
        rcases Reads.split hrd with ⟨s, l2, hp, rfl, hr, hg⟩ | ⟨n, hp, rfl, hg⟩
        rotate_left
        · exact Or.inr ⟨_, rfl, rfl, PAN2.out _ _ _ _ HP1.out hp (IS1.out.gr.trans hg)⟩
        refine Or.inl ⟨.int .i64 s, rfl, ?_⟩
        have HP2 := Aside0.mk hp
        have is2 := IS1.out.read HGB.out hr hg
        have IS2 := Aside0.mk is2
        refine hK.out _ _ is2.cell (fun hHeld => ?_)
        clear hK K is2 hrd hp hr hg
        refine pz_ 4 8 HT_ ?_
        refine oz_ 5 3 HT_ (fun K hK => ?_)
        refine value_ (by rfl) rfl (v := .pointer (some ⟨w2.heap.size, 0, none⟩)) (w1 := w2.alloc (.cells #[.int .i64 0, .int .i64 0, .slice none 0 0, .slice none 0 0] 27)) (by first | (go_simp; done) | (go_simp; rfl)) ?_
        have isA := IS2.out.alloc (.cells #[.int .i64 0, .int .i64 0, .slice none 0 0, .slice none 0 0] 27)
        have btA := blk_new w2 (.cells #[.int .i64 0, .int .i64 0, .slice none 0 0, .slice none 0 0] 27)
        have ltA := IS2.out.lt
        obtain ⟨t, ht⟩ : ∃ t, w2.heap.size = t := ⟨_, rfl⟩
        obtain ⟨wA, hwA⟩ : ∃ wA, w2.alloc (.cells #[.int .i64 0, .int .i64 0, .slice none 0 0, .slice none 0 0] 27) = wA := ⟨_, rfl⟩
        rw [hwA] at isA btA
        rw [ht] at btA ltA
        rw [ht, hwA]
        have ISA := Aside0.mk isA
        refine hK.out _ _ isA.cell (fun hHeld => ?_)
        clear hK K isA ht hwA
        exact norm_ pu_ (JNN.out (k, s, t) _ ⟨_, _, HP1.out, HP2.out, ISA, ⟨by omega⟩, ⟨btA⟩⟩)
      · refine value_ (by rfl) rfl (v := .pointer (some ⟨w1.heap.size, 0, none⟩)) (w1 := w1.alloc (.cells #[.int .i64 0, .int .i64 0, .slice none 0 0, .slice none 0 0] 27)) (by first | (go_simp; done) | (go_simp; rfl)) ?_
        have isA := IS1.out.alloc (.cells #[.int .i64 0, .int .i64 0, .slice none 0 0, .slice none 0 0] 27)
        have btA := blk_new w1 (.cells #[.int .i64 0, .int .i64 0, .slice none 0 0, .slice none 0 0] 27)
        have ltA := IS1.out.lt
        obtain ⟨t, ht⟩ : ∃ t, w1.heap.size = t := ⟨_, rfl⟩
        obtain ⟨wA, hwA⟩ : ∃ wA, w1.alloc (.cells #[.int .i64 0, .int .i64 0, .slice none 0 0, .slice none 0 0] 27) = wA := ⟨_, rfl⟩
        rw [hwA] at isA btA
        rw [ht] at btA ltA
        rw [ht, hwA]
        have ISA := Aside0.mk isA
        refine hK.out _ _ isA.cell (fun hHeld => ?_)
        clear hK K isA ht hwA
        refine oz_ 3 7 HT_ (fun K hK => ?_)
        refine goesP_ Try.func44 (by kernel_rfl) rfl #[.agg #[.pointer (some ⟨g, 0, none⟩)], .int .i64 6] (by rfl) rfl rfl ma_ ?_
        refine (rnum w0 _ g l1 6 ISA.out.rdy (by omega) (by omega)).mono ?_
        intro e w2 hrd
        rcases Reads.split hrd with ⟨s, l2, hp, rfl, hr, hg⟩ | ⟨n, hp, rfl, hg⟩
        rotate_left
        · exact Or.inr ⟨_, rfl, rfl, PAN2.out _ _ _ _ HP1.out hp (ISA.out.gr.trans hg)⟩
        refine Or.inl ⟨.int .i64 s, rfl, ?_⟩
        have HP2 := Aside0.mk hp
        have is2 := ISA.out.read HGB.out hr hg
        have IS2 := Aside0.mk is2
        have bt2 := blk_grown btA hg (fun e => by injection e with e; omega)
        refine hK.out _ _ is2.cell (fun hHeld => ?_)
        clear hK K is2 hrd hp hr hg
        refine pz_ 4 8 HT_ ?_
        exact norm_ pu_ (JNN.out (k, s, t) _ ⟨_, _, HP1.out, HP2.out, IS2, ⟨by omega⟩, ⟨bt2⟩⟩)
    · refine value_ (by rfl) rfl (v := .pointer (some ⟨WD.heap.size, 0, none⟩)) (w1 := WD.alloc (.cells #[.int .i64 0, .int .i64 0, .slice none 0 0, .slice none 0 0] 27)) (by first | (go_simp; done) | (go_simp; rfl)) ?_
      have isA := ISD.out.alloc (.cells #[.int .i64 0, .int .i64 0, .slice none 0 0, .slice none 0 0] 27)
      have btA := blk_new WD (.cells #[.int .i64 0, .int .i64 0, .slice none 0 0, .slice none 0 0] 27)
      have ltA := ISD.out.lt
      obtain ⟨t, ht⟩ : ∃ t, WD.heap.size = t := ⟨_, rfl⟩
      obtain ⟨wA, hwA⟩ : ∃ wA, WD.alloc (.cells #[.int .i64 0, .int .i64 0, .slice none 0 0, .slice none 0 0] 27) = wA := ⟨_, rfl⟩
      rw [hwA] at isA btA
      rw [ht] at btA ltA
      rw [ht, hwA]
      have ISA := Aside0.mk isA
      refine hK.out _ _ isA.cell (fun hHeld => ?_)
      clear hK K isA ht hwA
      refine oz_ 1 5 HT_ (fun K hK => ?_)
      refine goesP_ Try.func44 (by kernel_rfl) rfl #[.agg #[.pointer (some ⟨g, 0, none⟩)], .int .i64 1] (by rfl) rfl rfl ma_ ?_
      refine (rnum w0 _ g l 1 ISA.out.rdy (by omega) (by omega)).mono ?_
      intro e w1 hrd
      rcases Reads.split hrd with ⟨k, l1, hp, rfl, hr, hg⟩ | ⟨n, hp, rfl, hg⟩
      rotate_left
      · exact Or.inr ⟨_, rfl, rfl, PAN1.out _ _ hp (ISA.out.gr.trans hg)⟩
      refine Or.inl ⟨.int .i64 k, rfl, ?_⟩
      have HP1 := Aside0.mk hp
      have is1 := ISA.out.read HGB.out hr hg
      have IS1 := Aside0.mk is1
      have bt1 := blk_grown btA hg (fun e => by injection e with e; omega)
      refine hK.out _ _ is1.cell (fun hHeld => ?_)
      clear hK K is1 hrd hp hr hg
      refine oz_ 3 7 HT_ (fun K hK => ?_)
      refine goesP_ Try.func44 (by kernel_rfl) rfl #[.agg #[.pointer (some ⟨g, 0, none⟩)], .int .i64 6] (by rfl) rfl rfl ma_ ?_
      refine (rnum w0 _ g l1 6 IS1.out.rdy (by omega) (by omega)).mono ?_
      intro e w2 hrd
      rcases Reads.split hrd with ⟨s, l2, hp, rfl, hr, hg⟩ | ⟨n, hp, rfl, hg⟩
      rotate_left
      · exact Or.inr ⟨_, rfl, rfl, PAN2.out _ _ _ _ HP1.out hp (IS1.out.gr.trans hg)⟩
      refine Or.inl ⟨.int .i64 s, rfl, ?_⟩
      have HP2 := Aside0.mk hp
      have is2 := IS1.out.read HGB.out hr hg
      have IS2 := Aside0.mk is2
      have bt2 := blk_grown bt1 hg (fun e => by injection e with e; omega)
      refine hK.out _ _ is2.cell (fun hHeld => ?_)
      clear hK K is2 hrd hp hr hg
      refine pz_ 4 8 HT_ ?_
      exact norm_ pu_ (JNN.out (k, s, t) _ ⟨_, _, HP1.out, HP2.out, IS2, ⟨by omega⟩, ⟨bt2⟩⟩)
  case hcont =>
    rintro ⟨k, s, t⟩ w3 ⟨l1, l2, hp1, hp2, HIS, HTB, HBT⟩
    simp only at hp1 hp2 HTB HBT
    refine norm_ (a' := ?_) ?_ ?_
    rotate_left
    · simp only [putAll, Act.put, List.setIfInBounds_toArray, List.set_cons_zero, List.set_cons_succ]; rfl
    refine last_ (i := 6) (N := none) #[true, true, true, true, true, true, true] rfl rfl (one_of HT_.out (by kernel_rfl)) (by decide) (fun K hK => ?_)
    obtain ⟨z0, f0, z1, f1, z2, f2, z3, f3, k4⟩ := put4c (.int .i64 k) (.int .i64 s) (.slice none 0 0) (.slice none 0 0) HBT.out
    have HB4 := Aside0.mk (show Bt t k s (.slice none 0 0) (.slice none 0 0) _ from k4)
    have hwb : W.heap.size ≤ b1 := by have := HBS.out; omega
    have HS4 := Aside0.mk ((((HIS.out.set HGB.out (k := 0) HTB.out hwb (.int .i64 k)).set HGB.out (k := 1) HTB.out hwb (.int .i64 s)).set HGB.out (k := 2) HTB.out hwb (.slice none 0 0)).set HGB.out (k := 3) HTB.out hwb (.slice none 0 0))
    have HPN := Aside0.mk (show pNote l = pN1 k s l2 by unfold pNote; rw [hp1]; dsimp only; rw [hp2])
    clear k4 HIS HBT hp1 hp2 hwb
    refine skip_ (w1 := (((w3.setCell ⟨t, 0, none⟩ (.int .i64 k)).setCell ⟨t, 1, none⟩ (.int .i64 s)).setCell ⟨t, 2, none⟩ (.slice none 0 0)).setCell ⟨t, 3, none⟩ (.slice none 0 0)) (by rfl) rfl (by first | (go_simp; done) | (go_simp; rfl)) ?_
    refine hK.out _ _ ?_
    clear hK K z0 f0 z1 f1 z2 f2 z3 f3
    refine done_ (done_of HT_.out (by kernel_rfl)) ?_
    clear HT_ HW_ hHeld ISD PAN1 PAN2
    generalize (((w3.setCell ⟨t, 0, none⟩ (.int .i64 k)).setCell ⟨t, 1, none⟩ (.int .i64 s)).setCell ⟨t, 2, none⟩ (.slice none 0 0)).setCell ⟨t, 3, none⟩ (.slice none 0 0) = w4 at *
    clear w3 WD
    have c1 := HS4.out.cell
    have hcall := rmany w0 w4 g l2 HS4.out.rdy
    cases hpm : pMany l2 with
    | error n =>
      rw [hpm] at hcall
      have HCALL := Aside0.mk hcall
      have HE := Aside0.mk (show pNote l = .error n by rw [HPN.out]; unfold pN1; rw [hpm])
      clear hcall hpm
      go_wp2_with (go_at_call 45; refine HCALL.out.mono ?_; rintro e w5 ⟨rfl, hg5⟩; have HG5 := Aside0.mk (HS4.out.gr.trans hg5); clear HCALL hg5)
      all_goals exact ⟨rfl, PAN.out _ _ HE.out HG5.out⟩
    | ok mr =>
      obtain ⟨m, l3⟩ := mr
      rw [hpm] at hcall
      obtain ⟨M, rfl, hM⟩ := pMany_bound HS4.out.rdy.bytes hpm
      have HM := Aside0.mk hM
      have HPN1 := Aside0.mk (show pNote l = pN1b k s (pSome pImage M l3) by rw [HPN.out]; unfold pN1; rw [hpm]; rfl)
      have HCALL := Aside0.mk (show Calls Try.prog 45 #[.agg #[.pointer (some ⟨g, 0, none⟩)]] w4 fun e w' => e = .returned (.int .i64 (M : Int)) ∧ Rdy w0 w' g l3 ∧ w4.grownBy w' (some g) from hcall)
      clear hcall hpm hM HPN
      go_wp2_with (go_at_call 45; refine HCALL.out.mono ?_; rintro e w5 ⟨rfl, hr5, hg5⟩; have HS5 := Aside0.mk (HS4.out.read HGB.out hr5 hg5); have HB5 := Aside0.mk (show Bt t k s (.slice none 0 0) (.slice none 0 0) w5 from blk_grown HB4.out hg5 (fun e => by injection e with e; have := HGB.out; have := HTB.out; omega)); clear HCALL hr5 hg5)
      clear c1 HS4 HB4
      go_loopg [11] M (fun gg s11 wr => ∃ (i : Nat) (xs : List S44) (A : Option Addr) (c : Nat) (r : List Int), i ≤ M ∧ M - i ≤ gg ∧ s11 = .int .i64 i ∧ Aside0 (xs.length = i) ∧ Aside0 (pSome pImage M l3 = ahead xs (pSome pImage (M - i) r)) ∧ Aside0 (IS w0 W g b1 O27 wr r) ∧ Aside0 (Bt t k s (.slice A i c) (.slice none 0 0) wr) ∧ Aside0 (Kd.S k44 44 wr W.heap.size (fun _ => True) (.slice A i c) xs))
      case atStart =>
        exact ⟨0, [], none, 0, l3, by omega, by omega, rfl, ⟨rfl⟩, ⟨(ahead_nil _).symm⟩, HS5, HB5, ⟨Kd.S_nil _ _ _ _ _⟩⟩
      case round =>
        obtain ⟨i, xs, A, c, r, hi, hgi, rfl, HXL, HPS, HS, HB, HO⟩ := hrel
        clear HS5 HB5
        by_cases hlt : i < M
        · have q1 : ((i : Int) < (M : Int)) = True := eq_true (by omega)
          go_upto_region 4 with (fail)
          clear q1
          have HSD := Aside0.mk HS.out.drew
          have HBD := Aside0.mk (show Bt t k s (.slice A i c) (.slice none 0 0) wr.drew from blk_drew HB.out)
          have HOD := Aside0.mk (Kd.S_drew HO.out)
          refine start_ (n := 8) (S := fun w' => w'.cell? ⟨t, 2, none⟩ = some (.slice A i c) ∧ w'.cell? ⟨b1, 0, none⟩ = some (.pointer (some ⟨g, 0, none⟩))) (ds := [7]) #[false, false, false, false, false, false, false, false] rfl rfl rfl ⟨(blk_cell HBD.out 2).trans rfl, HSD.out.cell⟩ (fun hHeld => ?_)
          refine with_tabW reg26.tab4 reg26.bits4 (fun HT_ HW_ => ?_)
          generalize wr.drew = WD at *
          clear HS HB HO wr
          refine pz_ 0 13 HT_ ?_
          refine tz_ 1 14 HT_ HW_ hHeld ?_
          refine tz_ 2 15 HT_ HW_ hHeld ?_
          refine oz_ 3 16 HT_ (fun K hK => ?_)
          refine goesP_ Try.func46 (by kernel_rfl) rfl #[.agg #[.pointer (some ⟨g, 0, none⟩)]] (by rfl) rfl rfl ma_ ?_
          refine (rimage w0 _ g r HSD.out.rdy).mono ?_
          intro e w6 hrd
          have hM1 : M - i = (M - (i + 1)) + 1 := by omega
          rcases RImg.split hrd with ⟨x, q, v1, hpq, rfl, hv1, hr, hg⟩ | ⟨n, hpn, rfl, hg⟩
          rotate_left
          · exact Or.inr ⟨_, rfl, rfl, PAN.out _ _ (by rw [HPN1.out, HPS.out, hM1, pSome_bad _ _ hpn]; rfl) (HSD.out.gr.trans hg)⟩
          refine Or.inl ⟨.agg #[.int .i64 x.f0, v1], rfl, ?_⟩
          have HP6 := Aside0.mk (show pSome pImage M l3 = ahead (xs ++ [x]) (pSome pImage (M - (i + 1)) q) by rw [HPS.out, hM1, pSome_ok _ _ hpq])
          have hgb := HGB.out
          have htb := HTB.out
          have IS6 := Aside0.mk (HSD.out.read hgb hr hg)
          have bt6 : Bt t k s (.slice A i c) (.slice none 0 0) w6 := blk_grown HBD.out hg (fun e => by injection e with e; omega)
          have BT6 := Aside0.mk bt6
          obtain ⟨cg, hcg⟩ := HSD.out.gat
          have hS6 := Kd.S_grown (Kd.S_types (Kd.S_bound HOD.out) hcg (by decide)) hg (fun k hk e => hk.2 (by injection e))
          have hvl := Kd.S_lt HOD.out
          have hwd : W.heap.size ≤ WD.heap.size := HSD.out.gr.size
          have hR6 := Kd.R_lower (Kd.R_tight rfl hv1) hwd
          have hvb := Kd.R_base hv1
          have HO6 := Aside0.mk (show Kd.S k44 44 w6 W.heap.size (fun k => True ∧ ¬ some k = v1.ownBlock) (.slice A i c) xs from Kd.S_mono hS6 (fun k hk => ⟨trivial, fun e => by have := hvb k e.symm; have := hk.1.2.2.1; omega⟩))
          have HR6 := Aside0.mk hR6
          have HNE := Aside0.mk (fun (k : Nat) (hk : some k = v1.ownBlock) => (show True ∧ some k ≠ (Value.slice A i c).ownBlock from ⟨trivial, fun e => by have := hvb k hk.symm; have := hvl k e.symm; omega⟩))
          have HSZ := Aside0.mk (Nat.le_trans hwd hg.size)
          refine hK.out _ _ ⟨(blk_cell bt6 2).trans rfl, IS6.out.cell⟩ (fun hHeld => ?_)
          clear hK K hpq hrd hr hg hv1 bt6 hcg hS6 hvl hwd hR6 hvb HSD HBD HOD hM1 HPS
          refine oz_ 4 17 HT_ (fun K hK => ?_)
          have IS7 := Aside0.mk (IS6.out.alloc (.cells #[.int .i64 x.f0, v1] 44))
          have bt7 : Bt t k s (.slice A i c) (.slice none 0 0) (w6.alloc (.cells #[.int .i64 x.f0, v1] 44)) := blk_alloc BT6.out _
          refine value_ (by rfl) rfl (v := .slice (some ⟨w6.heap.size, 0, none⟩) 1 1) (w1 := w6.alloc (.cells #[.int .i64 x.f0, v1] 44)) (by first | (go_simp; done) | (go_simp; rfl)) ?_
          refine hK.out _ _ ⟨(blk_cell bt7 2).trans rfl, IS7.out.cell⟩ (fun hHeld => ?_)
          clear hK K bt7 IS7
          refine oz_ 5 18 HT_ (fun K hK => ?_)
          refine Kd.S_append_step k44 (w0 := w6) W.heap.size (by rfl) (.tmp 14) (.tmp 17) 24 44 (.agg #[(.int .i64 0), (.slice none 0 0)]) 32 rfl Try.underlying24 info44 rfl (by decide) (by omega) (.slice A i c) xs x [.int .i64 x.f0, v1] (fun _ => True) (fun k => some k = v1.ownBlock) rfl rfl ?aP HNE.out ?aF HO6.out ?aB HSZ.out ?aL ?_
          case aP => exact k44_mkM _ _ _ x HR6.out
          case aF => exact (fun _ _ => trivial)
          case aB => exact ⟨rfl, rfl, rfl, Nat.le_refl _, fun _ _ => rfl⟩
          case aL => rw [HXL.out]; have := HM.out; omega
          intro v9 w9 ho9 hb9 hg9 _
          obtain ⟨A9, c9, e9⟩ := Kd.S_slice ho9
          rw [List.length_append, List.length_singleton, HXL.out] at e9
          subst e9
          obtain ⟨cg, hcg⟩ := IS6.out.gat
          have n1 := Kd.S_ne HO6.out hcg (by decide)
          have n2 := Kd.S_ne HO6.out IS6.out.box (by decide)
          have n3 := Kd.S_ne HO6.out IS6.out.out (by decide)
          have n4 := Kd.S_ne HO6.out BT6.out (by decide)
          have HS9 := Aside0.mk (IS6.out.over hg9 n1 n2 n3 HW0.out (Kd.S_base HO6.out))
          have bt9 : Bt t k s (.slice A i c) (.slice none 0 0) w9 := blk_grown BT6.out hg9 n4
          have BT9 := Aside0.mk bt9
          have HO9 := Aside0.mk ho9
          have z2 : w9.cell? ⟨t, 2, none⟩ = some (.slice A i c) := (blk_cell bt9 2).trans rfl
          have f2 := blk_frozen bt9 2
          refine hK.out _ _ ⟨z2, HS9.out.cell⟩ (fun hHeld => ?_)
          clear hK K bt9 ho9 hb9 hg9 n1 n2 n3 n4 hcg HO6 IS6 BT6 HR6 HNE HSZ
          refine pz_ 6 19 HT_ ?_
          refine last_ (i := 7) (N := none) #[true, true, true, true, true, true, true, true] rfl rfl (one_of HT_.out (by kernel_rfl)) (by decide) (fun K hK => ?_)
          refine skip_ (w1 := w9.setCell ⟨t, 2, none⟩ (.slice A9 (i + 1) c9)) (by rfl) rfl (by first | (go_simp; done) | (go_simp; rfl)) ?_
          refine hK.out _ _ ?_
          clear hK K z2 f2
          refine done_ (done_of HT_.out (by kernel_rfl)) ?_
          clear HT_ HW_ hHeld
          have HB10 := Aside0.mk (show Bt t k s (.slice A9 (i + 1) c9) (.slice none 0 0) (w9.setCell ⟨t, 2, none⟩ (.slice A9 (i + 1) c9)) from by unfold Bt; simpa using blk_set BT9.out 2 (.slice A9 (i + 1) c9))
          have HS10 := Aside0.mk (HS9.out.set hgb (k := 2) htb (by have := HBS.out; omega) (.slice A9 (i + 1) c9))
          have HO10 := Aside0.mk (Kd.S_set HO9.out BT9.out (by decide) 2 (.slice A9 (i + 1) c9))
          have HX10 := Aside0.mk (show (xs ++ [x]).length = i + 1 by rw [List.length_append, List.length_singleton, HXL.out])
          generalize w9.setCell ⟨t, 2, none⟩ (.slice A9 (i + 1) c9) = w10 at *
          clear HS9 HO9 BT9 hgb htb
          have hM := HM.out
          go_wp2
          go_roundg (M - (i + 1))
          case measure => omega
          case rel => exact ⟨i + 1, xs ++ [x], A9, c9, q, by omega, by omega, by go_num, HX10, HP6, HS10, HB10, HO10⟩
        · obtain rfl : i = M := by omega
          have HPN2 := Aside0.mk (show pNote l = pN2 k s xs r by rw [HPN1.out, HPS.out, Nat.sub_self, pSome_end]; rfl)
          have q1 : ((i : Int) < (i : Int)) = False := eq_false (by omega)
          have c1 := HS.out.cell
          have hcall := rmany w0 wr g r HS.out.rdy
          clear HPN1 HPS hlt hi hgi
          cases hpm : pMany r with
          | error n =>
            rw [hpm] at hcall
            have HCALL := Aside0.mk hcall
            have HE := Aside0.mk (show pNote l = .error n by rw [HPN2.out]; unfold pN2; rw [hpm])
            clear hcall hpm
            go_wp2_with (go_at_call 45; refine HCALL.out.mono ?_; rintro e w5 ⟨rfl, hg5⟩; have HG5 := Aside0.mk (HS.out.gr.trans hg5); clear HCALL hg5)
            all_goals exact ⟨rfl, PAN.out _ _ HE.out HG5.out⟩
          | ok mr =>
            obtain ⟨m, l4⟩ := mr
            rw [hpm] at hcall
            obtain ⟨N, rfl, hN⟩ := pMany_bound HS.out.rdy.bytes hpm
            have HN := Aside0.mk hN
            have HPN3 := Aside0.mk (show pNote l = pN2b k s xs (pSome pOp N l4) by rw [HPN2.out]; unfold pN2; rw [hpm]; rfl)
            have HCALL := Aside0.mk (show Calls Try.prog 45 #[.agg #[.pointer (some ⟨g, 0, none⟩)]] wr fun e w' => e = .returned (.int .i64 (N : Int)) ∧ Rdy w0 w' g l4 ∧ wr.grownBy w' (some g) from hcall)
            clear hcall hpm hN HPN2
            go_wp2_with (go_at_call 45; refine HCALL.out.mono ?_; rintro e w5 ⟨rfl, hr5, hg5⟩; have HS5 := Aside0.mk (HS.out.read HGB.out hr5 hg5); have HB5 := Aside0.mk (show Bt t k s (.slice A i c) (.slice none 0 0) w5 from blk_grown HB.out hg5 (fun e => by injection e with e; have := HGB.out; have := HTB.out; omega)); have HO5 := Aside0.mk (S_row HO.out HS.out.gat hg5); clear HCALL hr5 hg5)
            clear c1 HS HB HO q1
            go_loopg [23] N (fun gg s11 wr => ∃ (j : Nat) (ys : List S46) (A' : Option Addr) (c' : Nat) (r : List Int), j ≤ N ∧ N - j ≤ gg ∧ s11 = .int .i64 j ∧ Aside0 (ys.length = j) ∧ Aside0 (pSome pOp N l4 = ahead ys (pSome pOp (N - j) r)) ∧ Aside0 (IS w0 W g b1 O27 wr r) ∧ Aside0 (Bt t k s (.slice A i c) (.slice A' j c') wr) ∧ Aside0 (Kd.S k44 44 wr W.heap.size (fun _ => True) (.slice A i c) xs) ∧ Aside0 (Kd.R k46 46 wr W.heap.size (fun _ => True) (.slice A' j c') ys))
            case atStart =>
              exact ⟨0, [], none, 0, l4, by omega, by omega, rfl, ⟨rfl⟩, ⟨(ahead_nil _).symm⟩, HS5, HB5, HO5, ⟨Kd.R_nil _ _ _ _ _⟩⟩
            case round =>
              obtain ⟨j, ys, A', c', r', hj, hgj, rfl, HYL, HPS, HS, HB, HO, HR⟩ := hrel
              clear HS5 HB5 HO5
              by_cases hlt : j < N
              · have q1 : ((j : Int) < (N : Int)) = True := eq_true (by omega)
                go_upto_region 8 with (fail)
                clear q1
                have HSD := Aside0.mk HS.out.drew
                have HBD := Aside0.mk (show Bt t k s (.slice A i c) (.slice A' j c') wr.drew from blk_drew HB.out)
                have HOD := Aside0.mk (Kd.S_drew HO.out)
                have HRD := Aside0.mk (Kd.R_drew HR.out)
                refine start_ (n := 8) (S := fun w' => w'.cell? ⟨t, 3, none⟩ = some (.slice A' j c') ∧ w'.cell? ⟨b1, 0, none⟩ = some (.pointer (some ⟨g, 0, none⟩))) (ds := [7]) #[false, false, false, false, false, false, false, false] rfl rfl rfl ⟨(blk_cell HBD.out 3).trans rfl, HSD.out.cell⟩ (fun hHeld => ?_)
                refine with_tabW reg26.tab8 reg26.bits8 (fun HT_ HW_ => ?_)
                generalize wr.drew = WD at *
                clear HS HB HO HR wr
                refine pz_ 0 25 HT_ ?_
                refine tz_ 1 26 HT_ HW_ hHeld ?_
                refine tz_ 2 27 HT_ HW_ hHeld ?_
                refine oz_ 3 28 HT_ (fun K hK => ?_)
                refine goesP_ Try.func47 (by kernel_rfl) rfl #[.agg #[.pointer (some ⟨g, 0, none⟩)]] (by rfl) rfl rfl ma_ ?_
                refine (rop w0 _ g r' HSD.out.rdy).mono ?_
                intro e w6 hrd
                have hM1 : N - j = (N - (j + 1)) + 1 := by omega
                rcases Reads.split hrd with ⟨x, q, hpq, rfl, hr, hg⟩ | ⟨n, hpn, rfl, hg⟩
                rotate_left
                · exact Or.inr ⟨_, rfl, rfl, PAN.out _ _ (by rw [HPN3.out, HPS.out, hM1, pSome_bad _ _ hpn]; rfl) (HSD.out.gr.trans hg)⟩
                refine Or.inl ⟨eO x, rfl, ?_⟩
                have HP6 := Aside0.mk (show pSome pOp N l4 = ahead (ys ++ [x]) (pSome pOp (N - (j + 1)) q) by rw [HPS.out, hM1, pSome_ok _ _ hpq])
                have hgb := HGB.out
                have htb := HTB.out
                have IS6 := Aside0.mk (HSD.out.read hgb hr hg)
                have bt6 : Bt t k s (.slice A i c) (.slice A' j c') w6 := blk_grown HBD.out hg (fun e => by injection e with e; omega)
                have BT6 := Aside0.mk bt6
                have HO6 := Aside0.mk (S_row HOD.out HSD.out.gat hg)
                obtain ⟨cg, hcg⟩ := HSD.out.gat
                have HR6 := Aside0.mk (show Kd.R k46 46 w6 W.heap.size (fun _ => True) (.slice A' j c') ys from Kd.R_mono (Kd.R_grown (Kd.R_types HRD.out hcg (by decide)) hg (fun k hk e => hk.2 (by injection e))) (fun _ _ => trivial))
                have HSZ := Aside0.mk (Nat.le_trans HSD.out.gr.size hg.size)
                refine hK.out _ _ ⟨(blk_cell bt6 3).trans rfl, IS6.out.cell⟩ (fun hHeld => ?_)
                clear hK K hpq hrd hr hg bt6 hcg HSD HBD HOD HRD hM1 HPS
                refine oz_ 4 29 HT_ (fun K hK => ?_)
                have IS7 := Aside0.mk (IS6.out.alloc (.cells #[.int .i64 x.f0, .int .i64 x.f1] 46))
                have bt7 : Bt t k s (.slice A i c) (.slice A' j c') (w6.alloc (.cells #[.int .i64 x.f0, .int .i64 x.f1] 46)) := blk_alloc BT6.out _
                refine value_ (by rfl) rfl (v := .slice (some ⟨w6.heap.size, 0, none⟩) 1 1) (w1 := w6.alloc (.cells #[.int .i64 x.f0, .int .i64 x.f1] 46)) (by unfold eO; first | (go_simp; done) | (go_simp; rfl)) ?_
                refine hK.out _ _ ⟨(blk_cell bt7 3).trans rfl, IS7.out.cell⟩ (fun hHeld => ?_)
                clear hK K bt7 IS7
                refine oz_ 5 30 HT_ (fun K hK => ?_)
                refine Kd.R_append_step k46 (w0 := w6) W.heap.size (by rfl) (.tmp 26) (.tmp 29) 25 46 (.agg #[(.int .i64 0), (.int .i64 0)]) 16 rfl Try.underlying25 info46 rfl (by decide) (by omega) (.slice A' j c') ys x [.int .i64 x.f0, .int .i64 x.f1] (fun _ => True) (fun _ => False) rfl rfl ?aP (fun _ hk => hk.elim) ?aF HR6.out ?aB HSZ.out ?aL ?_
                case aP => exact k46_mkM _ _ _ x
                case aF => exact (fun _ _ => trivial)
                case aB => exact ⟨rfl, rfl, rfl, Nat.le_refl _, fun _ _ => rfl⟩
                case aL => rw [HYL.out]; have := HN.out; omega
                intro v9 w9 ho9 hb9 hg9 _
                obtain ⟨A9, c9, e9⟩ := Kd.R_slice ho9
                rw [List.length_append, List.length_singleton, HYL.out] at e9
                subst e9
                obtain ⟨cg, hcg⟩ := IS6.out.gat
                have n1 := Kd.R_ne HR6.out hcg (by decide)
                have n2 := Kd.R_ne HR6.out IS6.out.box (by decide)
                have n3 := Kd.R_ne HR6.out IS6.out.out (by decide)
                have n4 := Kd.R_ne HR6.out BT6.out (by decide)
                have HS9 := Aside0.mk (IS6.out.over hg9 n1 n2 n3 HW0.out (Kd.R_base HR6.out))
                have bt9 : Bt t k s (.slice A i c) (.slice A' j c') w9 := blk_grown BT6.out hg9 n4
                have BT9 := Aside0.mk bt9
                have HR9 := Aside0.mk ho9
                have HO9 := Aside0.mk (Kd.S_over' HO6.out (Kd.R_typed HR6.out) (by decide) hg9)
                have z2 : w9.cell? ⟨t, 3, none⟩ = some (.slice A' j c') := (blk_cell bt9 3).trans rfl
                have f2 := blk_frozen bt9 3
                refine hK.out _ _ ⟨z2, HS9.out.cell⟩ (fun hHeld => ?_)
                clear hK K bt9 ho9 hb9 hg9 n1 n2 n3 n4 hcg HO6 HR6 IS6 BT6 HSZ
                refine pz_ 6 31 HT_ ?_
                refine last_ (i := 7) (N := none) #[true, true, true, true, true, true, true, true] rfl rfl (one_of HT_.out (by kernel_rfl)) (by decide) (fun K hK => ?_)
                refine skip_ (w1 := w9.setCell ⟨t, 3, none⟩ (.slice A9 (j + 1) c9)) (by rfl) rfl (by first | (go_simp; done) | (go_simp; rfl)) ?_
                refine hK.out _ _ ?_
                clear hK K z2 f2
                refine done_ (done_of HT_.out (by kernel_rfl)) ?_
                clear HT_ HW_ hHeld
                have HB10 := Aside0.mk (show Bt t k s (.slice A i c) (.slice A9 (j + 1) c9) (w9.setCell ⟨t, 3, none⟩ (.slice A9 (j + 1) c9)) from by unfold Bt; simpa using blk_set BT9.out 3 (.slice A9 (j + 1) c9))
                have HS10 := Aside0.mk (HS9.out.set hgb (k := 3) htb (by have := HBS.out; omega) (.slice A9 (j + 1) c9))
                have HO10 := Aside0.mk (Kd.S_set HO9.out BT9.out (by decide) 3 (.slice A9 (j + 1) c9))
                have HR10 := Aside0.mk (Kd.R_set HR9.out BT9.out (by decide) 3 (.slice A9 (j + 1) c9))
                have HX10 := Aside0.mk (show (ys ++ [x]).length = j + 1 by rw [List.length_append, List.length_singleton, HYL.out])
                generalize w9.setCell ⟨t, 3, none⟩ (.slice A9 (j + 1) c9) = w10 at *
                clear HS9 HO9 HR9 BT9 hgb htb
                have hN := HN.out
                go_wp2
                go_roundg (N - (j + 1))
                case measure => omega
                case rel => exact ⟨j + 1, ys ++ [x], A9, c9, q, by omega, by omega, by go_num, HX10, HP6, HS10, HB10, HO10, HR10⟩
              · obtain rfl : j = N := by omega
                have HPN4 := Aside0.mk (show pNote l = pN3 k s xs ys r' by rw [HPN3.out, HPS.out, Nat.sub_self, pSome_end]; rfl)
                have q1 : ((j : Int) < (j : Int)) = False := eq_false (by omega)
                have c1 := HS.out.cell
                have hend := end_ok w0 wr g r' HS.out.rdy.rd
                clear HPN3 HPS hlt hj hgj
                by_cases hre : r' = []
                · rw [if_pos hre] at hend
                  have HEND := Aside0.mk hend
                  have hneed := Aside0.mk (fun W' => need_ok W')
                  obtain ⟨-, e2, hC1⟩ := Kd.S_reads' HO.out
                  obtain ⟨-, e4, hC2⟩ := Kd.R_reads' HR.out
                  obtain ⟨kk, hk⟩ := (sane_ev k s xs ys (by rw [HXL.out]; have := HM.out; omega) (by rw [HYL.out]; have := HN.out; omega)).get
                  have hsane := note_Sane.calls kk k s A c xs A' c' ys (saneN k s xs ys) wr hC1 (by rw [HXL.out]; exact e2) hC2 (by rw [HYL.out]; exact e4) hk
                  rw [HXL.out, HYL.out] at hsane
                  have t0 : wr.cell? ⟨t, 0, none⟩ = some (.int .i64 k) := (blk_cell HB.out 0).trans rfl
                  have t1 : wr.cell? ⟨t, 1, none⟩ = some (.int .i64 s) := (blk_cell HB.out 1).trans rfl
                  have t2 : wr.cell? ⟨t, 2, none⟩ = some (.slice A i c) := (blk_cell HB.out 2).trans rfl
                  have t3 : wr.cell? ⟨t, 3, none⟩ = some (.slice A' j c') := (blk_cell HB.out 3).trans rfl
                  have HPN5 := Aside0.mk (show pNote l = if saneN k s xs ys = true then .ok (k, s, xs, ys) else .error 3 by rw [HPN4.out]; unfold pN3; rw [if_pos hre])
                  obtain ⟨sn, hsn⟩ : ∃ sn, saneN k s xs ys = sn := ⟨_, rfl⟩
                  rw [hsn] at hsane HPN5
                  have HSANE := Aside0.mk hsane
                  clear hsane hC1 hC2 e2 e4 hk hend hre hsn HPN4
                  cases sn with
                  | false =>
                    have HE := Aside0.mk (show pNote l = .error 3 from HPN5.out)
                    go_wp2_with (first | (go_at_call 49; refine HEND.out.mono ?_; rintro e w5 ⟨rfl, rfl⟩; clear HEND) | (go_at_call 14; refine HSANE.out.mono ?_; rintro e w7 ⟨rfl, hb7⟩; have HG7 := Aside0.mk (HS.out.gr.trans (grown_b hb7 (some g))); have hneed2 := Aside0.mk (fun W' => need_bad 3 (by decide) W'); clear HSANE hb7) | (go_at_call 48; refine (hneed.out _).mono ?_; rintro e w6 ⟨rfl, rfl⟩; clear hneed) | (go_at_call 48; refine (hneed2.out _).mono ?_; rintro e w8 ⟨rfl, rfl⟩; clear hneed2))
                    all_goals exact ⟨rfl, PAN.out _ _ HE.out HG7.out⟩
                  | true =>
                    have HE := Aside0.mk (show pNote l = .ok (k, s, xs, ys) from HPN5.out)
                    go_wp2_with (first | (go_at_call 49; refine HEND.out.mono ?_; rintro e w5 ⟨rfl, rfl⟩; clear HEND) | (go_at_call 14; refine HSANE.out.mono ?_; rintro e w7 ⟨rfl, hb7⟩; have j1 := blk_below HS.out.out hb7; have j2 : Bt t k s (.slice A i c) (.slice A' j c') w7 := blk_below HB.out hb7; have HG7 := Aside0.mk (HS.out.gr.trans (grown_b hb7 (some g))); have HO7 := Aside0.mk (Kd.S_below HO.out hb7); have HR7 := Aside0.mk (Kd.R_below HR.out hb7); clear HSANE hb7 t0 t1 t2 t3 c1; have t0 : w7.cell? ⟨t, 0, none⟩ = some (.int .i64 k) := (blk_cell j2 0).trans rfl; have t1 : w7.cell? ⟨t, 1, none⟩ = some (.int .i64 s) := (blk_cell j2 1).trans rfl; have t2 : w7.cell? ⟨t, 2, none⟩ = some (.slice A i c) := (blk_cell j2 2).trans rfl; have t3 : w7.cell? ⟨t, 3, none⟩ = some (.slice A' j c') := (blk_cell j2 3).trans rfl; obtain ⟨z0, f0, z1, f1, z2, f2, z3, f3, k4⟩ := put4c (.int .i64 k) (.int .i64 s) (.slice A i c) (.slice A' j c') j1; have J1 := Aside0.mk j1; have K4 := Aside0.mk k4; clear j1 j2 k4) | (go_at_call 48; refine (hneed.out _).mono ?_; rintro e w6 ⟨rfl, rfl⟩; clear hneed))
                    clear z0 f0 z1 f1 z2 f2 z3 f3 t0 t1 t2 t3
                    have hwb : W.heap.size ≤ b1 := by have := HBS.out; omega
                    have hS := Kd.S_far (p := ⟨b1 + 1, 3, none⟩) (Kd.S_far (p := ⟨b1 + 1, 2, none⟩) (Kd.S_far (p := ⟨b1 + 1, 1, none⟩) (Kd.S_far (p := ⟨b1 + 1, 0, none⟩) (Kd.S_types HO7.out J1.out (by decide)) (fun _ hk => hk.2) (.int .i64 k)) (fun _ hk => hk.2) (.int .i64 s)) (fun _ hk => hk.2) (.slice A i c)) (fun _ hk => hk.2) (.slice A' j c')
                    have hR := Kd.R_far (p := ⟨b1 + 1, 3, none⟩) (Kd.R_far (p := ⟨b1 + 1, 2, none⟩) (Kd.R_far (p := ⟨b1 + 1, 1, none⟩) (Kd.R_far (p := ⟨b1 + 1, 0, none⟩) (Kd.R_types HR7.out J1.out (by decide)) (fun _ hk => hk.2) (.int .i64 k)) (fun _ hk => hk.2) (.int .i64 s)) (fun _ hk => hk.2) (.slice A i c)) (fun _ hk => hk.2) (.slice A' j c')
                    have hG := grown_far (k := 3) (grown_far (k := 2) (grown_far (k := 1) (grown_far (k := 0) HG7.out (show W.heap.size ≤ b1 + 1 by omega) (.int .i64 k)) (show W.heap.size ≤ b1 + 1 by omega) (.int .i64 s)) (show W.heap.size ≤ b1 + 1 by omega) (.slice A i c)) (show W.heap.size ≤ b1 + 1 by omega) (.slice A' j c')
                    have HSF := Aside0.mk (Kd.S_lower (Kd.S_mono hS (fun _ _ => trivial)) HW0.out)
                    have HRF := Aside0.mk (Kd.R_lower (Kd.R_mono hR (fun _ _ => trivial)) HW0.out)
                    have HGF := Aside0.mk hG
                    clear hS hR hG
                    generalize (((w7.setCell ⟨b1 + 1, 0, none⟩ (.int .i64 k)).setCell ⟨b1 + 1, 1, none⟩ (.int .i64 s)).setCell ⟨b1 + 1, 2, none⟩ (.slice A i c)).setCell ⟨b1 + 1, 3, none⟩ (.slice A' j c') = w9 at *
                    have r0 : w9.cell? ⟨b1 + 1, 0, none⟩ = some (.int .i64 k) := (blk_cell K4.out 0).trans rfl
                    have r1 : w9.cell? ⟨b1 + 1, 1, none⟩ = some (.int .i64 s) := (blk_cell K4.out 1).trans rfl
                    have r2 : w9.cell? ⟨b1 + 1, 2, none⟩ = some (.slice A i c) := (blk_cell K4.out 2).trans rfl
                    have r3 : w9.cell? ⟨b1 + 1, 3, none⟩ = some (.slice A' j c') := (blk_cell K4.out 3).trans rfl
                    refine bodyPost_ret (v := .agg #[.int .i64 k, .int .i64 s, .slice A i c, .slice A' j c']) ?_ rfl ?_
                    · have hf : Try.f26.results = #[.cell 2 27] := rfl
                      unfold results
                      rw [hf]
                      go_simp
                      try rfl
                    · rw [HE.out]
                      exact ⟨_, _, rfl, HSF.out, HRF.out, HGF.out⟩
                · rw [if_neg hre] at hend
                  have HEND := Aside0.mk hend
                  have HE := Aside0.mk (show pNote l = .error 3 by rw [HPN4.out]; unfold pN3; rw [if_neg hre])
                  have hneed := Aside0.mk (fun W' => need_bad 3 (by decide) W')
                  clear hend hre HPN4
                  go_wp2_with (first | (go_at_call 49; refine HEND.out.mono ?_; rintro e w5 ⟨rfl, rfl⟩; clear HEND) | (go_at_call 48; refine (hneed.out _).mono ?_; rintro e w6 ⟨rfl, rfl⟩; clear hneed))
                  all_goals exact ⟨rfl, PAN.out _ _ HE.out HS.out.gr⟩
end Go.Proofs.Ythcikbbglpdjhaa.Q
