import Derived.Test.YtnlnglfjehohpaaSJ
import Derived.Test.YtnlnglfjehohpaaTL
namespace Go.Proofs.Ytnlnglfjehohpaa.Q
open Go.RowKit Go.Proofs.YtnlnglfjehohpaaW Go.Proofs.YtnlnglfjehohpaaW.PrintWords Go.Proofs.YtnlnglfjehohpaaW.PrintLast Go.Proofs.YtnlnglfjehohpaaW.PrintMore
set_option linter.unusedVariables false
set_option linter.unusedSimpArgs false
def reg36.T1 : Bool × List (List Nat × List Nat) := (true, [([], []), ([0], [0]), ([], []), ([1, 2], [1, 2]), ([3], [3]), ([4], [4]), ([], []), ([6], [6]), ([], []), ([7, 8], [7, 8]), ([9], [9]), ([10], [10]), ([5, 11], [5, 11]), ([12, 12, 0, 1, 2, 3, 4, 5, 6, 7, 8, 9, 10, 11, 12], [12])])
def reg36.B1 : List Nat := [0, 1, 0, 7, 15, 31, 0, 64, 0, 448, 960, 1984, 4095, 8191]
theorem reg36.tab1 : rtab .any (opsOf Try.f36 1) = reg36.T1 := by kernel_rfl
theorem reg36.bits1 : waitsOk reg36.T1.2 reg36.B1 = true := by kernel_rfl
theorem isnan_ok (x : Int) (w : World) : Calls Try.prog 41 #[.int .i64 x] w fun e w' => e = .returned (.bool false) ∧ Below w.heap.size w w' := by
  go_enter Try.func41, Try.ntmps41
  go_wp2
  go_ret
  exact ⟨rfl, Below.refl _ _⟩
theorem compare_ok (x y : Int) (w : World) : Calls Try.prog 37 #[.int .i64 x, .int .i64 y] w fun e w' => e = .returned (.int .i64 (cmp3 x y)) ∧ Below w.heap.size w w' := by
  have hc := Aside0.mk (fun x W => isnan_ok x W)
  have HB := Aside0.mk (Below.refl w.heap.size w)
  have e1 : cmp3 x y = if x < y then -1 else if y < x then 1 else 0 := rfl
  rw [e1]
  clear e1
  go_enter Try.func37, Try.ntmps37
  go_wp2_with (go_at_call 41; refine (hc.out _ _).mono ?_; rintro e w1 ⟨rfl, hb1⟩; replace HB := Aside0.mk (HB.out.trans (hb1.mono HB.out.size)); clear hb1)
  all_goals (go_ret; exact ⟨rfl, HB.out⟩)
/-- The way of the closure that compares: by Ended. -/
def byEnd (l : List S35) (x : Int) : Int := (rd_T35 l x).f3
set_option maxHeartbeats 1600000 in
theorem cmp36_ok (w1 : World) (BX : Nat) (A : Option Addr) (n c : Nat) (l : List S35) (hn : l.length = n) (hb : w1.cell? ⟨BX, 0, none⟩ = some (.slice A n c)) (hC : Kd.C k35 w1 A n l) (row : Option Nat) (hrow : ∀ k, row = some k → w1.heap.size ≤ k) :
    CmpI 36 BX (byEnd l) (fun x => 0 ≤ x ∧ x < n) row (fun W => Below w1.heap.size w1 W) := by
  refine ⟨fun W x y hK hx hy => ?_, fun W W' hK hg => hK.grown hg hK.size hrow⟩
  obtain ⟨ad, rfl, _, _, _, e1⟩ := at_T35 hC x hx.1 hx.2
  obtain ⟨ad', hh, _, _, _, e2⟩ := at_T35 hC y hy.1 hy.2
  injection hh with hh
  subst hh
  have hu := Try.underlying26
  have hu2 := Try.underlying35
  have p0 := hh_ hK hb
  have p1 := hh_ hK e1
  have p2 := hh_ hK e2
  obtain ⟨ex, hex⟩ : ∃ ex, byEnd l x = ex := ⟨_, rfl⟩
  obtain ⟨ey, hey⟩ : ∃ ey, byEnd l y = ey := ⟨_, rfl⟩
  rw [hex, hey]
  unfold byEnd at hex hey
  rw [hex] at p1
  rw [hey] at p2
  have hcall := Aside0.mk (fun W' => compare_ok ex ey W')
  obtain ⟨r, hr⟩ : ∃ r, cmp3 ex ey = r := ⟨_, rfl⟩
  rw [hr] at hcall ⊢
  have HB := Aside0.mk ((Below.refl W.heap.size W).drew)
  have q1 : (0 ≤ x) = True := eq_true hx.1
  have q2 : (x < (n : Int)) = True := eq_true hx.2
  have q3 : (0 ≤ y) = True := eq_true hy.1
  have q4 : (y < (n : Int)) = True := eq_true hy.2
  clear e1 e2 hex hey hr hx hy hb hC hn hK hrow
  go_enter Try.func36, Try.ntmps36
  go_upto_region 1 with (fail)
  refine start_ (n := 14) (S := fun w' => w'.cell? ⟨BX, 0, none⟩ = some (.slice (some ad) n c) ∧ w'.cell? ⟨(ad.add (x.toNat * 4)).block, (ad.add (x.toNat * 4)).off + 3, none⟩ = some (.int .i64 ex) ∧ w'.cell? ⟨(ad.add (y.toNat * 4)).block, (ad.add (y.toNat * 4)).off + 3, none⟩ = some (.int .i64 ey)) (ds := [13]) #[false, false, false, false, false, false, false, false, false, false, false, false, false, false] rfl rfl rfl ⟨p0, p1, p2⟩ (fun hHeld => ?_)
  refine with_tabW reg36.tab1 reg36.bits1 (fun HT_ HW_ => ?_)
  refine pz_ 0 6 HT_ ?_
  refine tz_ 1 7 HT_ HW_ hHeld ?_
  refine pz_ 2 8 HT_ ?_
  refine pz_ 3 9 HT_ ?_
  refine pz_ 4 10 HT_ ?_
  refine tz_ 5 11 HT_ HW_ hHeld ?_
  refine pz_ 6 12 HT_ ?_
  refine tz_ 7 13 HT_ HW_ hHeld ?_
  refine pz_ 8 14 HT_ ?_
  refine pz_ 9 15 HT_ ?_
  refine pz_ 10 16 HT_ ?_
  refine tz_ 11 17 HT_ HW_ hHeld ?_
  refine oz_ 12 18 HT_ (fun K' hK' => ?_)
  refine goes_ Try.func37 (by kernel_rfl) rfl #[.int .i64 ex, .int .i64 ey] (by rfl) rfl rfl ma_ ?_
  refine (hcall.out W.drew).mono ?_
  rintro e w4 ⟨rfl, hb4⟩
  refine ⟨_, rfl, hK'.out _ _ ⟨hh_ hb4 hHeld.1, hh_ hb4 hHeld.2.1, hh_ hb4 hHeld.2.2⟩ (fun hHeld4 => ?_)⟩
  clear hK' K' hHeld4
  have HB4 := Aside0.mk (HB.out.trans (hb4.mono HB.out.size))
  refine pz_ 13 5 HT_ ?_
  refine done_ (done_of HT_.out (by kernel_rfl)) ?_
  clear HT_ HW_ hHeld hb4
  go_wp2
  go_ret
  exact ⟨rfl, HB4.out⟩
/-- slices.SortStableFunc on the whole row. -/
theorem sortStable_ok (BX : Nat) (key : Int → Int) (dom : Int → Prop) (K : World → Prop) (A : Option Addr) (c L base : Nat) (ok : Nat → Prop) (w0 w : World) (hC : CmpI 36 BX key dom (Value.slice A L c).ownBlock K) (hl : L < 1000) (l0 : List Int) (hdom : ∀ x ∈ l0, dom x) (hW : Wr K A c L base ok w0 w l0 w) :
    Calls Try.prog 35 #[.slice A L c, .func (.func 36) #[] #[.pointer (some ⟨BX, 0, none⟩)]] w fun e w' => e = .returned (.tuple #[]) ∧ ∃ T : List Int, T.Perm l0 ∧ Sorted key T ∧ Wr K A c L base ok w0 w T w' := by
  have HCALL := Aside0.mk (stable_ok BX key dom K A c L base ok w0 w hC hl l0 hdom hW)
  clear hC hdom hW
  go_enter Try.func35, Try.ntmps35
  go_wp2_with (go_at_call 40; refine HCALL.out.mono ?_; rintro e w1 ⟨rfl, h1⟩; have HR := Aside0.mk h1; clear HCALL h1)
  go_end0
  exact ⟨rfl, HR.out⟩
end Go.Proofs.Ytnlnglfjehohpaa.Q
