/- slices.BinarySearchFunc at pends that are in order, by order. -/
import Derived.Test.YtdnkbmjlcdddcaaEC
import Derived.Test.YtdnkbmjlcdddcaaQA
import Derived.Test.YtdnkbmjlcdddcaaDF
namespace Go.Proofs.Ytdnkbmjlcdddcaa.Q
open Go.RowKit Go.Proofs.YtdnkbmjlcdddcaaW Go.Proofs.YtdnkbmjlcdddcaaW.PrintWords Go.Proofs.YtdnkbmjlcdddcaaW.PrintLast Go.Proofs.YtdnkbmjlcdddcaaW.PrintMore
set_option linter.unusedVariables false
set_option linter.unusedSimpArgs false
section
variable {P : Program} {ops : Array Oper} {Q : Exit → Act → World → Prop}
/-- A call of a function value, as a step of a drawn region. -/
theorem goesV_ {oi : Oper} {N : Option Tmp} {a : Act} {w : World} {K : Act → World → Prop} {f : FuncId} {fn : Func} {p : Operand} {ys : Array Operand} {ts : Array TypeId} {lb : Array Value} (hf : P.funcs[f]? = some fn) (hname : (fn.name == "runtime.NumGoroutine") = false) (hb : fn.body.isSome = true) (args : Array Value)
    (hw : Region.wanted oi (yielded ops a.tmps) = true) (hN : oi.dst = N) (hop : oi.op = .call { callee := .value p, args := ys, argTypes := ts }) (hp : a.eval p = .func (.func f) #[] lb) (hargs : ys.map a.eval ++ lb = args)
    (h : Calls P f args w fun e w' => ∃ v, e = .returned v ∧ K (a.put N v) w') : if Region.wanted oi (yielded ops a.tmps) = true then Oper.wp P oi a w K Q else K (a.put N undef) w := by
  refine call_ f args hw hN ?_ h
  have he := enters_ hf hname hb args w
  unfold execOp
  simp [hop, hp, resolve, Deferred.ofValue, invoke, hargs, he]
end
def bsf.T5 : Bool × List (List Nat × List Nat) := (true, [([], []), ([], []), ([], []), ([1, 2], [1, 2]), ([3], [3]), ([], []), ([0, 4, 5], [0, 4, 5]), ([6], [6])])
def bsf.B5 : List Nat := [0, 0, 0, 6, 14, 0, 63, 127]
theorem bsf.tab5 : rtab .any (opsOf Try.f58 5) = bsf.T5 := by kernel_rfl
theorem bsf.bits5 : waitsOk bsf.T5.2 bsf.B5 = true := by kernel_rfl
def bsf.T8 : Bool × List (List Nat × List Nat) := (true, [([], []), ([], []), ([], []), ([1, 2], [1, 2]), ([3], [3]), ([4], [4]), ([4], [4]), ([4], [4]), ([6, 7, 4], [4, 6, 7]), ([8, 4], [4, 8]), ([4], [4]), ([5, 9, 10, 4, 4], [4, 5, 9, 10]), ([11, 4], [4, 11]), ([4, 12], [4, 12]), ([0, 11, 0], [0]), ([13, 14, 0, 1, 2, 3, 4, 5, 6, 7, 8, 9, 10, 11, 12, 13, 14], [13])])
def bsf.B8 : List Nat := [0, 0, 0, 6, 14, 30, 30, 30, 222, 478, 30, 2046, 4094, 8190, 4095, 32767]
theorem bsf.tab8 : rtab .any (opsOf Try.f58 8) = bsf.T8 := by kernel_rfl
theorem bsf.bits8 : waitsOk bsf.T8.2 bsf.B8 = true := by kernel_rfl
def hasP (l : List S83) (t : S83) : Bool := match l[posP l t]? with | some x => cmpP x t == 0 | none => false
set_option maxRecDepth 100000 in
set_option maxHeartbeats 1600000 in
theorem bs_any (A : Option Addr) (c : Nat) (l : List S83) (t0 t1 t2 t3 : Int) (w : World) (hr : Kd.C k83 w A l.length l) (hs : Srt l) (hln : l.length < 4398046511104) :
    Calls Try.prog 58 #[.slice A l.length c, .agg #[.int .i64 t0, .int .i64 t1, .int .i64 t2, .int .i64 t3], .func (.func 38) #[] #[]] w fun e w' => e = .returned (.tuple #[.int .i64 (posP l ⟨t0, t1, t2, t3⟩), .bool (hasP l ⟨t0, t1, t2, t3⟩)]) ∧ Below w.heap.size w w' := by
  have hu83 := Try.underlying83
  have HR := Aside0.mk hr
  have HS := Aside0.mk hs
  have HL := Aside0.mk hln
  have HBR := Aside0.mk (Below.refl w.heap.size w)
  clear hr hs hln
  go_enter Try.func58, Try.ntmps58
  go_wp2_with (first
    | ((with_reducible refine gate_dst (N := 4) rfl ?_); refine box_event ?hg (N := 4) ?hd (cs := #[.int .i64 t0, .int .i64 t1, .int .i64 t2, .int .i64 t3]) (t := 83) ?hr ?_; (case hd => rfl); (case hg => rfl); (case hr => first | (go_simp; done) | (go_simp; rfl)); intro b4 hb4_ w2 hbox hb; have BK := Aside0.mk hbox; have HB := Aside0.mk (below_step HBR.out hb); clear hbox hb hb4_))
  go_loopg [9, 10] l.length (fun gg s9 s10 wr => ∃ (i j : Nat), i ≤ j ∧ j ≤ l.length ∧ j - i ≤ gg ∧ s9 = .int .i64 i ∧ s10 = .int .i64 j ∧ Aside0 (∀ m (hm : m < l.length), m < i → cmpP l[m] ⟨t0, t1, t2, t3⟩ < 0) ∧ Aside0 (∀ m (hm : m < l.length), j ≤ m → ¬ cmpP l[m] ⟨t0, t1, t2, t3⟩ < 0) ∧ Aside0 (wr.heap[b4]? = some (.cells #[.int .i64 t0, .int .i64 t1, .int .i64 t2, .int .i64 t3] 83 (0, 0))) ∧ Aside0 (Below w.heap.size w wr))
  case atStart => exact ⟨0, l.length, by omega, by omega, by omega, rfl, rfl, ⟨fun m hm h => by omega⟩, ⟨fun m hm h => by omega⟩, BK, HB⟩
  case round =>
    clear BK HB
    obtain ⟨i, j, hij, hjl, hgg, rfl, rfl, HI, HJ, BK, HB⟩ := hrel
    by_cases hlt : i < j
    · obtain ⟨h, hh⟩ : ∃ h : Nat, (i + j) / 2 = h := ⟨_, rfl⟩
      have h1 : i ≤ h := by omega
      have h2 : h < j := by omega
      have hln := HL.out
      go_upto_region 5 with fail
      have hh' : ((i : Int) + (j : Int)) / 2 = (h : Int) := by omega
      rw [hh']
      obtain ⟨ad, rfl, e1, e2, e3, e4⟩ := at_T83 (Kd.C_below HR.out HB.out) (h : Int) (by omega) (by omega)
      have hx := rd_at83 l h (by omega)
      rw [hx] at e1 e2 e3 e4
      rw [Int.toNat_natCast] at e1 e2 e3 e4
      have HI' := Aside0.mk (fun hc : cmpP l[h] ⟨t0, t1, t2, t3⟩ < 0 => fun m (hm : m < l.length) (hmh : m < h + 1) => (by
        by_cases e : m = h
        · subst e; exact hc
        · exact HS.out.mono ⟨t0, t1, t2, t3⟩ (by omega) (show m < h by omega) hc : cmpP l[m] ⟨t0, t1, t2, t3⟩ < 0))
      have HJ' := Aside0.mk (fun hc : ¬ cmpP l[h] ⟨t0, t1, t2, t3⟩ < 0 => fun m (hm : m < l.length) (hmh : h ≤ m) => (by
        by_cases e : m = h
        · subst e; exact hc
        · exact fun h' => hc (HS.out.mono ⟨t0, t1, t2, t3⟩ hm (show h < m by omega) h') : ¬ cmpP l[m] ⟨t0, t1, t2, t3⟩ < 0))
      obtain ⟨x, hxx⟩ : ∃ x, x = l[h] := ⟨_, rfl⟩
      rw [← hxx] at e1 e2 e3 e4 HI' HJ'
      clear hx hxx
      have hcall := Aside0.mk (fun W => order_any x ⟨t0, t1, t2, t3⟩ W)
      obtain ⟨r, hr⟩ : ∃ r, cmpP x ⟨t0, t1, t2, t3⟩ = r := ⟨_, rfl⟩
      rw [hr] at hcall HI' HJ'
      obtain ⟨x0, x1, x2, x3⟩ := x
      simp only at e1 e2 e3 e4 hcall
      clear hr
      have HB2 := Aside0.mk (below_drew1 HB.out)
      have BK2 := Aside0.mk (blk_drew BK.out)
      clear HB BK
      refine start_ (n := 8) (S := fun w' => w'.cell? (ad.add (h * 4)) = some (.int .i64 x0) ∧ w'.cell? ⟨(ad.add (h * 4)).block, (ad.add (h * 4)).off + 1, none⟩ = some (.int .i64 x1) ∧ w'.cell? ⟨(ad.add (h * 4)).block, (ad.add (h * 4)).off + 2, none⟩ = some (.int .i64 x2) ∧ w'.cell? ⟨(ad.add (h * 4)).block, (ad.add (h * 4)).off + 3, none⟩ = some (.int .i64 x3) ∧ w'.cell? ⟨b4, 0, none⟩ = some (.int .i64 t0) ∧ w'.cell? ⟨b4, 1, none⟩ = some (.int .i64 t1) ∧ w'.cell? ⟨b4, 2, none⟩ = some (.int .i64 t2) ∧ w'.cell? ⟨b4, 3, none⟩ = some (.int .i64 t3)) (ds := []) #[false, false, false, false, false, false, false, false] (by kernel_rfl) rfl rfl ⟨e1, e2, e3, e4, (blk_cell BK2.out 0).trans rfl, (blk_cell BK2.out 1).trans rfl, (blk_cell BK2.out 2).trans rfl, (blk_cell BK2.out 3).trans rfl⟩ (fun hHeld => ?_)
      refine with_tabW bsf.tab5 bsf.bits5 (fun HT_ HW_ => ?_)
      clear e1 e2 e3 e4
      generalize wr.drew = w3 at HB2 BK2 hHeld ⊢
      have q1 : (0 ≤ (h : Int)) = True := eq_true (by omega)
      have q2 : ((h : Int) < (l.length : Int)) = True := eq_true (by omega)
      refine pz_ 0 24 HT_ ?_
      refine pz_ 1 25 HT_ ?_
      refine pz_ 2 26 HT_ ?_
      refine pz_ 3 27 HT_ ?_
      refine tz_ 4 28 HT_ HW_ hHeld ?_
      refine tz_ 5 29 HT_ HW_ hHeld ?_
      refine oz_ 6 30 HT_ (fun K hK => ?_)
      refine goesV_ Try.func38 (by kernel_rfl) rfl #[.agg #[.int .i64 x0, .int .i64 x1, .int .i64 x2, .int .i64 x3], .agg #[.int .i64 t0, .int .i64 t1, .int .i64 t2, .int .i64 t3]] (by rfl) rfl rfl rfl ma_ ?_
      refine (hcall.out _).mono ?_
      rintro e w4 ⟨rfl, hb4⟩
      refine ⟨_, rfl, ?_⟩
      have BK4 := Aside0.mk (blk_below BK2.out hb4)
      have HB4 := Aside0.mk (below_step HB2.out hb4)
      have hHeld4 := Aside0.mk (⟨hh_ hb4 hHeld.1, hh_ hb4 hHeld.2.1, hh_ hb4 hHeld.2.2.1, hh_ hb4 hHeld.2.2.2.1, hh_ hb4 hHeld.2.2.2.2.1, hh_ hb4 hHeld.2.2.2.2.2.1, hh_ hb4 hHeld.2.2.2.2.2.2.1, hh_ hb4 hHeld.2.2.2.2.2.2.2⟩ : _ ∧ _ ∧ _ ∧ _ ∧ _ ∧ _ ∧ _ ∧ _)
      clear hb4 HB2 BK2 hHeld
      refine hK.out _ _ hHeld4.out (fun hHeld => ?_)
      clear hK K hHeld4
      refine norm_ (a' := ?_) ?_ ?_
      rotate_left
      · show Act.put _ (some 30) _ = _
        simp only [Act.put, List.setIfInBounds_toArray, List.set_cons_zero, List.set_cons_succ, i64_w, i32_w]
        rfl
      refine pz_ 7 31 HT_ ?_
      refine done_ (done_of HT_.out (by kernel_rfl)) ?_
      clear hHeld
      by_cases hr : r < 0
      · have hd : decide (r < 0) = true := decide_eq_true hr
        rw [hd]
        have HI2 := Aside0.mk (HI'.out hr)
        clear hr HI' HJ'
        go_wp2
        go_roundg (j - (h + 1))
        case measure => omega
        case rel => exact ⟨h + 1, j, by omega, by omega, by omega, by go_num, rfl, HI2, HJ, BK4, HB4⟩
      · have hd : decide (r < 0) = false := decide_eq_false hr
        rw [hd]
        have HJ2 := Aside0.mk (HJ'.out hr)
        clear hr HI' HJ'
        go_wp2
        go_roundg (h - i)
        case measure => omega
        case rel => exact ⟨i, h, by omega, by omega, by omega, rfl, rfl, HI, HJ2, BK4, HB4⟩
    · have hji : j = i := by omega
      subst hji
      have hpos := posP_eq l ⟨t0, t1, t2, t3⟩ j hjl (fun m hm => HI.out m (by omega) hm) (fun h => HJ.out j h (Nat.le_refl _))
      by_cases hjn : j < l.length
      · obtain ⟨ad, rfl, e1, e2, e3, e4⟩ := at_T83 (Kd.C_below HR.out HB.out) (j : Int) (by omega) (by omega)
        have hx := rd_at83 l j (by omega)
        rw [hx] at e1 e2 e3 e4
        rw [Int.toNat_natCast] at e1 e2 e3 e4
        have hhas : hasP l ⟨t0, t1, t2, t3⟩ = (cmpP l[j] ⟨t0, t1, t2, t3⟩ == 0) := by
          unfold hasP; rw [hpos, List.getElem?_eq_getElem hjn]
        have HPOS := Aside0.mk hpos
        clear hpos
        obtain ⟨x, hxx⟩ : ∃ x, x = l[j] := ⟨_, rfl⟩
        rw [← hxx] at e1 e2 e3 e4 hhas
        clear hx hxx
        have hcall := Aside0.mk (fun W => order_any x ⟨t0, t1, t2, t3⟩ W)
        obtain ⟨r, hr⟩ : ∃ r, cmpP x ⟨t0, t1, t2, t3⟩ = r := ⟨_, rfl⟩
        rw [hr] at hcall hhas
        have HHAS := Aside0.mk hhas
        obtain ⟨x0, x1, x2, x3⟩ := x
        simp only at e1 e2 e3 e4 hcall
        clear hr hhas
        have hln := HL.out
        go_upto_region 8 with fail
        have HB2 := Aside0.mk (below_drew1 HB.out)
        have BK2 := Aside0.mk (blk_drew BK.out)
        clear HB BK
        have q0 : ((j : Int) < (l.length : Int)) = True := eq_true (by omega)
        have q1 : (0 ≤ (j : Int)) = True := eq_true (by omega)
        refine start_ (n := 16) (S := fun w' => w'.cell? (ad.add (j * 4)) = some (.int .i64 x0) ∧ w'.cell? ⟨(ad.add (j * 4)).block, (ad.add (j * 4)).off + 1, none⟩ = some (.int .i64 x1) ∧ w'.cell? ⟨(ad.add (j * 4)).block, (ad.add (j * 4)).off + 2, none⟩ = some (.int .i64 x2) ∧ w'.cell? ⟨(ad.add (j * 4)).block, (ad.add (j * 4)).off + 3, none⟩ = some (.int .i64 x3) ∧ w'.cell? ⟨b4, 0, none⟩ = some (.int .i64 t0) ∧ w'.cell? ⟨b4, 1, none⟩ = some (.int .i64 t1) ∧ w'.cell? ⟨b4, 2, none⟩ = some (.int .i64 t2) ∧ w'.cell? ⟨b4, 3, none⟩ = some (.int .i64 t3)) (ds := []) #[false, false, false, false, false, false, false, false, false, false, false, false, false, false, false, false] (by kernel_rfl) rfl rfl ⟨e1, e2, e3, e4, (blk_cell BK2.out 0).trans rfl, (blk_cell BK2.out 1).trans rfl, (blk_cell BK2.out 2).trans rfl, (blk_cell BK2.out 3).trans rfl⟩ (fun hHeld => ?_)
        refine with_tabW bsf.tab8 bsf.bits8 (fun HT_ HW_ => ?_)
        clear e1 e2 e3 e4
        generalize wr.drew = w3 at HB2 BK2 hHeld ⊢
        refine pz_ 0 35 HT_ ?_
        refine pz_ 1 36 HT_ ?_
        refine pz_ 2 37 HT_ ?_
        refine pz_ 3 38 HT_ ?_
        refine pz_ 4 39 HT_ ?_
        refine pz_ 5 40 HT_ ?_
        refine pz_ 6 41 HT_ ?_
        refine pz_ 7 42 HT_ ?_
        refine pz_ 8 43 HT_ ?_
        refine tz_ 9 44 HT_ HW_ hHeld ?_
        refine tz_ 10 45 HT_ HW_ hHeld ?_
        refine oz_ 11 46 HT_ (fun K hK => ?_)
        refine goesV_ Try.func38 (by kernel_rfl) rfl #[.agg #[.int .i64 x0, .int .i64 x1, .int .i64 x2, .int .i64 x3], .agg #[.int .i64 t0, .int .i64 t1, .int .i64 t2, .int .i64 t3]] (by rfl) rfl rfl rfl ma_ ?_
        refine (hcall.out _).mono ?_
        rintro e w4 ⟨rfl, hb4⟩
        refine ⟨_, rfl, ?_⟩
        have HB4 := Aside0.mk (below_step HB2.out hb4)
        have hHeld4 := Aside0.mk (⟨hh_ hb4 hHeld.1, hh_ hb4 hHeld.2.1, hh_ hb4 hHeld.2.2.1, hh_ hb4 hHeld.2.2.2.1, hh_ hb4 hHeld.2.2.2.2.1, hh_ hb4 hHeld.2.2.2.2.2.1, hh_ hb4 hHeld.2.2.2.2.2.2.1, hh_ hb4 hHeld.2.2.2.2.2.2.2⟩ : _ ∧ _ ∧ _ ∧ _ ∧ _ ∧ _ ∧ _ ∧ _)
        clear hb4 HB2 BK2 hHeld
        refine hK.out _ _ hHeld4.out (fun hHeld => ?_)
        clear hK K hHeld4
        refine norm_ (a' := ?_) ?_ ?_
        rotate_left
        · show Act.put _ (some 46) _ = _
          simp only [Act.put, List.setIfInBounds_toArray, List.set_cons_zero, List.set_cons_succ, i64_w, i32_w]
          rfl
        refine pz_ 12 47 HT_ ?_
        refine pz_ 13 48 HT_ ?_
        refine pz_ 14 6 HT_ ?_
        refine pz_ 15 7 HT_ ?_
        refine done_ (done_of HT_.out (by kernel_rfl)) ?_
        go_wp2
        go_ret2
        exact ⟨by rw [HHAS.out, HPOS.out]; rfl, HB4.out⟩
      · have hhas : hasP l ⟨t0, t1, t2, t3⟩ = false := by
          unfold hasP; rw [hpos, List.getElem?_eq_none (by omega)]
        have HPOS := Aside0.mk hpos
        have HHAS := Aside0.mk hhas
        clear hhas hpos
        have hln := HL.out
        have hjl' : j = l.length := by omega
        subst hjl'
        go_upto_region 8 with fail
        have HB2 := Aside0.mk (below_drew1 HB.out)
        clear HB BK
        refine start_ (n := 16) (S := fun w' => True) (ds := []) #[false, false, false, false, false, false, false, false, false, false, false, false, false, false, false, false] (by kernel_rfl) rfl rfl trivial (fun hHeld => ?_)
        refine with_tabW bsf.tab8 bsf.bits8 (fun HT_ HW_ => ?_)
        generalize wr.drew = w3 at HB2 hHeld ⊢
        have q0 : ((l.length : Int) < (l.length : Int)) = False := eq_false (by omega)
        refine pz_ 0 35 HT_ ?_
        refine pz_ 1 36 HT_ ?_
        refine pz_ 2 37 HT_ ?_
        refine pz_ 3 38 HT_ ?_
        refine pz_ 4 39 HT_ ?_
        refine pn_ 5 40 HT_ ?_
        refine pn_ 6 41 HT_ ?_
        refine pn_ 7 42 HT_ ?_
        refine pn_ 8 43 HT_ ?_
        refine pn_ 9 44 HT_ ?_
        refine pn_ 10 45 HT_ ?_
        refine pn_ 11 46 HT_ ?_
        refine pn_ 12 47 HT_ ?_
        refine pz_ 13 48 HT_ ?_
        refine pz_ 14 6 HT_ ?_
        refine pz_ 15 7 HT_ ?_
        refine done_ (done_of HT_.out (by kernel_rfl)) ?_
        go_wp2
        go_ret2
        exact ⟨by rw [HHAS.out, HPOS.out]; rfl, HB2.out⟩
end Go.Proofs.Ytdnkbmjlcdddcaa.Q
