/- slices.BinarySearchFunc at flat images that are in order, by their blocks. No condition. -/
import Derived.Test.YthcikbbglpdjhaaFI
namespace Go.Proofs.Ythcikbbglpdjhaa.Q
open Go.RowKit Go.Proofs.YthcikbbglpdjhaaW Go.Proofs.YthcikbbglpdjhaaW.PrintWords Go.Proofs.YthcikbbglpdjhaaW.PrintLast Go.Proofs.YthcikbbglpdjhaaW.PrintMore
set_option linter.unusedVariables false
set_option linter.unusedSimpArgs false
section
variable {P : Program} {ops : Array Oper} {Q : Exit → Act → World → Prop}
/-- A call of a function value, as a step of a drawn region. -/
theorem goesV_ {oi : Oper} {N : Option Tmp} {a : Act} {w : World} {K : Act → World → Prop} {f : FuncId} {fn : Func} {p : Operand} {ys : Array Operand} {ts : Array TypeId} {lb : Array Value} (hf : P.funcs[f]? = some fn) (hname : (fn.name == "runtime.NumGoroutine") = false) (hb : fn.body.isSome = true) (args : Array Value)
    (hw : Region.wanted oi (yielded ops a.tmps) = true) (hN : oi.dst = N) (hop : oi.op = .call { callee := .value p, args := ys, argTypes := ts }) (hp : a.eval p = .func (.func f) #[] lb) (hargs : ys.map a.eval ++ lb = args)
    (h : Calls P f args w fun e w' => ∃ v, e = .returned v ∧ K (a.put N v) w') : if Region.wanted oi (yielded ops a.tmps) = true then Oper.wp P oi a w K Q else K (a.put N undef) w := by
  refine call_ f args hw hN ?_ h
  have he := enters_ hf hname hb args w
  unfold execOp
  simp [hop, hp, resolve, Deferred.ofValue, invoke, hargs, he]
end
def cmpI (a b : Int) : Int := if a < b then -1 else if a > b then 1 else 0
theorem cmpI_lt (a b : Int) : cmpI a b < 0 ↔ a < b := by
  unfold cmpI
  (repeat' split) <;> omega
theorem cmpI_eq (a b : Int) : cmpI a b = 0 ↔ a = b := by
  unfold cmpI
  (repeat' split) <;> omega
theorem compare_ok (x y : Int) (w : World) : Calls Try.prog 35 #[.int .i64 x, .int .i64 y] w fun e w' => e = .returned (.int .i64 (cmpI x y)) ∧ Below w.heap.size w w' := by
  have hnan := Aside0.mk (fun (a : Int) (W : World) => (show Calls Try.prog 53 #[.int .i64 a] W fun e w' => e = .returned (.bool false) ∧ w' = W from by
    go_enter Try.func53, Try.ntmps53
    go_wp2
    go_ret
    exact ⟨rfl, rfl⟩))
  unfold cmpI
  by_cases h1 : x < y
  · rw [if_pos h1]
    have q1 : (x < y) = True := eq_true h1
    clear h1
    go_enter Try.func35, Try.ntmps35
    go_wp2_with (go_at_call 53; refine (hnan.out _ _).mono ?_; rintro e w2 ⟨rfl, rfl⟩)
    go_ret
    exact ⟨rfl, Below.refl _ _⟩
  · rw [if_neg h1]
    have q1 : (x < y) = False := eq_false h1
    by_cases h2 : x > y
    · rw [if_pos h2]
      have q2 : (y < x) = True := eq_true h2
      clear h1 h2
      go_enter Try.func35, Try.ntmps35
      go_wp2_with (go_at_call 53; refine (hnan.out _ _).mono ?_; rintro e w2 ⟨rfl, rfl⟩)
      go_ret
      exact ⟨rfl, Below.refl _ _⟩
    · rw [if_neg h2]
      have q2 : (y < x) = False := eq_false h2
      clear h1 h2
      go_enter Try.func35, Try.ntmps35
      go_wp2_with (go_at_call 53; refine (hnan.out _ _).mono ?_; rintro e w2 ⟨rfl, rfl⟩)
      go_ret
      exact ⟨rfl, Below.refl _ _⟩
theorem cmp_c (a b : Int) (A B : Option Addr) (n c m d : Nat) (w : World) : Calls Try.prog 34 #[.agg #[.int .i64 a, .slice A n c], .agg #[.int .i64 b, .slice B m d]] w fun e w' => e = .returned (.int .i64 (cmpI a b)) ∧ Below w.heap.size w w' := by
  have hb1 : Below w.heap.size w (w.alloc (.cells #[.int .i64 a, .slice A n c] 44)) := (Below.refl _ _).alloc (Nat.le_refl _) _
  have hx1 := blk_new w (.cells #[.int .i64 a, .slice A n c] 44)
  obtain ⟨w1, hw1⟩ : ∃ w1, w.alloc (.cells #[.int .i64 a, .slice A n c] 44) = w1 := ⟨_, rfl⟩
  rw [hw1] at hb1 hx1
  have hb2 : Below w1.heap.size w1 (w1.alloc (.cells #[.int .i64 b, .slice B m d] 44)) := (Below.refl _ _).alloc (Nat.le_refl _) _
  have hx2 := blk_new w1 (.cells #[.int .i64 b, .slice B m d] 44)
  have hx1' := blk_below hx1 hb2
  have hbb := hb1.trans (hb2.mono hb1.size)
  have hu := Try.underlying44
  have HC := Aside0.mk (fun W => compare_ok a b W)
  have c1 := (blk_cell hx1' 0).trans rfl
  have c2 := (blk_cell hx2 0).trans rfl
  have HB := Aside0.mk hbb
  have hs1 : w1.heap.size = w.heap.size + 1 := by rw [← hw1]; simp
  clear hb1 hx1 hb2 hx2 hx1' hbb
  go_enter Try.func34, Try.ntmps34
  go_upto_region 1 with (fail)
  try rw [hw1]
  rw [hs1] at c2
  clear hs1 hw1
  generalize w1.alloc (.cells #[.int .i64 b, .slice B m d] 44) = w2 at *
  go_wp2_with (go_at_call 35; refine (HC.out _).mono ?_; rintro e w3 ⟨rfl, hb3⟩; have HB3 := Aside0.mk (below_step HB.out hb3); clear hb3)
  go_ret
  exact ⟨rfl, HB3.out⟩
/-- Their blocks ascend. -/
def SrtB (l : List GI) : Prop := l.Pairwise (fun a b => a.f0 < b.f0)
def posB (l : List GI) (t : Int) : Nat := (l.takeWhile (fun x => decide (x.f0 < t))).length
def hasB (l : List GI) (t : Int) : Bool := match l[posB l t]? with | some x => cmpI x.f0 t == 0 | none => false
theorem posB_eq : ∀ (l : List GI) (t : Int) (i : Nat) (hi : i ≤ l.length), (∀ m (hm : m < i), cmpI (l[m]'(by omega)).f0 t < 0) → (∀ h : i < l.length, ¬ cmpI (l[i]).f0 t < 0) → posB l t = i
  | [], t, i, hi, _, _ => by simp at hi; subst hi; rfl
  | x :: l, t, 0, hi, _, h2 => by
    have := h2 (by simp)
    simp only [List.getElem_cons_zero, cmpI_lt] at this
    unfold posB
    rw [List.takeWhile_cons, decide_eq_false this]; rfl
  | x :: l, t, i + 1, hi, h1, h2 => by
    have h0 := h1 0 (by omega)
    simp only [List.getElem_cons_zero, cmpI_lt] at h0
    have ih := posB_eq l t i (by simpa using hi) (fun m hm => by have := h1 (m + 1) (by omega); simpa using this) (fun h => by have := h2 (by simpa using h); simpa using this)
    unfold posB at ih ⊢
    rw [List.takeWhile_cons, decide_eq_true h0, if_pos rfl, List.length_cons, ih]
theorem SrtB.mono {l : List GI} (h : SrtB l) (t : Int) {i j : Nat} (hj : j < l.length) (hij : i < j) (ht : cmpI (l[j]).f0 t < 0) : cmpI (l[i]'(by omega)).f0 t < 0 := by
  rw [cmpI_lt] at *
  have := List.pairwise_iff_getElem.1 h i j (by omega) hj hij
  omega
def bsf.T5 : Bool × List (List Nat × List Nat) := (true, [([], []), ([], []), ([], []), ([1, 2], [1, 2]), ([3], [3]), ([], []), ([0, 4, 5], [0, 4, 5]), ([6], [6])])
def bsf.B5 : List Nat := [0, 0, 0, 6, 14, 0, 63, 127]
theorem bsf.tab5 : rtab .any (opsOf Try.f33 5) = bsf.T5 := by kernel_rfl
theorem bsf.bits5 : waitsOk bsf.T5.2 bsf.B5 = true := by kernel_rfl
def bsf.T8 : Bool × List (List Nat × List Nat) := (true, [([], []), ([], []), ([], []), ([1, 2], [1, 2]), ([3], [3]), ([4], [4]), ([4], [4]), ([4], [4]), ([6, 7, 4], [4, 6, 7]), ([8, 4], [4, 8]), ([4], [4]), ([5, 9, 10, 4, 4], [4, 5, 9, 10]), ([11, 4], [4, 11]), ([4, 12], [4, 12]), ([0, 11, 0], [0]), ([13, 14, 0, 1, 2, 3, 4, 5, 6, 7, 8, 9, 10, 11, 12, 13, 14], [13])])
def bsf.B8 : List Nat := [0, 0, 0, 6, 14, 30, 30, 30, 222, 478, 30, 2046, 4094, 8190, 4095, 32767]
theorem bsf.tab8 : rtab .any (opsOf Try.f33 8) = bsf.T8 := by kernel_rfl
theorem bsf.bits8 : waitsOk bsf.T8.2 bsf.B8 = true := by kernel_rfl
set_option maxRecDepth 100000 in
set_option maxHeartbeats 1600000 in
theorem bs_gi (A : Option Addr) (c : Nat) (l : List GI) (t0 : Int) (TA : Option Addr) (tn tc : Nat) (w : World) (hr : Kd.C kGI w A l.length l) (hs : SrtB l) (hln : l.length < 4398046511104) :
    Calls Try.prog 33 #[.slice A l.length c, .agg #[.int .i64 t0, .slice TA tn tc], .func (.func 34) #[] #[]] w fun e w' => e = .returned (.tuple #[.int .i64 (posB l t0), .bool (hasB l t0)]) ∧ Below w.heap.size w w' := by
  have hu44 := Try.underlying44
  have HR := Aside0.mk hr
  have HS := Aside0.mk hs
  have HL := Aside0.mk hln
  have HBR := Aside0.mk (Below.refl w.heap.size w)
  clear hr hs hln
  go_enter Try.func33, Try.ntmps33
  go_wp2_with (first
    | ((with_reducible refine gate_dst (N := 4) rfl ?_); refine box_event ?hg (N := 4) ?hd (cs := #[.int .i64 t0, .slice TA tn tc]) (t := 44) ?hr ?_; (case hd => rfl); (case hg => rfl); (case hr => first | (go_simp; done) | (go_simp; rfl)); intro b4 hb4_ w2 hbox hb; have BK := Aside0.mk hbox; have HB := Aside0.mk (below_step HBR.out hb); clear hbox hb hb4_))
  go_loopg [9, 10] l.length (fun gg s9 s10 wr => ∃ (i j : Nat), i ≤ j ∧ j ≤ l.length ∧ j - i ≤ gg ∧ s9 = .int .i64 i ∧ s10 = .int .i64 j ∧ Aside0 (∀ m (hm : m < l.length), m < i → cmpI l[m].f0 t0 < 0) ∧ Aside0 (∀ m (hm : m < l.length), j ≤ m → ¬ cmpI l[m].f0 t0 < 0) ∧ Aside0 (wr.heap[b4]? = some (.cells #[.int .i64 t0, .slice TA tn tc] 44 (0, 0))) ∧ Aside0 (Below w.heap.size w wr))
  case atStart => exact ⟨0, l.length, by omega, by omega, by omega, rfl, rfl, ⟨fun m hm h => by omega⟩, ⟨fun m hm h => by omega⟩, BK, HB⟩
  case round =>
    clear BK HB
    obtain ⟨i, j, hij, hjl, hgg, rfl, rfl, HI, HJ, BK, HB⟩ := hrel
    by_cases hlt : i < j
    · obtain ⟨h, hh⟩ : ∃ h : Nat, (i + j) / 2 = h := ⟨_, rfl⟩
      have h1 : i ≤ h := by omega
      have h2 : h < j := by omega
      have hln := HL.out
      go_upto_region 5 with fail
      have hh' : ((i : Int) + (j : Int)) / 2 = (h : Int) := by omega
      rw [hh']
      obtain ⟨ad, rfl, e1, e2⟩ := at_GI (Kd.C_below HR.out HB.out) h (by omega)
      have HI' := Aside0.mk (fun hc : cmpI l[h].f0 t0 < 0 => fun m (hm : m < l.length) (hmh : m < h + 1) => (by
        by_cases e : m = h
        · subst e; exact hc
        · exact SrtB.mono HS.out t0 (by omega) (show m < h by omega) hc : cmpI l[m].f0 t0 < 0))
      have HJ' := Aside0.mk (fun hc : ¬ cmpI l[h].f0 t0 < 0 => fun m (hm : m < l.length) (hmh : h ≤ m) => (by
        by_cases e : m = h
        · subst e; exact hc
        · exact fun h' => hc (SrtB.mono HS.out t0 hm (show h < m by omega) h') : ¬ cmpI l[m].f0 t0 < 0))
      obtain ⟨x, hxx⟩ : ∃ x, x = l[h] := ⟨_, rfl⟩
      rw [← hxx] at e1 e2 HI' HJ'
      clear hxx
      have hcall := Aside0.mk (fun W => cmp_c x.f0 t0 x.A TA x.d.length x.c tn tc W)
      obtain ⟨r, hr⟩ : ∃ r, cmpI x.f0 t0 = r := ⟨_, rfl⟩
      rw [hr] at hcall HI' HJ'
      obtain ⟨x0, xA, xc, xd⟩ := x
      simp only at e1 e2 hcall
      clear hr
      have HB2 := Aside0.mk (below_drew1 HB.out)
      have BK2 := Aside0.mk (blk_drew BK.out)
      clear HB BK
      refine start_ (n := 8) (S := fun w' => w'.cell? (ad.add (h * 2)) = some (.int .i64 x0) ∧ w'.cell? ⟨(ad.add (h * 2)).block, (ad.add (h * 2)).off + 1, none⟩ = some (.slice xA xd.length xc) ∧ w'.cell? ⟨b4, 0, none⟩ = some (.int .i64 t0) ∧ w'.cell? ⟨b4, 1, none⟩ = some (.slice TA tn tc)) (ds := []) #[false, false, false, false, false, false, false, false] (by kernel_rfl) rfl rfl ⟨e1, e2, (blk_cell BK2.out 0).trans rfl, (blk_cell BK2.out 1).trans rfl⟩ (fun hHeld => ?_)
      refine with_tabW bsf.tab5 bsf.bits5 (fun HT_ HW_ => ?_)
      clear e1 e2
      generalize wr.drew = w3 at HB2 BK2 hHeld ⊢
      have q1 : (0 ≤ (h : Int)) = True := eq_true (by omega)
      have q2 : ((h : Int) < (l.length : Int)) = True := eq_true (by omega)
      refine pz_ 0 24 HT_ ?_
      refine pz_ 1 25 HT_ ?_
      refine pz_ 2 26 HT_ ?_
      refine pz_ 3 27 HT_ ?_
      refine tz_ 4 28 HT_ HW_ hHeld ?_
      refine tz_ 5 29 HT_ HW_ hHeld ?_
      refine oz_ 6 30 HT_ (fun K hK => ?_)
      refine goesV_ Try.func34 (by kernel_rfl) rfl #[.agg #[.int .i64 x0, .slice xA xd.length xc], .agg #[.int .i64 t0, .slice TA tn tc]] (by rfl) rfl rfl rfl ma_ ?_
      refine (hcall.out _).mono ?_
      rintro e w4 ⟨rfl, hb4⟩
      refine ⟨_, rfl, ?_⟩
      have BK4 := Aside0.mk (blk_below BK2.out hb4)
      have HB4 := Aside0.mk (below_step HB2.out hb4)
      have hHeld4 := Aside0.mk (⟨hh_ hb4 hHeld.1, hh_ hb4 hHeld.2.1, hh_ hb4 hHeld.2.2.1, hh_ hb4 hHeld.2.2.2⟩ : _ ∧ _ ∧ _ ∧ _)
      clear hb4 HB2 BK2 hHeld
      refine hK.out _ _ hHeld4.out (fun hHeld => ?_)
      clear hK K hHeld4
      refine norm_ (a' := ?_) ?_ ?_
      rotate_left
      · show Act.put _ (some 30) _ = _
        simp only [Act.put, List.setIfInBounds_toArray, List.set_cons_zero, List.set_cons_succ, i64_w, i32_w]
        rfl
      refine pz_ 7 31 HT_ ?_
      refine done_ (done_of HT_.out (by kernel_rfl)) ?_
      clear hHeld
      by_cases hr : r < 0
      · have hd : decide (r < 0) = true := decide_eq_true hr
        rw [hd]
        have HI2 := Aside0.mk (HI'.out hr)
        clear hr HI' HJ'
        go_wp2
        go_roundg (j - (h + 1))
        case measure => omega
        case rel => exact ⟨h + 1, j, by omega, by omega, by omega, by go_num, rfl, HI2, HJ, BK4, HB4⟩
      · have hd : decide (r < 0) = false := decide_eq_false hr
        rw [hd]
        have HJ2 := Aside0.mk (HJ'.out hr)
        clear hr HI' HJ'
        go_wp2
        go_roundg (h - i)
        case measure => omega
        case rel => exact ⟨i, h, by omega, by omega, by omega, rfl, rfl, HI, HJ2, BK4, HB4⟩
    · have hji : j = i := by omega
      subst hji
      have hpos := posB_eq l t0 j hjl (fun m hm => HI.out m (by omega) hm) (fun h => HJ.out j h (Nat.le_refl _))
      by_cases hjn : j < l.length
      · obtain ⟨ad, rfl, e1, e2⟩ := at_GI (Kd.C_below HR.out HB.out) j (by omega)
        have hhas : hasB l t0 = (cmpI l[j].f0 t0 == 0) := by
          unfold hasB; rw [hpos, List.getElem?_eq_getElem hjn]
        have HPOS := Aside0.mk hpos
        clear hpos
        obtain ⟨x, hxx⟩ : ∃ x, x = l[j] := ⟨_, rfl⟩
        rw [← hxx] at e1 e2 hhas
        clear hxx
        have hcall := Aside0.mk (fun W => cmp_c x.f0 t0 x.A TA x.d.length x.c tn tc W)
        obtain ⟨r, hr⟩ : ∃ r, cmpI x.f0 t0 = r := ⟨_, rfl⟩
        rw [hr] at hcall hhas
        have HHAS := Aside0.mk hhas
        obtain ⟨x0, xA, xc, xd⟩ := x
        simp only at e1 e2 hcall
        clear hr hhas
        have hln := HL.out
        go_upto_region 8 with fail
        have HB2 := Aside0.mk (below_drew1 HB.out)
        have BK2 := Aside0.mk (blk_drew BK.out)
        clear HB BK
        have q0 : ((j : Int) < (l.length : Int)) = True := eq_true (by omega)
        have q1 : (0 ≤ (j : Int)) = True := eq_true (by omega)
        refine start_ (n := 16) (S := fun w' => w'.cell? (ad.add (j * 2)) = some (.int .i64 x0) ∧ w'.cell? ⟨(ad.add (j * 2)).block, (ad.add (j * 2)).off + 1, none⟩ = some (.slice xA xd.length xc) ∧ w'.cell? ⟨b4, 0, none⟩ = some (.int .i64 t0) ∧ w'.cell? ⟨b4, 1, none⟩ = some (.slice TA tn tc)) (ds := []) #[false, false, false, false, false, false, false, false, false, false, false, false, false, false, false, false] (by kernel_rfl) rfl rfl ⟨e1, e2, (blk_cell BK2.out 0).trans rfl, (blk_cell BK2.out 1).trans rfl⟩ (fun hHeld => ?_)
        refine with_tabW bsf.tab8 bsf.bits8 (fun HT_ HW_ => ?_)
        clear e1 e2
        generalize wr.drew = w3 at HB2 BK2 hHeld ⊢
        refine pz_ 0 35 HT_ ?_
        refine pz_ 1 36 HT_ ?_
        refine pz_ 2 37 HT_ ?_
        refine pz_ 3 38 HT_ ?_
        refine pz_ 4 39 HT_ ?_
        refine pz_ 5 40 HT_ ?_
        refine pz_ 6 41 HT_ ?_
        refine pz_ 7 42 HT_ ?_
        refine pz_ 8 43 HT_ ?_
        refine tz_ 9 44 HT_ HW_ hHeld ?_
        refine tz_ 10 45 HT_ HW_ hHeld ?_
        refine oz_ 11 46 HT_ (fun K hK => ?_)
        refine goesV_ Try.func34 (by kernel_rfl) rfl #[.agg #[.int .i64 x0, .slice xA xd.length xc], .agg #[.int .i64 t0, .slice TA tn tc]] (by rfl) rfl rfl rfl ma_ ?_
        refine (hcall.out _).mono ?_
        rintro e w4 ⟨rfl, hb4⟩
        refine ⟨_, rfl, ?_⟩
        have HB4 := Aside0.mk (below_step HB2.out hb4)
        have hHeld4 := Aside0.mk (⟨hh_ hb4 hHeld.1, hh_ hb4 hHeld.2.1, hh_ hb4 hHeld.2.2.1, hh_ hb4 hHeld.2.2.2⟩ : _ ∧ _ ∧ _ ∧ _)
        clear hb4 HB2 BK2 hHeld
        refine hK.out _ _ hHeld4.out (fun hHeld => ?_)
        clear hK K hHeld4
        refine norm_ (a' := ?_) ?_ ?_
        rotate_left
        · show Act.put _ (some 46) _ = _
          simp only [Act.put, List.setIfInBounds_toArray, List.set_cons_zero, List.set_cons_succ, i64_w, i32_w]
          rfl
        refine pz_ 12 47 HT_ ?_
        refine pz_ 13 48 HT_ ?_
        refine pz_ 14 6 HT_ ?_
        refine pz_ 15 7 HT_ ?_
        refine done_ (done_of HT_.out (by kernel_rfl)) ?_
        go_wp2
        go_ret2
        exact ⟨by rw [HHAS.out, HPOS.out]; rfl, HB4.out⟩
      · have hhas : hasB l t0 = false := by
          unfold hasB; rw [hpos, List.getElem?_eq_none (by omega)]
        have HPOS := Aside0.mk hpos
        have HHAS := Aside0.mk hhas
        clear hhas hpos
        have hln := HL.out
        have hjl' : j = l.length := by omega
        subst hjl'
        go_upto_region 8 with fail
        have HB2 := Aside0.mk (below_drew1 HB.out)
        clear HB BK
        refine start_ (n := 16) (S := fun w' => True) (ds := []) #[false, false, false, false, false, false, false, false, false, false, false, false, false, false, false, false] (by kernel_rfl) rfl rfl trivial (fun hHeld => ?_)
        refine with_tabW bsf.tab8 bsf.bits8 (fun HT_ HW_ => ?_)
        generalize wr.drew = w3 at HB2 hHeld ⊢
        have q0 : ((l.length : Int) < (l.length : Int)) = False := eq_false (by omega)
        refine pz_ 0 35 HT_ ?_
        refine pz_ 1 36 HT_ ?_
        refine pz_ 2 37 HT_ ?_
        refine pz_ 3 38 HT_ ?_
        refine pz_ 4 39 HT_ ?_
        refine pn_ 5 40 HT_ ?_
        refine pn_ 6 41 HT_ ?_
        refine pn_ 7 42 HT_ ?_
        refine pn_ 8 43 HT_ ?_
        refine pn_ 9 44 HT_ ?_
        refine pn_ 10 45 HT_ ?_
        refine pn_ 11 46 HT_ ?_
        refine pn_ 12 47 HT_ ?_
        refine pz_ 13 48 HT_ ?_
        refine pz_ 14 6 HT_ ?_
        refine pz_ 15 7 HT_ ?_
        refine done_ (done_of HT_.out (by kernel_rfl)) ?_
        go_wp2
        go_ret2
        exact ⟨by rw [HHAS.out, HPOS.out]; rfl, HB2.out⟩
end Go.Proofs.Ythcikbbglpdjhaa.Q
