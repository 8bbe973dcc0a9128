import Derived.Test.YthhhfoogfnnooaaQ0
import Derived.Laws.Externs
import Derived.Lib.Hide
import Derived.Shelf.GgClosure.Gives
namespace Go.Proofs.Ythhhfoogfnnooaa.Q
open Go.RowKit Go.Proofs.YthhhfoogfnnooaaW.PrintWords Go.Proofs.YthhhfoogfnnooaaW.PrintLast Go.Proofs.YthhhfoogfnnooaaW.PrintMore
attribute [local go_sem] max2_int min2_int max_two min_two max_three min_three max_four min_four
set_option linter.unusedVariables false
set_option linter.unusedSimpArgs false

def hiOf (T : Int) : Int := T / 18446744073709551616 % 18446744073709551616
def loOf (T : Int) : Int := T % 18446744073709551616

theorem add64_at (x y c : Int) (hx : 0 ≤ x) (hy : 0 ≤ y) (hc0 : 0 ≤ c) (hc : c ≤ 1) (w : World) :
    (callFunc 36 #[.int .u64 x, .int .u64 y, .int .u64 c]).run Try.prog w =
      .ok (.value (.tuple #[.int .u64 ((x + y + c) % 18446744073709551616), .int .u64 ((x + y + c) / 18446744073709551616)])) w := by
  rw [run_callFunc_extern Try.func36 (by kernel_rfl) (by kernel_rfl) (by kernel_rfl) (e := add64Entry) (by kernel_rfl), run_add64 x y c hx hy hc0 hc]
  rfl

theorem u64w_range (v : Int) : 0 ≤ IntKind.u64.wrap v ∧ IntKind.u64.wrap v ≤ 18446744073709551615 := by
  have : IntKind.u64.wrap v = v % 18446744073709551616 := rfl
  omega
theorem add_lo (T v : Int) : (loOf T + IntKind.u64.wrap v + 0) % 18446744073709551616 = loOf (T + v) := by
  have : IntKind.u64.wrap v = v % 18446744073709551616 := rfl
  unfold loOf; omega
theorem add_hi (T v : Int) (h1 : -9223372036854775808 ≤ v) (h2 : v ≤ 9223372036854775807) : (hiOf T + IntKind.u64.wrap (v / 9223372036854775808) + (loOf T + IntKind.u64.wrap v + 0) / 18446744073709551616) % 18446744073709551616 = hiOf (T + v) := by
  have e1 : IntKind.u64.wrap v = v % 18446744073709551616 := rfl
  have e2 : IntKind.u64.wrap (v / 9223372036854775808) = (v / 9223372036854775808) % 18446744073709551616 := rfl
  unfold loOf hiOf; omega

set_option maxHeartbeats 800000 in
theorem add_any (T v : Int) (w : World) (h1 : -9223372036854775808 ≤ v) (h2 : v ≤ 9223372036854775807) :
    Calls Try.prog 25 #[.agg #[.int .u64 (hiOf T), .int .u64 (loOf T)], .int .i64 v] w fun e w' => e = .returned (.agg #[.int .u64 (hiOf (T + v)), .int .u64 (loOf (T + v))]) ∧ Below w.heap.size w w' := by
  have hu56 := Try.underlying56
  have r1 := u64w_range v
  have r2 := u64w_range (v / 9223372036854775808)
  have hlo : 0 ≤ loOf T ∧ loOf T ≤ 18446744073709551615 := by unfold loOf; omega
  have hhi : 0 ≤ hiOf T := by unfold hiOf; omega
  have A1 := add64_at (loOf T) (IntKind.u64.wrap v) 0 hlo.1 r1.1 (by omega) (by omega)
  have A2 := add64_at (hiOf T) (IntKind.u64.wrap (v / 9223372036854775808)) ((loOf T + IntKind.u64.wrap v + 0) / 18446744073709551616) hhi r2.1 (by omega) (by omega)
  have e1 := add_lo T v
  have e2 := add_hi T v h1 h2
  generalize (loOf T + IntKind.u64.wrap v + 0) / 18446744073709551616 = c1 at A1 A2 e2
  generalize (hiOf T + IntKind.u64.wrap (v / 9223372036854775808) + c1) / 18446744073709551616 = c2 at A2
  rw [e1] at A1
  rw [e2] at A2
  generalize hi2 : hiOf (T + v) = H2 at *
  generalize lo2 : loOf (T + v) = L2 at *
  have HB := Lib.hid hi2
  have HC := Lib.hid lo2
  clear hi2 lo2 e1 e2 r1 r2 hlo hhi
  go_enter Try.func25, Try.ntmps25
  go_wp2
  refine bodyPost_ret (v := .agg #[.int .u64 H2, .int .u64 L2]) (by simp [results, Try.results25, go_sem]) rfl ⟨rfl, ((Below.refl _ _).alloc (Nat.le_refl _) _).alloc (by simp) _⟩

def inR (x : Int) : Bool := decide (-9223372036854775808 ≤ x ∧ x ≤ 9223372036854775807)
theorem inR_iff (x : Int) : inR x = true ↔ -9223372036854775808 ≤ x ∧ x ≤ 9223372036854775807 := by unfold inR; simp

/-- What a function handed to fold does. -/
def Adds (g : Nat) (φ : Int → Int) : Prop := ∀ (T x : Int) (w : World), inR x = true →
  Calls Try.prog g #[.agg #[.int .u64 (hiOf T), .int .u64 (loOf T)], .int .i64 x] w fun e w' => e = .returned (.agg #[.int .u64 (hiOf (T + φ x)), .int .u64 (loOf (T + φ x))]) ∧ Below w.heap.size w w'

theorem add_adds : Adds 25 id := fun T x w h => by
  have := (inR_iff x).1 h
  exact add_any T x w this.1 this.2

def sumBy (φ : Int → Int) (l : List Int) : Int := (l.map φ).sum
theorem sumBy_snoc (φ : Int → Int) (l : List Int) (k : Nat) (h : k < l.length) : sumBy φ (l.take (k + 1)) = sumBy φ (l.take k) + φ (rd l k) := by
  have : rd l k = l[k] := by simp [rd, List.getD_eq_getElem?_getD, List.getElem?_eq_getElem h]
  rw [this]
  unfold sumBy
  rw [List.take_succ_eq_append_getElem h, List.map_append, List.sum_append]
  simp

set_option maxHeartbeats 1600000 in
theorem fold_any (g : Nat) (φ : Int → Int) (hg : Adds g φ) (eg : ∀ args w, (callFunc g args).run Try.prog w = .ok (.enter g args) w) (T : Int) (A : Option Addr) (c : Nat) (l : List Int) (w : World) (hr : (Kd.int .i64).C w A l.length l) (hR : l.all inR = true) :
    Calls Try.prog 26 #[.slice A l.length c, .agg #[.int .u64 (hiOf T), .int .u64 (loOf T)], .func (.func g) #[] #[]] w fun e w' => e = .returned (.agg #[.int .u64 (hiOf (T + sumBy φ l)), .int .u64 (loOf (T + sumBy φ l))]) ∧ Below w.heap.size w w' := by
  have hu56 := Try.underlying56
  have hmax : l.length ≤ 9223372036854775807 := hr.2.1
  have HR := Aside0.mk hr
  have HA := Aside0.mk hR
  clear hr hR
  go_enter Try.func26, Try.ntmps26
  go_wp2
  go_loopg [11] l.length (fun gg s11 wr => ∃ k : Nat, k ≤ l.length ∧ l.length - k ≤ gg ∧ s11 = .int .i64 k ∧ Aside0 (Below w.heap.size w wr) ∧ Aside0 (wr.heap[w.heap.size]? = some (.cells #[.int .u64 (hiOf (T + sumBy φ (l.take k))), .int .u64 (loOf (T + sumBy φ (l.take k)))] 56 (0, 0))) ∧ Aside0 (wr.heap[w.heap.size + 1]? = some (.cells #[.int .u64 0, .int .u64 0] 56 (0, 0))))
  case atStart =>
    exact ⟨0, Nat.zero_le _, by omega, rfl, ⟨((Below.refl _ _).alloc (Nat.le_refl _) _).alloc (by simp) _⟩, ⟨by simpa [sumBy] using blk_alloc (blk_new w _) _⟩, ⟨by simpa using blk_new (w.alloc (Obj.cells #[Value.int IntKind.u64 (hiOf T), Value.int IntKind.u64 (loOf T)] 56)) _⟩⟩
  case round =>
    obtain ⟨k, hk, hgk, rfl, HB, H0, H1⟩ := hrel
    have c0 : wr.cell? ⟨w.heap.size, 0, none⟩ = some (.int .u64 (hiOf (T + sumBy φ (l.take k)))) := blk_cell H0.out 0
    have c1 : wr.cell? ⟨w.heap.size, 1, none⟩ = some (.int .u64 (loOf (T + sumBy φ (l.take k)))) := blk_cell H0.out 1
    by_cases hlt : k < l.length
    · obtain ⟨ad, rfl, hc⟩ := Kd.at_int HR.out k (by omega) (by omega)
      have hc2 := HB.out.cell (World.block_lt_of_cell? w _ hc)
      have hx : inR (rd l k) = true := by
        have : rd l k = l[k] := by simp [rd, List.getD_eq_getElem?_getD, List.getElem?_eq_getElem hlt]
        rw [this]; exact List.all_eq_true.1 HA.out _ (List.getElem_mem hlt)
      have hcell : wr.cell? (ad.add k) = some (.int .i64 (rd l k)) := by simpa using hc2.trans hc
      clear hc hc2
      have HS := Aside0.mk (sumBy_snoc φ l k hlt)
      generalize rd l k = x at hx hcell HS
      have HX := Aside0.mk hx
      clear hx
      go_wp2_with (go_at_fn g; refine (hg _ x _ HX.out).mono ?_; rintro e w1 ⟨rfl, hb1⟩; have b0 := blk_below H0.out hb1; have d0 : w1.cell? ⟨w.heap.size, 0, none⟩ = some (.int .u64 (hiOf (T + sumBy φ (l.take k)))) := blk_cell b0 0; have d1 : w1.cell? ⟨w.heap.size, 1, none⟩ = some (.int .u64 (loOf (T + sumBy φ (l.take k)))) := blk_cell b0 1; have f0 := blk_frozen b0 0; have f1 := blk_frozen b0 1; have B0 := Aside0.mk b0; have HB1 := Aside0.mk hb1; clear b0 hb1)
      go_roundg (l.length - (k + 1))
      case measure => omega
      case rel =>
        have b := blk_set (blk_set B0.out 0 (.int .u64 (hiOf (T + sumBy φ (l.take k) + φ x)))) 1 (.int .u64 (loOf (T + sumBy φ (l.take k) + φ x)))
        have b1 := blk_far (blk_far (blk_below H1.out HB1.out) (p := ⟨w.heap.size, 0, none⟩) (by simp) (.int .u64 (hiOf (T + sumBy φ (l.take k) + φ x)))) (p := ⟨w.heap.size, 1, none⟩) (by simp) (.int .u64 (loOf (T + sumBy φ (l.take k) + φ x)))
        exact ⟨k + 1, by omega, by omega, by go_num, ⟨((below_then HB.out HB.out.size HB1.out).setCell (by simp) _).setCell (by simp) _⟩, ⟨by rw [HS.out, ← Int.add_assoc]; exact b⟩, ⟨b1⟩⟩
    · have : k = l.length := by omega
      subst this
      have d0 : wr.cell? ⟨w.heap.size + 1, 0, none⟩ = some (.int .u64 0) := blk_cell H1.out 0
      have d1 : wr.cell? ⟨w.heap.size + 1, 1, none⟩ = some (.int .u64 0) := blk_cell H1.out 1
      have f0 := blk_frozen H1.out 0
      have f1 := blk_frozen H1.out 1
      go_wp2
      have b := blk_set (blk_set H1.out 0 (.int .u64 (hiOf (T + sumBy φ l)))) 1 (.int .u64 (loOf (T + sumBy φ l)))
      refine bodyPost_ret (results_cell_row rfl _ _ (w.heap.size + 1) 56 _ (0, 0) _ rfl b hu56 rfl (by kernel_rfl)) rfl ?_
      exact ⟨rfl, (HB.out.setCell (by simp) _).setCell (by simp) _⟩

/-- A new block of two cells, behind a call. -/
theorem two_behind {W w1 : World} {g : Nat} {a b : Value} {t : TypeId} (hW : W.heap[g]? = some (.cells #[a, b] t (0, 0))) (hb : Below W.heap.size W w1) :
    w1.heap[g]? = some (.cells #[a, b] t (0, 0)) ∧ w1.cell? ⟨g, 0, none⟩ = some a ∧ w1.cell? ⟨g, 1, none⟩ = some b ∧ w1.frozen? ⟨g, 0, none⟩ = false ∧ w1.frozen? ⟨g, 1, none⟩ = false :=
  have b := blk_below hW hb
  ⟨b, blk_cell b 0, blk_cell b 1, blk_frozen b 0, blk_frozen b 1⟩
theorem two_new (w : World) (o : Obj) (o' : Obj) : ((w.alloc o).alloc o').heap[w.heap.size + 1]? = some o' := by simpa using blk_new (w.alloc o) o'

set_option maxHeartbeats 800000 in
theorem low_adds : Adds 27 (fun x => mn x 0) := by
  intro T x w h
  have h' := (inR_iff x).1 h
  have hm : -9223372036854775808 ≤ mn x 0 ∧ mn x 0 ≤ 9223372036854775807 := by unfold mn; split <;> omega
  have hu56 := Try.underlying56
  obtain ⟨m, hm'⟩ : ∃ j : Int, (if (0 : Int) < x then 0 else x) = j := ⟨_, rfl⟩
  have e : mn x 0 = m := hm'
  simp only [e] at hm ⊢
  clear e h' h
  go_enter Try.func27, Try.ntmps27
  go_wp2_with (go_at_call 25; refine (add_any T m _ hm.1 hm.2).mono ?_; rintro e w1 ⟨rfl, hb1⟩; obtain ⟨hb0, c0, c1, f0, f1⟩ := two_behind (two_new w _ _) hb1; have B0 := Aside0.mk hb0; have HB1 := Aside0.mk hb1; clear hb0 hb1)
  refine bodyPost_ret (results_cell_row rfl _ _ (w.heap.size + 1) 56 _ (0, 0) _ rfl (blk_set (blk_set B0.out 0 (.int .u64 (hiOf (T + m)))) 1 (.int .u64 (loOf (T + m)))) hu56 rfl (by kernel_rfl)) rfl ?_
  exact ⟨rfl, ((below_then (((Below.refl _ _).alloc (Nat.le_refl _) _).alloc (by simp) _) (by simp; omega) HB1.out).setCell (by simp) _).setCell (by simp) _⟩

set_option maxHeartbeats 800000 in
theorem high_adds : Adds 29 (fun x => mx x 0) := by
  intro T x w h
  have h' := (inR_iff x).1 h
  have hm : -9223372036854775808 ≤ mx x 0 ∧ mx x 0 ≤ 9223372036854775807 := by unfold mx; split <;> omega
  have hu56 := Try.underlying56
  obtain ⟨m, hm'⟩ : ∃ j : Int, (if x < (0 : Int) then 0 else x) = j := ⟨_, rfl⟩
  have e : mx x 0 = m := hm'
  simp only [e] at hm ⊢
  clear e h' h
  go_enter Try.func29, Try.ntmps29
  go_wp2_with (go_at_call 25; refine (add_any T m _ hm.1 hm.2).mono ?_; rintro e w1 ⟨rfl, hb1⟩; obtain ⟨hb0, c0, c1, f0, f1⟩ := two_behind (two_new w _ _) hb1; have B0 := Aside0.mk hb0; have HB1 := Aside0.mk hb1; clear hb0 hb1)
  refine bodyPost_ret (results_cell_row rfl _ _ (w.heap.size + 1) 56 _ (0, 0) _ rfl (blk_set (blk_set B0.out 0 (.int .u64 (hiOf (T + m)))) 1 (.int .u64 (loOf (T + m)))) hu56 rfl (by kernel_rfl)) rfl ?_
  exact ⟨rfl, ((below_then (((Below.refl _ _).alloc (Nat.le_refl _) _).alloc (by simp) _) (by simp; omega) HB1.out).setCell (by simp) _).setCell (by simp) _⟩

/-- What a sum tells. -/
def toldOf (T : Int) : Int × Int := if inR T then (T, 0) else (0, 12)

theorem told_fits (T : Int) (h : inR T = true) : (hiOf T == IntKind.u64.wrap (wrap64 (loOf T) / 9223372036854775808)) = true ∧ wrap64 (loOf T) = T := by
  have h' := (inR_iff T).1 h
  have e2 : ∀ v, IntKind.u64.wrap v = v % 18446744073709551616 := fun _ => rfl
  have : wrap64 (loOf T) = T := by unfold wrap64 loOf; omega
  refine ⟨?_, this⟩
  rw [this, beq_iff_eq, e2]
  unfold hiOf; omega
theorem told_over (T : Int) (h : inR T = false) (h1 : -170141183460469231731687303715884105728 ≤ T) (h2 : T < 170141183460469231731687303715884105728) : (hiOf T == IntKind.u64.wrap (wrap64 (loOf T) / 9223372036854775808)) = false := by
  have h' : ¬ (-9223372036854775808 ≤ T ∧ T ≤ 9223372036854775807) := fun hh => by rw [(inR_iff T).2 hh] at h; cases h
  have e2 : ∀ v, IntKind.u64.wrap v = v % 18446744073709551616 := fun _ => rfl
  rw [beq_eq_false_iff_ne, e2]
  intro he
  have hn : wrap64 (loOf T) = (loOf T + 9223372036854775808) % 18446744073709551616 - 9223372036854775808 := by unfold wrap64; omega
  generalize wrap64 (loOf T) = n at he hn
  have hq : (0 ≤ n ∧ n / 9223372036854775808 = 0) ∨ (n < 0 ∧ n / 9223372036854775808 = -1) := by omega
  have hl : loOf T = T % 18446744073709551616 := rfl
  have hh : hiOf T = T / 18446744073709551616 % 18446744073709551616 := rfl
  rcases hq with ⟨h3, h4⟩ | ⟨h3, h4⟩ <;> rw [h4] at he <;> omega

set_option maxHeartbeats 800000 in
theorem told_any (T : Int) (w : World) (h1 : -170141183460469231731687303715884105728 ≤ T) (h2 : T < 170141183460469231731687303715884105728) :
    Calls Try.prog 28 #[.agg #[.int .u64 (hiOf T), .int .u64 (loOf T)]] w fun e w' => e = .returned (.tuple #[.int .i64 (toldOf T).1, .int .i64 (toldOf T).2]) ∧ Below w.heap.size w w' := by
  have hu56 := Try.underlying56
  unfold toldOf
  cases h : inR T with
  | true =>
    obtain ⟨t1, t2⟩ := told_fits T h
    have t3 : (hiOf T != IntKind.u64.wrap (wrap64 (loOf T) / 9223372036854775808)) = false := by simpa using t1
    have HV := Lib.hid t2
    clear h1 h2 h t2
    go_enter Try.func28, Try.ntmps28
    go_wp2
    go_ret2
    exact ⟨by rw [HV.out]; rfl, (Below.refl _ _).alloc (Nat.le_refl _) _⟩
  | false =>
    have t1 := told_over T h h1 h2
    have t3 : (hiOf T != IntKind.u64.wrap (wrap64 (loOf T) / 9223372036854775808)) = true := by simpa using t1
    clear h1 h2 h
    go_enter Try.func28, Try.ntmps28
    go_wp2
    go_ret2
    exact ⟨rfl, (Below.refl _ _).alloc (Nat.le_refl _) _⟩

theorem sum_bound (φ : Int → Int) (hφ : ∀ x, inR x = true → -9223372036854775808 ≤ φ x ∧ φ x ≤ 9223372036854775807) : ∀ l : List Int, l.all inR = true → -9223372036854775808 * (l.length : Int) ≤ sumBy φ l ∧ sumBy φ l ≤ 9223372036854775807 * (l.length : Int)
  | [], _ => by simp [sumBy]
  | x :: l, h => by
    simp only [List.all_cons, Bool.and_eq_true] at h
    have h1 := hφ x h.1
    have h2 := sum_bound φ hφ l h.2
    have e : sumBy φ (x :: l) = φ x + sumBy φ l := by simp [sumBy]
    rw [e, List.length_cons]
    omega

def span_Sum.f (l0 : List Int) : Option (Int × Int) := if l0.all inR = true then (if 4096 < l0.length then some (0, 13) else some (toldOf (sumBy id l0))) else none

set_option maxHeartbeats 1600000 in
theorem span_Sum.calls (A0 : Option Addr) (c0 : Nat) (l0 : List Int) (r1 : Int) (r2 : Int) (w : World) (hr0 : Kd.C (Kd.int .i64) w A0 l0.length l0) (hc0 : l0.length ≤ c0) (h : span_Sum.f l0 = some (r1, r2)) :
    Calls Try.prog 15 #[.slice A0 l0.length c0] w fun e w' => e = .returned (.tuple #[.int .i64 r1, .int .i64 r2]) ∧ Below w.heap.size w w' := by
  unfold span_Sum.f at h
  by_cases hR : l0.all inR = true
  case neg => rw [if_neg hR] at h; cases h
  rw [if_pos hR] at h
  have HR := Aside0.mk hr0
  have HA := Aside0.mk hR
  have hmax : l0.length ≤ 9223372036854775807 := hr0.2.1
  have hu56 := Try.underlying56
  clear hr0 hR
  by_cases h4 : 4096 < l0.length
  · rw [if_pos h4] at h
    simp only [Option.some.injEq, Prod.mk.injEq] at h
    obtain ⟨rfl, rfl⟩ := h
    have h5 : (4096 : Int) < (l0.length : Int) := by omega
    go_enter Try.func15, Try.ntmps15
    go_wp2
    go_ret2
    exact ⟨rfl, Below.refl _ _⟩
  · rw [if_neg h4] at h
    have h := Option.some.inj h
    have h5 : ¬ (4096 : Int) < (l0.length : Int) := by omega
    have hb := sum_bound id (fun x h => (inR_iff x).1 h) l0 HA.out
    obtain ⟨t1, t2⟩ : -170141183460469231731687303715884105728 ≤ sumBy id l0 ∧ sumBy id l0 < 170141183460469231731687303715884105728 := by omega
    have e25 := enters_of Try.func25 (by kernel_rfl) rfl
    have F := fun W h => fold_any 25 id add_adds e25 0 A0 c0 l0 W h HA.out
    have z1 : hiOf 0 = 0 := by decide
    have z2 : loOf 0 = 0 := by decide
    simp only [z1, z2, Int.zero_add] at F
    have G := fun W => told_any (sumBy id l0) W t1 t2
    rw [h] at G
    have HF := Aside0.mk F
    have HG := Aside0.mk G
    clear F G hb t1 t2 h
    go_enter Try.func15, Try.ntmps15
    go_wp2_with (first | (go_at_call 26; refine (HF.out _ HR.out).mono ?_; rintro e w1 ⟨rfl, hb1⟩; have HB1 := Aside0.mk hb1; clear hb1) | (go_at_call 28; refine (HG.out _).mono ?_; rintro e w2 ⟨rfl, hb2⟩; have HB2 := Aside0.mk hb2; clear hb2))
    go_ret2
    exact ⟨rfl, below_then HB1.out HB1.out.size HB2.out⟩

def span_Reach.f (a0 : Int) (l1 : List Int) : Option (Int × Int × Int) :=
  if inR a0 = true ∧ l1.all inR = true then
    if 4096 < l1.length then some (0, 0, 13)
    else if inR (a0 + sumBy (fun x => mn x 0) l1) = true ∧ inR (a0 + sumBy (fun x => mx x 0) l1) = true then some (a0 + sumBy (fun x => mn x 0) l1, a0 + sumBy (fun x => mx x 0) l1, 0) else some (0, 0, 12)
  else none

theorem mn_range (x : Int) (h : inR x = true) : -9223372036854775808 ≤ mn x 0 ∧ mn x 0 ≤ 9223372036854775807 := by
  have := (inR_iff x).1 h
  unfold mn; split <;> omega
theorem mx_range (x : Int) (h : inR x = true) : -9223372036854775808 ≤ mx x 0 ∧ mx x 0 ≤ 9223372036854775807 := by
  have := (inR_iff x).1 h
  unfold mx; split <;> omega

/-- The middle of Reach, whatever is told of the two sums. -/
theorem reach_walk (a0 : Int) (A1 : Option Addr) (c1 : Nat) (l1 : List Int) (w : World) (H1 L1 H2 L2 x y e f : Int) (r1 r2 r3 : Int) (h5 : ¬ (4096 : Int) < (l1.length : Int))
    (HF : Aside0 (∀ W, Calls Try.prog 25 #[.agg #[.int .u64 0, .int .u64 0], .int .i64 a0] W fun e w' => e = .returned (.agg #[.int .u64 (hiOf a0), .int .u64 (loOf a0)]) ∧ Below W.heap.size W w'))
    (HL : Aside0 (∀ W, Below w.heap.size w W → Calls Try.prog 26 #[.slice A1 l1.length c1, .agg #[.int .u64 (hiOf a0), .int .u64 (loOf a0)], .func (.func 27) #[] #[]] W fun e w' => e = .returned (.agg #[.int .u64 H1, .int .u64 L1]) ∧ Below W.heap.size W w'))
    (HL2 : Aside0 (∀ W, Calls Try.prog 28 #[.agg #[.int .u64 H1, .int .u64 L1]] W fun g w' => g = .returned (.tuple #[.int .i64 x, .int .i64 e]) ∧ Below W.heap.size W w'))
    (HH : Aside0 (∀ W, Below w.heap.size w W → Calls Try.prog 26 #[.slice A1 l1.length c1, .agg #[.int .u64 (hiOf a0), .int .u64 (loOf a0)], .func (.func 29) #[] #[]] W fun e w' => e = .returned (.agg #[.int .u64 H2, .int .u64 L2]) ∧ Below W.heap.size W w'))
    (HH2 : Aside0 (∀ W, Calls Try.prog 28 #[.agg #[.int .u64 H2, .int .u64 L2]] W fun g w' => g = .returned (.tuple #[.int .i64 y, .int .i64 f]) ∧ Below W.heap.size W w'))
    (hres : ((e != 0 || f != 0) = true ∧ r1 = 0 ∧ r2 = 0 ∧ r3 = 12) ∨ (e = 0 ∧ f = 0 ∧ r1 = x ∧ r2 = y ∧ r3 = 0)) :
    Calls Try.prog 14 #[.int .i64 a0, .slice A1 l1.length c1] w fun e w' => e = .returned (.tuple #[.agg #[.int .i64 r1, .int .i64 r2], .int .i64 r3]) ∧ Below w.heap.size w w' := by
  have HS := Aside0.mk hres
  clear hres
  have hu56 := Try.underlying56
  have hu28 := Try.underlying28
  go_enter Try.func14, Try.ntmps14
  go_wp2_with fail
  refine (HF.out _).mono ?_
  rintro _ w1 ⟨rfl, hb1⟩
  have B1 := Aside0.mk (blk_below (blk_new w _) hb1)
  have K1 := Aside0.mk (below_then ((Below.refl _ w).alloc (Nat.le_refl _) _) (by simp) hb1)
  clear hb1
  go_wp2_with fail
  refine (HL.out _ (by exact K1.out.alloc K1.out.size _)).mono ?_
  rintro _ w2 ⟨rfl, hb2⟩
  have B2 := Aside0.mk (blk_below (blk_alloc B1.out _) hb2)
  have T2 := Aside0.mk (two_behind (blk_new w1 _) hb2).1
  have K2 := Aside0.mk (below_then (K1.out.alloc K1.out.size _) (by have := K1.out.size; simp; omega) hb2)
  clear hb2 HL
  go_wp2_with fail
  refine (HL2.out _).mono ?_
  rintro _ w3 ⟨rfl, hb3⟩
  have B3 := Aside0.mk (blk_below B2.out hb3)
  obtain ⟨t3, c0, c1', f0, f1⟩ := two_behind T2.out hb3
  have T3 := Aside0.mk t3
  have K3 := Aside0.mk (below_then K2.out K2.out.size hb3)
  clear hb3 HL2 t3
  go_wp2_with fail
  refine (HH.out _ (by exact K3.out)).mono ?_
  rintro _ w4 ⟨rfl, hb4⟩
  have B4 := Aside0.mk (blk_below B3.out hb4)
  have K4 := Aside0.mk (below_then K3.out K3.out.size hb4)
  clear hb4 HH
  go_wp2_with fail
  refine (HH2.out _).mono ?_
  rintro _ w5 ⟨rfl, hb5⟩
  obtain ⟨t5, d0, d1', g0, g1⟩ := two_behind B4.out hb5
  have B5 := Aside0.mk t5
  have K5 := Aside0.mk (below_then K4.out K4.out.size hb5)
  clear hb5 HH2 t5
  obtain ⟨h, rfl, rfl, rfl⟩ | ⟨rfl, rfl, rfl, rfl, rfl⟩ := HS.out
  · by_cases he : e = 0
    · subst he
      have hf : (f != 0) = true := by simpa using h
      clear h HS
      go_wp2
      refine bodyPost_ret (results_ct rfl _ _ w.heap.size 28 _ (0, 0) _ rfl (blk_set (blk_set B5.out 0 (.int .i64 0)) 1 (.int .i64 0)) hu28 rfl (by kernel_rfl)) rfl ?_
      exact ⟨rfl, (K5.out.setCell (by simp) _).setCell (by simp) _⟩
    · have he' : (e != 0) = true := by simpa using he
      clear h HS
      go_wp2
      refine bodyPost_ret (results_ct rfl _ _ w.heap.size 28 _ (0, 0) _ rfl (blk_set (blk_set B5.out 0 (.int .i64 0)) 1 (.int .i64 0)) hu28 rfl (by kernel_rfl)) rfl ?_
      exact ⟨rfl, (K5.out.setCell (by simp) _).setCell (by simp) _⟩
  · clear HS
    go_wp2
    refine bodyPost_ret (results_ct rfl _ _ w.heap.size 28 _ (0, 0) _ rfl (blk_set (blk_set B5.out 0 (.int .i64 r1)) 1 (.int .i64 r2)) hu28 rfl (by kernel_rfl)) rfl ?_
    exact ⟨rfl, (K5.out.setCell (by simp) _).setCell (by simp) _⟩

theorem span_Reach.calls (a0 : Int) (A1 : Option Addr) (c1 : Nat) (l1 : List Int) (r1 : Int) (r2 : Int) (r3 : Int) (w : World) (hr1 : Kd.C (Kd.int .i64) w A1 l1.length l1) (hc1 : l1.length ≤ c1) (h : span_Reach.f a0 l1 = some (r1, r2, r3)) :
    Calls Try.prog 14 #[.int .i64 a0, .slice A1 l1.length c1] w fun e w' => e = .returned (.tuple #[.agg #[.int .i64 r1, .int .i64 r2], .int .i64 r3]) ∧ Below w.heap.size w w' := by
  unfold span_Reach.f at h
  by_cases hR : inR a0 = true ∧ l1.all inR = true
  case neg => rw [if_neg hR] at h; cases h
  rw [if_pos hR] at h
  obtain ⟨ha, hl⟩ := hR
  have hmax : l1.length ≤ 9223372036854775807 := hr1.2.1
  by_cases h4 : 4096 < l1.length
  · rw [if_pos h4] at h
    simp only [Option.some.injEq, Prod.mk.injEq] at h
    obtain ⟨rfl, rfl, rfl⟩ := h
    have h5 : (4096 : Int) < (l1.length : Int) := by omega
    have HR := Aside0.mk hr1
    clear hr1
    have hu28 := Try.underlying28
    go_enter Try.func14, Try.ntmps14
    go_wp2
    refine bodyPost_ret (results_ct rfl _ _ w.heap.size 28 _ (0, 0) _ rfl (blk_new w _) hu28 rfl (by kernel_rfl)) rfl ?_
    exact ⟨rfl, (Below.refl _ _).alloc (Nat.le_refl _) _⟩
  · rw [if_neg h4] at h
    have ha' := (inR_iff a0).1 ha
    have bl := sum_bound (fun x => mn x 0) mn_range l1 hl
    have bh := sum_bound (fun x => mx x 0) mx_range l1 hl
    have z1 : hiOf 0 = 0 := by decide
    have z2 : loOf 0 = 0 := by decide
    have F := fun W => add_any 0 a0 W ha'.1 ha'.2
    simp only [z1, z2, Int.zero_add] at F
    have e27 := enters_of Try.func27 (by kernel_rfl) rfl
    have e29 := enters_of Try.func29 (by kernel_rfl) rfl
    refine reach_walk a0 A1 c1 l1 w _ _ _ _ (toldOf (a0 + sumBy (fun x => mn x 0) l1)).1 (toldOf (a0 + sumBy (fun x => mx x 0) l1)).1 (toldOf (a0 + sumBy (fun x => mn x 0) l1)).2 (toldOf (a0 + sumBy (fun x => mx x 0) l1)).2 r1 r2 r3 (by omega) ⟨F⟩
      ⟨fun W hW => fold_any 27 _ low_adds e27 a0 A1 c1 l1 W (Kd.C_below hr1 hW) hl⟩ ⟨fun W => told_any _ W (by omega) (by omega)⟩
      ⟨fun W hW => fold_any 29 _ high_adds e29 a0 A1 c1 l1 W (Kd.C_below hr1 hW) hl⟩ ⟨fun W => told_any _ W (by omega) (by omega)⟩ ?_
    generalize a0 + sumBy (fun x => mn x 0) l1 = S at h ⊢
    generalize a0 + sumBy (fun x => mx x 0) l1 = U at h ⊢
    unfold toldOf
    cases hS : inR S <;> cases hU : inR U <;> simp [hS, hU] at h ⊢ <;> omega
end Go.Proofs.Ythhhfoogfnnooaa.Q
