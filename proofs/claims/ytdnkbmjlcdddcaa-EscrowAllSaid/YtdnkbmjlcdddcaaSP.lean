/- Sums of 128 digits of two: add, fold, told, Sum. No condition beyond the numbers' ranges. -/
import Derived.Test.YtdnkbmjlcdddcaaQ0
import Derived.Laws.Externs
import Derived.Lib.Hide
import Derived.Shelf.GgClosure.Gives
namespace Go.Proofs.Ytdnkbmjlcdddcaa.Q
open Go.RowKit Go.Proofs.YtdnkbmjlcdddcaaW.PrintWords Go.Proofs.YtdnkbmjlcdddcaaW.PrintLast Go.Proofs.YtdnkbmjlcdddcaaW.PrintMore
attribute [local go_sem] max2_int min2_int max_two min_two max_three min_three max_four min_four
set_option linter.unusedVariables false
set_option linter.unusedSimpArgs false

def hiOf (T : Int) : Int := T / 18446744073709551616 % 18446744073709551616
def loOf (T : Int) : Int := T % 18446744073709551616

theorem add64_at (x y c : Int) (hx : 0 ≤ x) (hy : 0 ≤ y) (hc0 : 0 ≤ c) (hc : c ≤ 1) (w : World) :
    (callFunc 81 #[.int .u64 x, .int .u64 y, .int .u64 c]).run Try.prog w =
      .ok (.value (.tuple #[.int .u64 ((x + y + c) % 18446744073709551616), .int .u64 ((x + y + c) / 18446744073709551616)])) w := by
  rw [run_callFunc_extern Try.func81 (by kernel_rfl) (by kernel_rfl) (by kernel_rfl) (e := add64Entry) (by kernel_rfl), run_add64 x y c hx hy hc0 hc]
  rfl

theorem u64w_range (v : Int) : 0 ≤ IntKind.u64.wrap v ∧ IntKind.u64.wrap v ≤ 18446744073709551615 := by
  have : IntKind.u64.wrap v = v % 18446744073709551616 := rfl
  omega
theorem add_lo (T v : Int) : (loOf T + IntKind.u64.wrap v + 0) % 18446744073709551616 = loOf (T + v) := by
  have : IntKind.u64.wrap v = v % 18446744073709551616 := rfl
  unfold loOf; omega
theorem add_hi (T v : Int) (h1 : -9223372036854775808 ≤ v) (h2 : v ≤ 9223372036854775807) : (hiOf T + IntKind.u64.wrap (v / 9223372036854775808) + (loOf T + IntKind.u64.wrap v + 0) / 18446744073709551616) % 18446744073709551616 = hiOf (T + v) := by
  have e1 : IntKind.u64.wrap v = v % 18446744073709551616 := rfl
  have e2 : IntKind.u64.wrap (v / 9223372036854775808) = (v / 9223372036854775808) % 18446744073709551616 := rfl
  unfold loOf hiOf; omega

set_option maxRecDepth 100000 in
set_option maxHeartbeats 800000 in
theorem add_any (T v : Int) (w : World) (h1 : -9223372036854775808 ≤ v) (h2 : v ≤ 9223372036854775807) :
    Calls Try.prog 67 #[.agg #[.int .u64 (hiOf T), .int .u64 (loOf T)], .int .i64 v] w fun e w' => e = .returned (.agg #[.int .u64 (hiOf (T + v)), .int .u64 (loOf (T + v))]) ∧ Below w.heap.size w w' := by
  have hut := Try.underlying122
  have r1 := u64w_range v
  have r2 := u64w_range (v / 9223372036854775808)
  have hlo : 0 ≤ loOf T ∧ loOf T ≤ 18446744073709551615 := by unfold loOf; omega
  have hhi : 0 ≤ hiOf T := by unfold hiOf; omega
  have A1 := add64_at (loOf T) (IntKind.u64.wrap v) 0 hlo.1 r1.1 (by omega) (by omega)
  have A2 := add64_at (hiOf T) (IntKind.u64.wrap (v / 9223372036854775808)) ((loOf T + IntKind.u64.wrap v + 0) / 18446744073709551616) hhi r2.1 (by omega) (by omega)
  have e1 := add_lo T v
  have e2 := add_hi T v h1 h2
  generalize (loOf T + IntKind.u64.wrap v + 0) / 18446744073709551616 = c1 at A1 A2 e2
  generalize (hiOf T + IntKind.u64.wrap (v / 9223372036854775808) + c1) / 18446744073709551616 = c2 at A2
  rw [e1] at A1
  rw [e2] at A2
  generalize hi2 : hiOf (T + v) = H2 at *
  generalize lo2 : loOf (T + v) = L2 at *
  have HB := Lib.hid hi2
  have HC := Lib.hid lo2
  clear hi2 lo2 e1 e2 r1 r2 hlo hhi
  go_enter Try.func67, Try.ntmps67
  go_wp2
  refine bodyPost_ret (v := .agg #[.int .u64 H2, .int .u64 L2]) (by simp [results, Try.results67, go_sem]) rfl ⟨rfl, ((Below.refl _ _).alloc (Nat.le_refl _) _).alloc (by simp) _⟩

def inR (x : Int) : Bool := decide (-9223372036854775808 ≤ x ∧ x ≤ 9223372036854775807)
theorem inR_iff (x : Int) : inR x = true ↔ -9223372036854775808 ≤ x ∧ x ≤ 9223372036854775807 := by unfold inR; simp

/-- What a function handed to fold does. -/
def Adds (g : Nat) (φ : Int → Int) : Prop := ∀ (T x : Int) (w : World), inR x = true →
  Calls Try.prog g #[.agg #[.int .u64 (hiOf T), .int .u64 (loOf T)], .int .i64 x] w fun e w' => e = .returned (.agg #[.int .u64 (hiOf (T + φ x)), .int .u64 (loOf (T + φ x))]) ∧ Below w.heap.size w w'

def sumBy (φ : Int → Int) (l : List Int) : Int := (l.map φ).sum
theorem sumBy_snoc (φ : Int → Int) (l : List Int) (k : Nat) (h : k < l.length) : sumBy φ (l.take (k + 1)) = sumBy φ (l.take k) + φ (rd l k) := by
  have : rd l k = l[k] := by simp [rd, List.getD_eq_getElem?_getD, List.getElem?_eq_getElem h]
  rw [this]
  unfold sumBy
  rw [List.take_succ_eq_append_getElem h, List.map_append, List.sum_append]
  simp

set_option maxHeartbeats 1600000 in
theorem fold_any (g : Nat) (φ : Int → Int) (hg : Adds g φ) (eg : ∀ args w, (callFunc g args).run Try.prog w = .ok (.enter g args) w) (T : Int) (A : Option Addr) (c : Nat) (l : List Int) (w : World) (hr : (Kd.int .i64).C w A l.length l) (hR : l.all inR = true) :
    Calls Try.prog 68 #[.slice A l.length c, .agg #[.int .u64 (hiOf T), .int .u64 (loOf T)], .func (.func g) #[] #[]] w fun e w' => e = .returned (.agg #[.int .u64 (hiOf (T + sumBy φ l)), .int .u64 (loOf (T + sumBy φ l))]) ∧ Below w.heap.size w w' := by
  have hut := Try.underlying122
  have hmax : l.length ≤ 9223372036854775807 := hr.2.1
  have HR := Aside0.mk hr
  have HA := Aside0.mk hR
  clear hr hR
  go_enter Try.func68, Try.ntmps68
  go_wp2
  go_loopg [11] l.length (fun gg s11 wr => ∃ k : Nat, k ≤ l.length ∧ l.length - k ≤ gg ∧ s11 = .int .i64 k ∧ Aside0 (Below w.heap.size w wr) ∧ Aside0 (wr.heap[w.heap.size]? = some (.cells #[.int .u64 (hiOf (T + sumBy φ (l.take k))), .int .u64 (loOf (T + sumBy φ (l.take k)))] 122 (0, 0))) ∧ Aside0 (wr.heap[w.heap.size + 1]? = some (.cells #[.int .u64 0, .int .u64 0] 122 (0, 0))))
  case atStart =>
    exact ⟨0, Nat.zero_le _, by omega, rfl, ⟨((Below.refl _ _).alloc (Nat.le_refl _) _).alloc (by simp) _⟩, ⟨by simpa [sumBy] using blk_alloc (blk_new w _) _⟩, ⟨by simpa using blk_new (w.alloc (Obj.cells #[Value.int IntKind.u64 (hiOf T), Value.int IntKind.u64 (loOf T)] 122)) _⟩⟩
  case round =>
    obtain ⟨k, hk, hgk, rfl, HB, H0, H1⟩ := hrel
    have c0 : wr.cell? ⟨w.heap.size, 0, none⟩ = some (.int .u64 (hiOf (T + sumBy φ (l.take k)))) := blk_cell H0.out 0
    have c1 : wr.cell? ⟨w.heap.size, 1, none⟩ = some (.int .u64 (loOf (T + sumBy φ (l.take k)))) := blk_cell H0.out 1
    by_cases hlt : k < l.length
    · obtain ⟨ad, rfl, hc⟩ := Kd.at_int HR.out k (by omega) (by omega)
      have hc2 := HB.out.cell (World.block_lt_of_cell? w _ hc)
      have hx : inR (rd l k) = true := by
        have : rd l k = l[k] := by simp [rd, List.getD_eq_getElem?_getD, List.getElem?_eq_getElem hlt]
        rw [this]; exact List.all_eq_true.1 HA.out _ (List.getElem_mem hlt)
      have hcell : wr.cell? (ad.add k) = some (.int .i64 (rd l k)) := by simpa using hc2.trans hc
      clear hc hc2
      have HS := Aside0.mk (sumBy_snoc φ l k hlt)
      generalize rd l k = x at hx hcell HS
      have HX := Aside0.mk hx
      clear hx
      go_wp2_with (go_at_fn g; refine (hg _ x _ HX.out).mono ?_; rintro e w1 ⟨rfl, hb1⟩; have b0 := blk_below H0.out hb1; have d0 : w1.cell? ⟨w.heap.size, 0, none⟩ = some (.int .u64 (hiOf (T + sumBy φ (l.take k)))) := blk_cell b0 0; have d1 : w1.cell? ⟨w.heap.size, 1, none⟩ = some (.int .u64 (loOf (T + sumBy φ (l.take k)))) := blk_cell b0 1; have f0 := blk_frozen b0 0; have f1 := blk_frozen b0 1; have B0 := Aside0.mk b0; have HB1 := Aside0.mk hb1; clear b0 hb1)
      go_roundg (l.length - (k + 1))
      case measure => omega
      case rel =>
        have b := blk_set (blk_set B0.out 0 (.int .u64 (hiOf (T + sumBy φ (l.take k) + φ x)))) 1 (.int .u64 (loOf (T + sumBy φ (l.take k) + φ x)))
        have b1 := blk_far (blk_far (blk_below H1.out HB1.out) (p := ⟨w.heap.size, 0, none⟩) (by simp) (.int .u64 (hiOf (T + sumBy φ (l.take k) + φ x)))) (p := ⟨w.heap.size, 1, none⟩) (by simp) (.int .u64 (loOf (T + sumBy φ (l.take k) + φ x)))
        exact ⟨k + 1, by omega, by omega, by go_num, ⟨((below_then HB.out HB.out.size HB1.out).setCell (by simp) _).setCell (by simp) _⟩, ⟨by rw [HS.out, ← Int.add_assoc]; exact b⟩, ⟨b1⟩⟩
    · have : k = l.length := by omega
      subst this
      have d0 : wr.cell? ⟨w.heap.size + 1, 0, none⟩ = some (.int .u64 0) := blk_cell H1.out 0
      have d1 : wr.cell? ⟨w.heap.size + 1, 1, none⟩ = some (.int .u64 0) := blk_cell H1.out 1
      have f0 := blk_frozen H1.out 0
      have f1 := blk_frozen H1.out 1
      go_wp2
      have b := blk_set (blk_set H1.out 0 (.int .u64 (hiOf (T + sumBy φ l)))) 1 (.int .u64 (loOf (T + sumBy φ l)))
      refine bodyPost_ret (results_cell_row rfl _ _ (w.heap.size + 1) 122 _ (0, 0) _ rfl b hut rfl (by kernel_rfl)) rfl ?_
      exact ⟨rfl, (HB.out.setCell (by simp) _).setCell (by simp) _⟩

/-- A new block of two cells, behind a call. -/
theorem two_behind {W w1 : World} {g : Nat} {a b : Value} {t : TypeId} (hW : W.heap[g]? = some (.cells #[a, b] t (0, 0))) (hb : Below W.heap.size W w1) :
    w1.heap[g]? = some (.cells #[a, b] t (0, 0)) ∧ w1.cell? ⟨g, 0, none⟩ = some a ∧ w1.cell? ⟨g, 1, none⟩ = some b ∧ w1.frozen? ⟨g, 0, none⟩ = false ∧ w1.frozen? ⟨g, 1, none⟩ = false :=
  have b := blk_below hW hb
  ⟨b, blk_cell b 0, blk_cell b 1, blk_frozen b 0, blk_frozen b 1⟩
theorem two_new (w : World) (o : Obj) (o' : Obj) : ((w.alloc o).alloc o').heap[w.heap.size + 1]? = some o' := by simpa using blk_new (w.alloc o) o'

/-- What a sum tells. -/
def toldOf (T : Int) : Int × Int := if inR T then (T, 0) else (0, 12)

theorem told_fits (T : Int) (h : inR T = true) : (hiOf T == IntKind.u64.wrap (wrap64 (loOf T) / 9223372036854775808)) = true ∧ wrap64 (loOf T) = T := by
  have h' := (inR_iff T).1 h
  have e2 : ∀ v, IntKind.u64.wrap v = v % 18446744073709551616 := fun _ => rfl
  have : wrap64 (loOf T) = T := by unfold wrap64 loOf; omega
  refine ⟨?_, this⟩
  rw [this, beq_iff_eq, e2]
  unfold hiOf; omega
theorem told_over (T : Int) (h : inR T = false) (h1 : -170141183460469231731687303715884105728 ≤ T) (h2 : T < 170141183460469231731687303715884105728) : (hiOf T == IntKind.u64.wrap (wrap64 (loOf T) / 9223372036854775808)) = false := by
  have h' : ¬ (-9223372036854775808 ≤ T ∧ T ≤ 9223372036854775807) := fun hh => by rw [(inR_iff T).2 hh] at h; cases h
  have e2 : ∀ v, IntKind.u64.wrap v = v % 18446744073709551616 := fun _ => rfl
  rw [beq_eq_false_iff_ne, e2]
  intro he
  have hn : wrap64 (loOf T) = (loOf T + 9223372036854775808) % 18446744073709551616 - 9223372036854775808 := by unfold wrap64; omega
  generalize wrap64 (loOf T) = n at he hn
  have hq : (0 ≤ n ∧ n / 9223372036854775808 = 0) ∨ (n < 0 ∧ n / 9223372036854775808 = -1) := by omega
  have hl : loOf T = T % 18446744073709551616 := rfl
  have hh : hiOf T = T / 18446744073709551616 % 18446744073709551616 := rfl
  rcases hq with ⟨h3, h4⟩ | ⟨h3, h4⟩ <;> rw [h4] at he <;> omega

set_option maxRecDepth 100000 in
set_option maxHeartbeats 800000 in
theorem told_any (T : Int) (w : World) (h1 : -170141183460469231731687303715884105728 ≤ T) (h2 : T < 170141183460469231731687303715884105728) :
    Calls Try.prog 70 #[.agg #[.int .u64 (hiOf T), .int .u64 (loOf T)]] w fun e w' => e = .returned (.tuple #[.int .i64 (toldOf T).1, .int .i64 (toldOf T).2]) ∧ Below w.heap.size w w' := by
  have hut := Try.underlying122
  unfold toldOf
  cases h : inR T with
  | true =>
    obtain ⟨t1, t2⟩ := told_fits T h
    have t3 : (hiOf T != IntKind.u64.wrap (wrap64 (loOf T) / 9223372036854775808)) = false := by simpa using t1
    have HV := Lib.hid t2
    clear h1 h2 h t2
    go_enter Try.func70, Try.ntmps70
    go_wp2
    go_ret2
    exact ⟨by rw [HV.out]; rfl, (Below.refl _ _).alloc (Nat.le_refl _) _⟩
  | false =>
    have t1 := told_over T h h1 h2
    have t3 : (hiOf T != IntKind.u64.wrap (wrap64 (loOf T) / 9223372036854775808)) = true := by simpa using t1
    clear h1 h2 h
    go_enter Try.func70, Try.ntmps70
    go_wp2
    go_ret2
    exact ⟨rfl, (Below.refl _ _).alloc (Nat.le_refl _) _⟩

theorem sum_bound (φ : Int → Int) (hφ : ∀ x, inR x = true → -9223372036854775808 ≤ φ x ∧ φ x ≤ 9223372036854775807) : ∀ l : List Int, l.all inR = true → -9223372036854775808 * (l.length : Int) ≤ sumBy φ l ∧ sumBy φ l ≤ 9223372036854775807 * (l.length : Int)
  | [], _ => by simp [sumBy]
  | x :: l, h => by
    simp only [List.all_cons, Bool.and_eq_true] at h
    have h1 := hφ x h.1
    have h2 := sum_bound φ hφ l h.2
    have e : sumBy φ (x :: l) = φ x + sumBy φ l := by simp [sumBy]
    rw [e, List.length_cons]
    omega

end Go.Proofs.Ytdnkbmjlcdddcaa.Q
