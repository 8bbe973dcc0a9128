import Derived.Test.YtkcoabnghdlboaaH1
namespace Go.Proofs.Ytkcoabnghdlboaa.Q
open Go.RowKit Go.Proofs.YtkcoabnghdlboaaW Go.Proofs.YtkcoabnghdlboaaW.PrintWords Go.Proofs.YtkcoabnghdlboaaW.PrintLast Go.Proofs.YtkcoabnghdlboaaW.PrintMore
open FL
set_option linter.unusedVariables false
set_option linter.unusedSimpArgs false


def minS (a b : Int) : Int := if isNaN a then quietS a else if isNaN b then quietS b else if lessS a b then a else if lessS b a then b else if 9223372036854775808 ≤ a then a else b
def maxS (a b : Int) : Int := if isNaN a then quietS a else if isNaN b then quietS b else if lessS a b then b else if lessS b a then a else if 9223372036854775808 ≤ a then b else a

theorem neg_word (X : Nat) (hX : X < 18446744073709551616) (h : isNaN (X : Int) = false) : (FloatKind.f64.decode X).neg = decide (9223372036854775808 ≤ X) := by
  show (Ieee.double.read X).neg = _
  have hn : ¬ 9218868437227405312 < X % 9223372036854775808 := by rw [nan_nat] at h; simpa using h
  have hs : (X / 9223372036854775808 % 2 == 1) = decide (9223372036854775808 ≤ X) := by
    by_cases h1 : 9223372036854775808 ≤ X
    · have : X / 9223372036854775808 % 2 = 1 := by omega
      rw [this]; simp [h1]
    · have : X / 9223372036854775808 % 2 = 0 := by omega
      rw [this]; simp [h1]
  by_cases h1 : X % 9223372036854775808 < 9218868437227405312
  · rw [read_fin X h1]; exact hs
  · rw [read_inf X (by omega)]; exact hs

theorem order_cases (X Y : Nat) (hX : X < 18446744073709551616) (hY : Y < 18446744073709551616) (nX : isNaN (X : Int) = false) (nY : isNaN (Y : Int) = false) :
    (lessS X Y = true ∧ FloatKind.f64.format.order X Y = some .lt) ∨ (lessS X Y = false ∧ lessS Y X = true ∧ FloatKind.f64.format.order X Y = some .gt) ∨ (lessS X Y = false ∧ lessS Y X = false ∧ FloatKind.f64.format.order X Y = some .eq) := by
  rw [ord_form X Y hX hY, nX, nY]
  unfold lessS
  rw [nX, nY, cmp_int]
  by_cases h1 : sv (X : Int) < sv (Y : Int)
  · left; simp [h1]
  · right
    by_cases h2 : sv (X : Int) = sv (Y : Int)
    · right; simp [h2]
    · left
      have h3 : sv (Y : Int) < sv (X : Int) := by omega
      simp [h1, h2, h3]

theorem min_word (X Y : Nat) (hX : X < 18446744073709551616) (hY : Y < 18446744073709551616) (nX : isNaN (X : Int) = false) (nY : isNaN (Y : Int) = false) :
    ∃ Z : Nat, (Z : Int) = minS X Y ∧ ∀ (ts : Array TypeId) (t : TypeId) (w : World), (Builtin.min_ ts t #[.float .f64 X, .float .f64 Y]).run Try.prog w = .ok (.float .f64 Z) w := by
  have run : ∀ (ts : Array TypeId) (t : TypeId) (w : World), (Builtin.min_ ts t #[.float .f64 X, .float .f64 Y]).run Try.prog w = (Builtin.min2 (.float .f64 X) (.float .f64 Y)).run Try.prog w := by
    intro ts t w
    simp only [Builtin.min_, List.foldlM_cons, List.foldlM_nil]
    simp
  simp only [run, Builtin.min2]
  have ng := neg_word X hX nX
  unfold minS
  rw [nX, nY]
  rcases order_cases X Y hX hY nX nY with ⟨h1, h2⟩ | ⟨h1, h2, h3⟩ | ⟨h1, h2, h3⟩
  · rw [h1, h2]
    exact ⟨X, rfl, fun ts t w => rfl⟩
  · rw [h1, h2, h3]
    exact ⟨Y, rfl, fun ts t w => rfl⟩
  · rw [h1, h2, h3, ng]
    by_cases h4 : 9223372036854775808 ≤ X
    · exact ⟨X, by rw [if_neg (by decide), if_neg (by decide), if_neg (by decide), if_neg (by decide), if_pos (by omega)], fun ts t w => by simp [h4]⟩
    · exact ⟨Y, by rw [if_neg (by decide), if_neg (by decide), if_neg (by decide), if_neg (by decide), if_neg (by omega)], fun ts t w => by simp [h4]⟩

theorem max_word (X Y : Nat) (hX : X < 18446744073709551616) (hY : Y < 18446744073709551616) (nX : isNaN (X : Int) = false) (nY : isNaN (Y : Int) = false) :
    ∃ Z : Nat, (Z : Int) = maxS X Y ∧ ∀ (ts : Array TypeId) (t : TypeId) (w : World), (Builtin.max_ ts t #[.float .f64 X, .float .f64 Y]).run Try.prog w = .ok (.float .f64 Z) w := by
  have run : ∀ (ts : Array TypeId) (t : TypeId) (w : World), (Builtin.max_ ts t #[.float .f64 X, .float .f64 Y]).run Try.prog w = (Builtin.max2 (.float .f64 X) (.float .f64 Y)).run Try.prog w := by
    intro ts t w
    simp only [Builtin.max_, List.foldlM_cons, List.foldlM_nil]
    simp
  simp only [run, Builtin.max2]
  have ng := neg_word X hX nX
  unfold maxS
  rw [nX, nY]
  rcases order_cases X Y hX hY nX nY with ⟨h1, h2⟩ | ⟨h1, h2, h3⟩ | ⟨h1, h2, h3⟩
  · rw [h1, h2]
    exact ⟨Y, rfl, fun ts t w => rfl⟩
  · rw [h1, h2, h3]
    exact ⟨X, rfl, fun ts t w => rfl⟩
  · rw [h1, h2, h3, ng]
    by_cases h4 : 9223372036854775808 ≤ X
    · exact ⟨Y, by rw [if_neg (by decide), if_neg (by decide), if_neg (by decide), if_neg (by decide), if_pos (by omega)], fun ts t w => by simp [h4]⟩
    · exact ⟨X, by rw [if_neg (by decide), if_neg (by decide), if_neg (by decide), if_neg (by decide), if_neg (by omega)], fun ts t w => by simp [h4]⟩

def float_Min.f (a0 : Int) (a1 : Int) : Option Int := if inU a0 = true ∧ inU a1 = true then some (minS a0 a1) else none
theorem float_Min.calls (a0 : Int) (a1 : Int) (r : Int) (w : World) (h : float_Min.f a0 a1 = some r) :
    Calls Try.prog 21 #[.int .u64 a0, .int .u64 a1] w fun e w' => e = .returned (.int .u64 r) ∧ Below w.heap.size w w' := by
  unfold float_Min.f at h
  by_cases hc : inU a0 = true ∧ inU a1 = true
  case neg => rw [if_neg hc] at h; cases h
  rw [if_pos hc] at h
  obtain ⟨X, Y, rfl, rfl, hX, hY⟩ := two_nats hc.1 hc.2
  have hr := Option.some.inj h
  have hn := Aside0.mk (nan_any X Y hX hY)
  clear h hc
  cases nX : isNaN (X : Int) with
  | true =>
    unfold minS at hr
    rw [nX, if_pos rfl] at hr
    simp only [nX, hr, if_true, Bool.true_or] at hn
    clear hX hY nX hr
    go_enter Try.func21, Try.ntmps21
    go_wp2_with (first | (go_at_call 44; refine (hn.out _).mono ?_; rintro e w1 ⟨rfl, hb⟩) | (go_at_call 37; refine (number_any _ _).mono ?_; rintro e w1 ⟨rfl, rfl⟩))
    go_ret
    exact ⟨rfl, hb⟩
  | false =>
    cases nY : isNaN (Y : Int) with
    | true =>
      unfold minS at hr
      rw [nX, nY, if_neg (by decide), if_pos rfl] at hr
      simp only [nX, nY, hr, if_true, if_false, Bool.false_or, Bool.false_eq_true] at hn
      clear hX hY nX nY hr
      go_enter Try.func21, Try.ntmps21
      go_wp2_with (first | (go_at_call 44; refine (hn.out _).mono ?_; rintro e w1 ⟨rfl, hb⟩) | (go_at_call 37; refine (number_any _ _).mono ?_; rintro e w1 ⟨rfl, rfl⟩))
      go_ret
      exact ⟨rfl, hb⟩
    | false =>
      obtain ⟨Z, hZ, hm⟩ := min_word X Y hX hY nX nY
      have hb2 := to_bits Z
      rw [hZ, hr] at hb2
      simp only [nX, nY, if_true, if_false, Bool.false_or, Bool.false_eq_true] at hn
      clear hX hY nX nY hr hZ
      go_enter Try.func21, Try.ntmps21
      go_wp2_with (first | (go_at_call 44; refine (hn.out _).mono ?_; rintro e w1 ⟨rfl, hb⟩) | (go_at_call 37; refine (number_any _ _).mono ?_; rintro e w1 ⟨rfl, rfl⟩))
      go_ret
      exact ⟨rfl, hb⟩
def float_Max.f (a0 : Int) (a1 : Int) : Option Int := if inU a0 = true ∧ inU a1 = true then some (maxS a0 a1) else none
theorem float_Max.calls (a0 : Int) (a1 : Int) (r : Int) (w : World) (h : float_Max.f a0 a1 = some r) :
    Calls Try.prog 23 #[.int .u64 a0, .int .u64 a1] w fun e w' => e = .returned (.int .u64 r) ∧ Below w.heap.size w w' := by
  unfold float_Max.f at h
  by_cases hc : inU a0 = true ∧ inU a1 = true
  case neg => rw [if_neg hc] at h; cases h
  rw [if_pos hc] at h
  obtain ⟨X, Y, rfl, rfl, hX, hY⟩ := two_nats hc.1 hc.2
  have hr := Option.some.inj h
  have hn := Aside0.mk (nan_any X Y hX hY)
  clear h hc
  cases nX : isNaN (X : Int) with
  | true =>
    unfold maxS at hr
    rw [nX, if_pos rfl] at hr
    simp only [nX, hr, if_true, Bool.true_or] at hn
    clear hX hY nX hr
    go_enter Try.func23, Try.ntmps23
    go_wp2_with (first | (go_at_call 44; refine (hn.out _).mono ?_; rintro e w1 ⟨rfl, hb⟩) | (go_at_call 37; refine (number_any _ _).mono ?_; rintro e w1 ⟨rfl, rfl⟩))
    go_ret
    exact ⟨rfl, hb⟩
  | false =>
    cases nY : isNaN (Y : Int) with
    | true =>
      unfold maxS at hr
      rw [nX, nY, if_neg (by decide), if_pos rfl] at hr
      simp only [nX, nY, hr, if_true, if_false, Bool.false_or, Bool.false_eq_true] at hn
      clear hX hY nX nY hr
      go_enter Try.func23, Try.ntmps23
      go_wp2_with (first | (go_at_call 44; refine (hn.out _).mono ?_; rintro e w1 ⟨rfl, hb⟩) | (go_at_call 37; refine (number_any _ _).mono ?_; rintro e w1 ⟨rfl, rfl⟩))
      go_ret
      exact ⟨rfl, hb⟩
    | false =>
      obtain ⟨Z, hZ, hm⟩ := max_word X Y hX hY nX nY
      have hb2 := to_bits Z
      rw [hZ, hr] at hb2
      simp only [nX, nY, if_true, if_false, Bool.false_or, Bool.false_eq_true] at hn
      clear hX hY nX nY hr hZ
      go_enter Try.func23, Try.ntmps23
      go_wp2_with (first | (go_at_call 44; refine (hn.out _).mono ?_; rintro e w1 ⟨rfl, hb⟩) | (go_at_call 37; refine (number_any _ _).mono ?_; rintro e w1 ⟨rfl, rfl⟩))
      go_ret
      exact ⟨rfl, hb⟩
end Go.Proofs.Ytkcoabnghdlboaa.Q
