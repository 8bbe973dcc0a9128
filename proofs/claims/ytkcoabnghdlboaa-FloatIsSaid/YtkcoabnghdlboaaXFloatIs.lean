/- FloatIs. No condition beyond the row's own. -/
import Derived.Test.YtkcoabnghdlboaaQ13
import Derived.Test.YtkcoabnghdlboaaFFloatIs
import Derived.Test.YtkcoabnghdlboaaY1
namespace Go.Proofs.Ytkcoabnghdlboaa.Q
open Go.RowKit Go.Proofs.YtkcoabnghdlboaaW Go.Proofs.YtkcoabnghdlboaaW.PrintWords Go.Proofs.YtkcoabnghdlboaaW.PrintLast Go.Proofs.YtkcoabnghdlboaaW.PrintMore
open FL
set_option linter.unusedVariables false
set_option linter.unusedSimpArgs false

theorem wrap64_in {v : Int} (h1 : -9223372036854775808 ≤ v) (h2 : v ≤ 9223372036854775807) : wrap64 v = v := by unfold wrap64; omega
theorem shl_u (X s : Nat) (hs : s ≤ 64) (h : X * 2 ^ s < 18446744073709551616) : shl .u64 (X : Int) (s : Int) = ((X * 2 ^ s : Nat) : Int) := by
  rw [← shl_small (k := .u64) rfl (by show (s : Int) ≤ ((64 : Nat) : Int); omega), wrap_u64, Int.toNat_natCast]
  have e : (X : Int) * 2 ^ s = ((X * 2 ^ s : Nat) : Int) := by rw [Int.natCast_mul, Int.natCast_pow]; rfl
  rw [e]
  generalize X * 2 ^ s = V at *
  omega
theorem shr_u (X s : Nat) (hs : s ≤ 64) : shr .u64 (X : Int) (s : Int) = ((X / 2 ^ s : Nat) : Int) := by
  rw [← shr_small (k := .u64) rfl (by show (s : Int) ≤ ((64 : Nat) : Int); omega), Int.toNat_natCast, Int.natCast_ediv, Int.natCast_pow]
  rfl
theorem or_add (A f i : Nat) (hf : f < 2 ^ i) (h : 2 ^ i * A + f < 18446744073709551616) : Go.bits .or .u64 ((2 ^ i * A : Nat) : Int) (f : Int) = ((2 ^ i * A + f : Nat) : Int) := by
  have e : Go.bits .or .u64 ((2 ^ i * A : Nat) : Int) (f : Int) = IntKind.u64.wrap (((BitVec.ofInt 64 ((2 ^ i * A : Nat) : Int)) ||| (BitVec.ofInt 64 (f : Int))).toNat : Int) := rfl
  rw [e, BitVec.toNat_or, ofInt_nat _ (by omega), ofInt_nat _ (by omega), ← Nat.two_pow_add_eq_or_of_lt hf, wrap_u64]
  generalize 2 ^ i * A = V at *
  omega
theorem digits_at : ∀ (k x c : Nat), x < 2 ^ k → x < 18446744073709551616 → c + k ≤ 200 → heronryref02_digits.l0 (k + 1) (x : Int) (c : Int) = some ((c + (if x = 0 then 0 else x.log2 + 1) : Nat) : Int)
  | 0, x, c, h, _, _ => by
    have : x = 0 := by simpa using h
    subst this
    simp [heronryref02_digits.l0]
  | k + 1, x, c, h, h2, h3 => by
    rw [heronryref02_digits.l0]
    by_cases h0 : x = 0
    · subst h0; simp
    · rw [if_pos (by omega), if_neg h0]
      have e1 : IntKind.u64.wrap (Int.tdiv (x : Int) 2) = ((x / 2 : Nat) : Int) := by
        rw [wrap_u64, Int.tdiv_eq_ediv_of_nonneg (by omega)]
        omega
      have e2 : wrap64 ((c : Int) + 1) = ((c + 1 : Nat) : Int) := by unfold wrap64; omega
      rw [e1, e2, digits_at k (x / 2) (c + 1) (by rw [Nat.pow_succ] at h; omega) (by omega) (by omega)]
      congr 2
      by_cases h4 : x / 2 = 0
      · have : x = 1 := by omega
        subst this
        rw [if_pos (by decide), show Nat.log2 1 = 0 by decide]
      · rw [if_neg h4]
        have : x.log2 = (x / 2).log2 + 1 := by
          rw [Nat.log2_def x, if_pos (by omega)]
        omega
theorem digits_p (m : Nat) (h0 : m ≠ 0) (h : m < 18446744073709551616) : heronryref02_digits.f 79 (m : Int) = some ((m.log2 + 1 : Nat) : Int) := by
  unfold heronryref02_digits.f
  have := digits_at 78 m 0 (Nat.lt_of_lt_of_le h (by decide)) h (by omega)
  rw [if_neg h0] at this
  rw [Nat.zero_add] at this
  exact this
theorem frac_nat (X : Nat) (h : X < 18446744073709551616) : heronryref02_fraction.f (X : Int) = some ((X % 4503599627370496 : Nat) : Int) := by
  unfold heronryref02_fraction.f
  rw [fraction_eq _ ((inU_iff _).2 ⟨by omega, by omega⟩)]
  congr 1
theorem u_nat (X : Nat) (h : X < 18446744073709551616) : IntKind.u64.wrap (X : Int) = (X : Int) := by rw [wrap_u64]; omega
/-- The sign, the exponent and the fraction laid together. -/
theorem or_three (s E f : Nat) (hs : s ≤ 1) (hE : E < 2048) (hf : f < 4503599627370496) : Go.bits .or .u64 (Go.bits .or .u64 ((s * 9223372036854775808 : Nat) : Int) ((E * 4503599627370496 : Nat) : Int)) (f : Int) = ((s * 9223372036854775808 + E * 4503599627370496 + f : Nat) : Int) := by
  have e1 : s * 9223372036854775808 = 2 ^ 63 * s := by rw [p63]; omega
  have h1 : E * 4503599627370496 < 2 ^ 63 := by rw [p63]; omega
  rw [e1, or_add s (E * 4503599627370496) 63 h1 (by rw [p63]; omega)]
  have e2 : 2 ^ 63 * s + E * 4503599627370496 = 2 ^ 52 * (s * 2048 + E) := by rw [p63, p52]; omega
  rw [e2, or_add (s * 2048 + E) f 52 (by rw [p52]; exact hf) (by rw [p52]; omega)]
theorem or_two (s E : Nat) (hs : s ≤ 1) (hE : E < 2048) : Go.bits .or .u64 ((s * 9223372036854775808 : Nat) : Int) ((E * 4503599627370496 : Nat) : Int) = ((s * 9223372036854775808 + E * 4503599627370496 : Nat) : Int) := by
  have e1 : s * 9223372036854775808 = 2 ^ 63 * s := by rw [p63]; omega
  have h1 : E * 4503599627370496 < 2 ^ 63 := by rw [p63]; omega
  rw [e1, or_add s (E * 4503599627370496) 63 h1 (by rw [p63]; omega)]
set_option maxHeartbeats 1000000 in
theorem of_j (s m : Nat) (hs : s ≤ 1) (h0 : m ≠ 0) (h : m ≤ 9223372036854775808) : heronryref02_Of.j0 80 ((s * 9223372036854775808 : Nat) : Int) (m : Int) = some ((s * 9223372036854775808 + ofN m : Nat) : Int) := by
  have hb := log2_bounds h0
  have hL2 : m.log2 ≤ 63 := log_le h
  obtain ⟨L, hL⟩ : ∃ L, m.log2 = L := ⟨_, rfl⟩
  have hdg := digits_p m h0 (by omega)
  unfold ofN
  rw [if_neg h0]
  rw [hL] at hb hL2 hdg ⊢
  have ex : IntKind.u64.wrap (wrap64 (wrap64 (((L + 1 : Nat) : Int) - 1) + 1023)) = ((L + 1023 : Nat) : Int) := by
    have z1 : wrap64 (((L + 1 : Nat) : Int) - 1) = (L : Int) := by rw [wrap64_in (by omega) (by omega)]; omega
    rw [z1, wrap64_in (by omega) (by omega), wrap_u64]; omega
  simp only [heronryref02_Of.j0, hdg, Option.bind_some, ex]
  by_cases hc : L ≤ 52
  · rw [if_pos (by omega), if_pos hc]
    have e1 : IntKind.u64.wrap (wrap64 (53 - ((L + 1 : Nat) : Int))) = ((52 - L : Nat) : Int) := by
      rw [wrap64_in (by omega) (by omega), wrap_u64]; omega
    rw [e1, if_pos (by omega)]
    have c1 : 4503599627370496 ≤ m * 2 ^ (52 - L) := by
      have := Nat.mul_le_mul_right (2 ^ (52 - L)) hb.1
      rw [← Nat.pow_add, show L + (52 - L) = 52 by omega, p52] at this
      exact this
    have c2 : m * 2 ^ (52 - L) < 9007199254740992 := by
      have := Nat.mul_lt_mul_of_pos_right hb.2 (Nat.two_pow_pos (52 - L))
      rw [← Nat.pow_add, show L + 1 + (52 - L) = 53 by omega, p53] at this
      exact this
    rw [shl_u m (52 - L) (by omega) (by omega)]
    generalize m * 2 ^ (52 - L) = c at *
    have e2 : IntKind.u64.wrap (((L + 1023 : Nat) : Int) * 4503599627370496) = (((L + 1023) * 4503599627370496 : Nat) : Int) := by rw [wrap_u64]; omega
    rw [frac_nat c (by omega), Option.bind_some, e2, or_three s (L + 1023) (c % 4503599627370496) hs (by omega) (by omega)]
    exact congrArg (fun z : Nat => some (z : Int)) (by clear hb hdg ex e1 e2 hL; omega)
  · rw [if_neg (by omega), if_neg hc]
    obtain ⟨e, he⟩ : ∃ e, L - 52 = e := ⟨_, rfl⟩
    rw [he]
    have e1 : IntKind.u64.wrap (wrap64 (((L + 1 : Nat) : Int) - 53)) = (e : Int) := by
      rw [wrap64_in (by omega) (by omega), wrap_u64]; omega
    have e2 : IntKind.u64.wrap ((e : Int) - 1) = ((e - 1 : Nat) : Int) := by rw [wrap_u64]; omega
    rw [e1, if_pos (by omega), e2, if_pos (by omega), shr_u m e (by omega)]
    have hp : 0 < 2 ^ e := Nat.two_pow_pos e
    have hpe : 2 ^ e = 2 * 2 ^ (e - 1) := by rw [← Nat.pow_succ', show (e - 1).succ = e by omega]
    have hkm : m / 2 ^ e * 2 ^ e ≤ m := Nat.div_mul_le_self _ _
    have g1 : 2 ^ e ≤ 2 ^ 11 := Nat.pow_le_pow_right (by decide) (by omega)
    rw [show (2 : Nat) ^ 11 = 2048 by decide] at g1
    rw [shl_u (m / 2 ^ e) e (by omega) (by omega)]
    have s1 : shl .u64 1 ((e - 1 : Nat) : Int) = ((2 ^ (e - 1) : Nat) : Int) := by
      have := shl_u 1 (e - 1) (by omega) (by rw [Nat.one_mul]; omega)
      rw [Nat.one_mul] at this
      exact this
    rw [s1]
    have hdm := Nat.div_add_mod m (2 ^ e)
    rw [Nat.mul_comm] at hdm
    have r1 : IntKind.u64.wrap ((m : Int) - ((m / 2 ^ e * 2 ^ e : Nat) : Int)) = ((m % 2 ^ e : Nat) : Int) := by
      rw [wrap_u64]
      generalize m / 2 ^ e * 2 ^ e = V at *
      generalize m % 2 ^ e = R at *
      omega
    rw [r1]
    have u1 : 2 ^ L = 4503599627370496 * 2 ^ e := by rw [show L = 52 + e by omega, Nat.pow_add, p52]
    have u2 : 2 ^ (L + 1) = 9007199254740992 * 2 ^ e := by rw [show L + 1 = 53 + e by omega, Nat.pow_add, p53]
    rw [u1, u2] at hb
    have q1 : 4503599627370496 ≤ m / 2 ^ e := (Nat.le_div_iff_mul_le hp).2 hb.1
    have q2 : m / 2 ^ e < 9007199254740992 := (Nat.div_lt_iff_lt_mul hp).2 hb.2
    have tm : Int.tmod ((m / 2 ^ e : Nat) : Int) 2 = ((m / 2 ^ e % 2 : Nat) : Int) := by
      rw [Int.tmod_eq_emod_of_nonneg (by omega)]; omega
    rw [tm]
    unfold cutE
    clear hdm r1 s1 hkm tm u1 u2 hb hdg e1 e2
    generalize m / 2 ^ e = K at *
    generalize m % 2 ^ e = R at *
    generalize 2 ^ (e - 1) = G at *
    rw [hpe]
    clear hp hpe g1
    -- what is cut is told by one more or not
    have one : ∀ up : Bool, heronryref02_Of.j1 79 ((s * 9223372036854775808 : Nat) : Int) ((L + 1023 : Nat) : Int) (K : Int) up = some ((s * 9223372036854775808 + ((L + 1022) * 4503599627370496 + (K + (if up = true then 1 else 0))) : Nat) : Int) := by
      have w1 : IntKind.u64.wrap ((K : Int) + 1) = ((K + 1 : Nat) : Int) := by rw [wrap_u64]; omega
      have w2 : IntKind.u64.wrap (IntKind.u64.wrap (((L + 1023 : Nat) : Int) + 1) * 4503599627370496) = (((L + 1024) * 4503599627370496 : Nat) : Int) := by rw [wrap_u64, wrap_u64]; omega
      have w3 : IntKind.u64.wrap (((L + 1023 : Nat) : Int) * 4503599627370496) = (((L + 1023) * 4503599627370496 : Nat) : Int) := by rw [wrap_u64]; omega
      intro up
      simp only [heronryref02_Of.j1, w1, w2, w3]
      cases up
      · rw [if_neg (by decide), if_neg (by omega), frac_nat K (by omega), Option.bind_some, or_three s (L + 1023) _ hs (by omega) (by omega)]
        exact congrArg (fun z : Nat => some (z : Int)) (by rw [if_neg (by decide)]; omega)
      · rw [if_pos rfl]
        by_cases hk : K + 1 = 9007199254740992
        · rw [if_pos (by omega), or_two s (L + 1024) hs (by omega)]
          exact congrArg (fun z : Nat => some (z : Int)) (by rw [if_pos rfl]; omega)
        · rw [if_neg (by omega), frac_nat (K + 1) (by omega), Option.bind_some, or_three s (L + 1023) _ hs (by omega) (by omega)]
          exact congrArg (fun z : Nat => some (z : Int)) (by rw [if_pos rfl]; omega)
    have put : ∀ a b : Nat, a = b → (some ((s * 9223372036854775808 + ((L + 1022) * 4503599627370496 + (K + a)) : Nat) : Int)) = some ((s * 9223372036854775808 + ((L + 1022) * 4503599627370496 + (K + b)) : Nat) : Int) := fun a b h => by rw [h]
    by_cases c1 : G < R
    · rw [if_pos (by omega), one true]
      exact put _ _ (by rw [if_pos rfl, if_pos (Or.inl (by omega))])
    · rw [if_neg (by omega)]
      by_cases c2 : R = G
      · rw [if_pos (by omega), one]
        by_cases c3 : K % 2 = 1
        · exact put _ _ (by rw [if_pos (by rw [c3]; rfl), if_pos (Or.inr ⟨by omega, c3⟩)])
        · have c4 : K % 2 = 0 := by omega
          exact put _ _ (by rw [c4, if_neg (by decide), if_neg (by omega)])
      · rw [if_neg (by omega), one false]
        exact put _ _ (by rw [if_neg (by decide), if_neg (by omega)])
theorem of_r (n : Int) (h : inI n = true) : heronryref02_Of.f 80 n = some (ofS n) := by
  have h' := (inI_iff n).1 h
  unfold heronryref02_Of.f
  by_cases h0 : n = 0
  · subst h0; rw [if_pos rfl]; rfl
  · rw [if_neg h0]
    obtain ⟨m, hm⟩ : ∃ m : Nat, n.natAbs = m := ⟨_, rfl⟩
    unfold ofS
    rw [hm]
    by_cases hn : n < 0
    · rw [if_pos hn, if_pos hn]
      have e : IntKind.u64.wrap (-(IntKind.u64.wrap n)) = (m : Int) := by rw [wrap_u64, wrap_u64]; omega
      rw [e]
      have := of_j 1 m (by omega) (by omega) (by omega)
      rw [Nat.one_mul] at this
      have e2 : ((9223372036854775808 + ofN m : Nat) : Int) = 9223372036854775808 + (ofN m : Int) := by omega
      rw [e2] at this
      exact this
    · rw [if_neg hn, if_neg hn]
      have e : IntKind.u64.wrap n = (m : Int) := by rw [wrap_u64]; omega
      rw [e]
      have := of_j 0 m (by omega) (by omega) (by omega)
      rw [Nat.zero_mul, Nat.zero_add] at this
      exact this

theorem small_wrap (v : Nat) (h : v < 9223372036854775808) : wrap64 (v : Int) = (v : Int) ∧ wrap64 (-(v : Int)) = -(v : Int) := ⟨wrap64_in (by omega) (by omega), wrap64_in (by omega) (by omega)⟩
def toldS (s q : Nat) : Int × Bool := if s = 1 then (if wholeR q = true ∧ q ≤ 4890909195324358656 then (-(absInt q : Int), true) else (0, false)) else (if wholeR q = true ∧ q < 4890909195324358656 then ((absInt q : Int), true) else (0, false))
theorem told (s q : Nat) (hs : s ≤ 1) (hq : q ≤ 9218868437227405312) : intS ((s * 9223372036854775808 + q : Nat) : Int) = toldS s q := by
  unfold toldS
  by_cases h : s = 1
  · subst h
    have e : ((1 * 9223372036854775808 + q : Nat) : Int) = 9223372036854775808 + (q : Int) := by omega
    rw [if_pos rfl, e, intS_neg q hq]
  · have : s = 0 := by omega
    subst this
    have e : ((0 * 9223372036854775808 + q : Nat) : Int) = (q : Int) := by omega
    rw [if_neg (by decide), e, intS_pos q hq]
theorem sign_nat (s q : Nat) (hq : q < 9223372036854775808) : heronryref02_sign.f ((s * 9223372036854775808 + q : Nat) : Int) = some (s : Int) := by
  unfold heronryref02_sign.f
  exact congrArg some (by omega)
set_option maxHeartbeats 1000000 in
theorem int_j (s q : Nat) (hs : s ≤ 1) (h1 : 4503599627370496 ≤ q) (h2 : q < 9218868437227405312) :
    (if ((q / 4503599627370496 : Nat) : Int) - 1023 < 0 then (heronryref02_Int.j0 80 ((s * 9223372036854775808 + q : Nat) : Int) (((q / 4503599627370496 : Nat) : Int) - 1023) true) else (heronryref02_Int.j0 80 ((s * 9223372036854775808 + q : Nat) : Int) (((q / 4503599627370496 : Nat) : Int) - 1023) (decide ((((q / 4503599627370496 : Nat) : Int) - 1023) > 63)))) = some (toldS s q) := by
  have hsg := sign_nat s q (by omega)
  have hfr : heronryref02_fraction.f ((s * 9223372036854775808 + q : Nat) : Int) = some ((q % 4503599627370496 : Nat) : Int) := by
    rw [frac_nat _ (by omega)]
    exact congrArg (fun z : Nat => some (z : Int)) (by omega)
  generalize ((s * 9223372036854775808 + q : Nat) : Int) = x at *
  obtain ⟨E, hE⟩ : ∃ E, q / 4503599627370496 = E := ⟨_, rfl⟩
  obtain ⟨c, hc⟩ : ∃ c, 4503599627370496 + q % 4503599627370496 = c := ⟨_, rfl⟩
  have hcq : IntKind.u64.wrap (((q % 4503599627370496 : Nat) : Int) + 4503599627370496) = (c : Int) := by rw [wrap_u64]; omega
  have hqe : q = (E - 1) * 4503599627370496 + c := by omega
  have hc1 : 4503599627370496 ≤ c ∧ c < 9007199254740992 := by omega
  rw [hE]
  have none_ : wholeR q = false → toldS s q = (0, false) := by
    intro h
    unfold toldS
    rw [h]
    split <;> rfl
  have over : 4890909195324358656 < q → toldS s q = (0, false) := by
    intro h
    unfold toldS
    split
    · rw [if_neg (fun k => by omega)]
    · rw [if_neg (fun k => by omega)]
  by_cases e0 : E < 1023
  · rw [if_pos (by omega)]
    simp only [heronryref02_Int.j0, if_true]
    rw [none_]
    cases hw : wholeR q
    · rfl
    · exfalso
      unfold wholeR at hw
      simp only [Bool.or_eq_true, Bool.and_eq_true, decide_eq_true_eq] at hw
      omega
  · rw [if_neg (by omega)]
    by_cases e1 : 1086 < E
    · rw [decide_eq_true (by omega)]
      simp only [heronryref02_Int.j0, if_true]
      rw [over (by omega)]
    · rw [decide_eq_false (by omega)]
      simp only [heronryref02_Int.j0, Bool.false_eq_true, if_false, hfr, Option.bind_some, hcq]
      by_cases e2 : E < 1075
      · rw [if_pos (by omega)]
        obtain ⟨d, hd⟩ : ∃ d, 1075 - E = d := ⟨_, rfl⟩
        have w1 : IntKind.u64.wrap (wrap64 (52 - ((E : Int) - 1023))) = (d : Int) := by
          rw [wrap64_in (by omega) (by omega), wrap_u64]; omega
        have hp : 0 < 2 ^ d := Nat.two_pow_pos d
        have hle : c / 2 ^ d * 2 ^ d ≤ c := Nat.div_mul_le_self _ _
        have hdl : c / 2 ^ d ≤ c := Nat.div_le_self _ _
        rw [w1, if_pos (by omega), shr_u c d (by omega), shl_u (c / 2 ^ d) d (by omega) (by omega)]
        have hdm := Nat.div_add_mod c (2 ^ d)
        rw [Nat.mul_comm] at hdm
        have g1 : 4607182418800017408 ≤ q := by clear hdm hle hdl hp; omega
        have g2 : q < 4841369599423283200 := by clear hdm hle hdl hp; omega
        have d2 : 1075 - q / 4503599627370496 = d := by rw [hE]; exact hd
        by_cases hm : c % 2 ^ d = 0
        · have hcc : c / 2 ^ d * 2 ^ d = c := by omega
          obtain ⟨a1, a2⟩ := abs_low g1 g2 c d (c / 2 ^ d) hc d2 hcc
          have hcond : (((c / 2 ^ d * 2 ^ d : Nat) : Int) = (c : Int)) := congrArg Nat.cast hcc
          rw [if_pos hcond]
          clear hcond hcc hdm hle hp hm
          simp only [heronryref02_Int.j1, hsg, Option.bind_some]
          rw [if_neg (by omega)]
          unfold toldS
          rw [a1, a2]
          have hq1 : q ≤ 4890909195324358656 := Nat.le_of_lt (Nat.lt_trans g2 (by decide))
          have hq2 : q < 4890909195324358656 := Nat.lt_trans g2 (by decide)
          have w2 := small_wrap (c / 2 ^ d) (Nat.lt_of_le_of_lt hdl (Nat.lt_trans hc1.2 (by decide)))
          rw [w2.1, w2.2]
          clear w2 none_ over d2 g1 g2 w1 hqe hc hE hcq hsg hfr
          by_cases h : s = 1
          · rw [if_pos (show (s : Int) = 1 by omega), if_pos h, if_pos ⟨rfl, hq1⟩]
          · rw [if_neg (show ¬ (s : Int) = 1 by omega), if_neg h, if_pos ⟨rfl, hq2⟩]
        · have hcc : ¬ c / 2 ^ d * 2 ^ d = c := by omega
          rw [if_neg (by omega), none_]
          unfold wholeR
          rw [hc, d2, decide_eq_false (p := q = 0) (by omega), decide_eq_false (p := 4841369599423283200 ≤ q) (by omega), decide_eq_false (p := c % 2 ^ d = 0) hm]
          simp
      · rw [if_neg (by omega)]
        obtain ⟨d, hd⟩ : ∃ d, E - 1075 = d := ⟨_, rfl⟩
        have w1 : IntKind.u64.wrap (wrap64 (((E : Int) - 1023) - 52)) = (d : Int) := by
          rw [wrap64_in (by omega) (by omega), wrap_u64]; omega
        have hg : 2 ^ d ≤ 2 ^ 11 := Nat.pow_le_pow_right (by decide) (by omega)
        rw [show (2 : Nat) ^ 11 = 2048 by decide] at hg
        have hlt : c * 2 ^ d < 18446744073709551616 := Nat.lt_of_lt_of_le (Nat.mul_lt_mul_of_lt_of_le hc1.2 hg (by decide)) (by decide)
        rw [w1, if_pos (by omega), shl_u c d (by omega) hlt]
        have g1 : 4841369599423283200 ≤ q := by clear hlt; omega
        have a1 := abs_great g1 d c hc (by rw [hE]; exact hd)
        have a2 := whole_great g1
        simp only [heronryref02_Int.j1, hsg, Option.bind_some]
        by_cases e3 : E = 1086
        · rw [if_pos (by omega)]
          have hd11 : d = 11 := by omega
          have h11 : (2 : Nat) ^ 11 = 2048 := by decide
          by_cases h : s = 1
          · rw [if_pos (by omega)]
            unfold toldS
            rw [if_pos h, a1, a2, hd11, h11]
            by_cases hcc : c = 4503599627370496
            · have b : (((c * 2048 : Nat) : Int) == 9223372036854775808) = true := by rw [hcc]; rfl
              rw [b, if_pos ⟨rfl, by omega⟩, hcc]
              simp [heronryref02_Int.j2]
            · have b : (((c * 2048 : Nat) : Int) == 9223372036854775808) = false := by
                rw [beq_eq_false_iff_ne]; omega
              rw [b, if_neg (fun k => by omega)]
              simp [heronryref02_Int.j2]
          · rw [if_neg (by omega)]
            unfold toldS
            rw [if_neg h, if_neg (fun k => by omega)]
            simp [heronryref02_Int.j2]
        · rw [if_neg (by omega)]
          have hq : q < 4890909195324358656 := by clear hlt; omega
          have hv := absInt_small q hq
          unfold toldS
          rw [a1] at hv ⊢
          rw [a2]
          have w2 := small_wrap (c * 2 ^ d) hv
          rw [w2.1, w2.2]
          clear w2 none_ over g1 w1 hqe hc hE hcq hsg hfr hlt hg hv
          by_cases h : s = 1
          · rw [if_pos (show (s : Int) = 1 by omega), if_pos h, if_pos ⟨rfl, Nat.le_of_lt hq⟩]
          · rw [if_neg (show ¬ (s : Int) = 1 by omega), if_neg h, if_pos ⟨rfl, hq⟩]
theorem exp_nat (s q : Nat) (hs : s ≤ 1) (hq : q < 9223372036854775808) : heronryref02_exponent.f ((s * 9223372036854775808 + q : Nat) : Int) = some ((q / 4503599627370496 : Nat) : Int) := by
  unfold heronryref02_exponent.f
  rw [exponent_eq _ ((inU_iff _).2 ⟨by omega, by omega⟩)]
  exact congrArg some (by omega)
theorem class_two (x : Int) : (classS x = 2) = (x % 9223372036854775808 < 9218868437227405312 ∧ 4503599627370496 ≤ x % 9223372036854775808) := by
  apply propext
  unfold classS isNaN
  simp only [decide_eq_true_eq]
  split
  · simp; omega
  · split
    · simp; omega
    · split
      · simp; omega
      · split
        · simp; omega
        · simp; omega
theorem int_r (x : Int) (h : inU x = true) : heronryref02_Int.f 80 x = some (intS x) := by
  have hu := (inU_iff x).1 h
  obtain ⟨s, q, hx, hs, hq⟩ : ∃ s q : Nat, x = ((s * 9223372036854775808 + q : Nat) : Int) ∧ s ≤ 1 ∧ q < 9223372036854775808 := ⟨(x / 9223372036854775808).toNat, (x % 9223372036854775808).toNat, by omega, by omega, by omega⟩
  have hr : x % 9223372036854775808 = (q : Int) := by omega
  have ct := class_two x
  unfold heronryref02_Int.f
  simp only [size_p h, class_r h, Option.bind_some]
  by_cases h0 : q = 0
  · rw [if_pos (by omega), hx, told s q hs (by omega), h0]
    unfold toldS
    have : wholeR 0 = true := by decide
    have a0 : absInt 0 = 0 := by decide
    rw [this, a0]
    by_cases h1 : s = 1
    · rw [if_pos h1, if_pos ⟨rfl, by omega⟩]; rfl
    · rw [if_neg h1, if_pos ⟨rfl, by omega⟩]; rfl
  · rw [if_neg (by omega)]
    by_cases hc : classS x = 2
    · rw [if_pos hc]
      rw [ct, hr] at hc
      have hE : ((q / 4503599627370496 : Nat) : Int) ≤ 2048 := by omega
      have w1 : wrap64 ((wrap64 (((q / 4503599627370496 : Nat) : Int))) - 1023) = ((q / 4503599627370496 : Nat) : Int) - 1023 := by
        rw [wrap64_in (v := ((q / 4503599627370496 : Nat) : Int)) (by omega) (by omega), wrap64_in (by omega) (by omega)]
      rw [hx, exp_nat s q hs hq, Option.bind_some, w1, told s q hs (by omega)]
      exact int_j s q hs (by omega) (by omega)
    · rw [if_neg hc]
      rw [ct, hr] at hc
      by_cases hn : 9218868437227405312 < q
      · unfold intS intB isNaN
        rw [hr, decide_eq_true (by omega)]
        rfl
      · rw [hx, told s q hs (by omega)]
        unfold toldS
        have hw : q < 4503599627370496 → wholeR q = false := by
          intro h
          unfold wholeR
          rw [decide_eq_false h0, decide_eq_false (p := 4607182418800017408 ≤ q) (by omega)]
          rfl
        by_cases hl : q < 4503599627370496
        · rw [hw hl]
          split <;> rfl
        · split
          · rw [if_neg (fun k => absurd k.2 (by omega))]
          · rw [if_neg (fun k => absurd k.2 (by omega))]
theorem heronrylaw02_FloatIs_pure (a b : Int) (ha : inU a = true) (hb : inI b = true) : heronrylaw02_FloatIs.f 80 a b = some true := by
  unfold heronrylaw02_FloatIs.f
  simp only [awake_p, int_p ha, int_r a ha, class_p ha, class_r ha, key_p ha, key_r ha, from_p ha, from_r ha, neg_p ha, neg_r ha, abs_p ha, abs_r ha, next_p ha, next_r ha 79, of_p hb, of_r b hb, Option.bind_some, if_true, beq_self_eq_true]

end Go.Proofs.Ytkcoabnghdlboaa.Q
namespace Go.Proofs.Ytkcoabnghdlboaa
open Q
theorem floatIs_holds : Rows.FloatIsSaid := floatIs.said fun a0 a1 w h0 h1 => Q.heronrylaw02_FloatIs.calls 80 a0 a1 true w ⟨rfl⟩ (heronrylaw02_FloatIs_pure a0 a1 (inU_of h0) (inI_of h1)) |>.mono fun _ _ h => ⟨h.1, h.2.below⟩
end Go.Proofs.Ytkcoabnghdlboaa
