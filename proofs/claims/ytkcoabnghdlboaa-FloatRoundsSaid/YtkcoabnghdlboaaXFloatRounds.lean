/- FloatRounds. No condition beyond the row's own. -/
import Derived.Test.YtkcoabnghdlboaaQ9
import Derived.Test.YtkcoabnghdlboaaFFloatRounds
import Derived.Test.YtkcoabnghdlboaaY1
namespace Go.Proofs.Ytkcoabnghdlboaa.Q
open Go.RowKit Go.Proofs.YtkcoabnghdlboaaW Go.Proofs.YtkcoabnghdlboaaW.PrintWords Go.Proofs.YtkcoabnghdlboaaW.PrintLast Go.Proofs.YtkcoabnghdlboaaW.PrintMore
open FL
set_option linter.unusedVariables false
set_option linter.unusedSimpArgs false

/-- A great whole number's rung: digits cut, and how far off it lies. -/
theorem great_form (m : Nat) (h0 : 9007199254740992 ≤ m) (h : m ≤ 9223372036854775808) : ∃ e c, ofN m = (e + 1074) * 4503599627370496 + c ∧ 1 ≤ e ∧ e ≤ 11 ∧ 4503599627370496 ≤ c ∧ c ≤ 9007199254740992 ∧ 2 * m ≤ 2 * (c * 2 ^ e) + 2 ^ e ∧ 2 * (c * 2 ^ e) ≤ 2 * m + 2 ^ e ∧ (c = 4503599627370496 → c * 2 ^ e ≤ m) := by
  have hb := log2_bounds (m := m) (by omega)
  have hL1 : 53 ≤ m.log2 := by
    rcases Nat.lt_or_ge m.log2 53 with hl | hl
    · have : 2 ^ (m.log2 + 1) ≤ 2 ^ 53 := Nat.pow_le_pow_right (by decide) (by omega)
      rw [p53] at this
      omega
    · exact hl
  have hL2 : m.log2 ≤ 63 := log_le h
  refine ⟨m.log2 - 52, cutE m (m.log2 - 52), ?_, by omega, by omega, ?_⟩
  · unfold ofN
    rw [if_neg (by omega), if_neg (by omega)]
    have : m.log2 - 52 + 1074 = m.log2 + 1022 := by omega
    rw [this]
  obtain ⟨e, he⟩ : ∃ e, m.log2 - 52 = e := ⟨_, rfl⟩
  have e1 : m.log2 = 52 + e := by omega
  rw [he]
  rw [e1] at hb
  have u1 : 2 ^ (52 + e) = 4503599627370496 * 2 ^ e := by rw [Nat.pow_add, p52]
  have u2 : 2 ^ (52 + e + 1) = 9007199254740992 * 2 ^ e := by rw [show 52 + e + 1 = 53 + e by omega, Nat.pow_add, p53]
  rw [u1, u2] at hb
  have hp : 0 < 2 ^ e := Nat.two_pow_pos e
  unfold cutE
  generalize 2 ^ e = g at *
  have hdm := Nat.div_add_mod m g
  have hml := Nat.mod_lt m hp
  have q1 : 4503599627370496 ≤ m / g := (Nat.le_div_iff_mul_le hp).2 hb.1
  have q2 : m / g < 9007199254740992 := (Nat.div_lt_iff_lt_mul hp).2 hb.2
  rw [Nat.mul_comm] at hdm
  clear u1 u2 e1 he hL1 hL2 h h0
  generalize m / g = q at *
  generalize m % g = s at *
  obtain ⟨V, hV⟩ : ∃ V, q * g = V := ⟨_, rfl⟩
  rw [hV] at hdm
  by_cases hc : g < 2 * s ∨ (g = 2 * s ∧ q % 2 = 1)
  · rw [if_pos hc, Nat.add_mul, hV, Nat.one_mul]
    refine ⟨by omega, by omega, by omega, by omega, fun k => by omega⟩
  · rw [if_neg hc, Nat.add_zero, hV]
    refine ⟨by omega, by omega, by omega, by omega, fun k => by omega⟩

theorem next_pos (q : Nat) (h0 : 0 < q) (h : q < 9218868437227405312) : nextS (q : Int) = ((q + 1 : Nat) : Int) := by
  have na : isNaN (q : Int) = false := by rw [nan_nat, decide_eq_false_iff_not]; omega
  have n0 : isNaN 0 = false := by decide
  have n1 : isNaN 9218868437227405311 = false := by decide
  have s1 : sv 9218868437227405311 = 9218868437227405311 := by decide
  have s0 : sv 0 = 0 := by decide
  have sq : sv (q : Int) = (q : Int) := by unfold sv; rw [if_neg (by omega)]
  unfold nextS
  rw [less_num n1 na, eql_num na n0, s1, s0, sq, na, decide_eq_false (p := 9218868437227405311 < (q : Int)) (by omega), decide_eq_false (p := (q : Int) = 0) (by omega), decide_eq_false (p := 9223372036854775808 ≤ (q : Int)) (by omega)]
  rfl
theorem next_neg (q : Nat) (h0 : 0 < q) (h : q < 9218868437227405312) : nextS (9223372036854775808 + (q : Int)) = 9223372036854775808 + ((q - 1 : Nat) : Int) := by
  have e : (9223372036854775808 + (q : Int)) = ((9223372036854775808 + q : Nat) : Int) := by omega
  have na : isNaN (9223372036854775808 + (q : Int)) = false := by rw [e, nan_nat, decide_eq_false_iff_not]; omega
  have n0 : isNaN 0 = false := by decide
  have n1 : isNaN 9218868437227405311 = false := by decide
  have s1 : sv 9218868437227405311 = 9218868437227405311 := by decide
  have s0 : sv 0 = 0 := by decide
  have sq : sv (9223372036854775808 + (q : Int)) = -(q : Int) := by unfold sv; rw [if_pos (by omega)]; omega
  unfold nextS
  rw [less_num n1 na, eql_num na n0, s1, s0, sq, na, decide_eq_false (p := 9218868437227405311 < -(q : Int)) (by omega), decide_eq_false (p := -(q : Int) = 0) (by omega), decide_eq_true (p := 9223372036854775808 ≤ 9223372036854775808 + (q : Int)) (by omega)]
  show 9223372036854775808 + (q : Int) - 1 = _
  omega
theorem neg_pos (q : Nat) (h : q < 9223372036854775808) : negS (q : Int) = 9223372036854775808 + (q : Int) := by unfold negS; rw [if_pos (by omega)]; omega
theorem neg_neg (q : Nat) : negS (9223372036854775808 + (q : Int)) = (q : Int) := by unfold negS; rw [if_neg (by omega)]; omega

theorem int_range (b : Int) (h : inU b = true) : -9223372036854775808 ≤ (intS b).1 ∧ (intS b).1 ≤ 9223372036854775807 := by
  have hu := (inU_iff b).1 h
  cases nb : isNaN b
  · have hn : ¬ 9218868437227405312 < b % 9223372036854775808 := by unfold isNaN at nb; simpa using nb
    by_cases hb : b < 9223372036854775808
    · have e : b = ((b.toNat : Nat) : Int) := by omega
      rw [e, intS_pos b.toNat (by omega)]
      split
      · rename_i hc
        have := absInt_small b.toNat hc.2
        show _ ≤ ((absInt b.toNat : Nat) : Int) ∧ ((absInt b.toNat : Nat) : Int) ≤ _
        omega
      · show _ ≤ (0 : Int) ∧ (0 : Int) ≤ _
        omega
    · have e : b = 9223372036854775808 + (((b - 9223372036854775808).toNat : Nat) : Int) := by omega
      have hq : (b - 9223372036854775808).toNat ≤ 9218868437227405312 := by omega
      rw [e, intS_neg _ hq]
      generalize (b - 9223372036854775808).toNat = q at *
      split
      · rename_i hc
        show _ ≤ -((absInt q : Nat) : Int) ∧ -((absInt q : Nat) : Int) ≤ _
        by_cases h2 : q = 4890909195324358656
        · rw [h2, absInt_top]; omega
        · have := absInt_small q (by omega)
          omega
      · show _ ≤ (0 : Int) ∧ (0 : Int) ≤ _
        omega
  · unfold intS intB
    rw [nb]
    show _ ≤ (0 : Int) ∧ (0 : Int) ≤ _
    omega

theorem rounds_j (n b k up1 dn1 : Int) (above below : Bool) (d : Int) (hn : inI n = true) (hup : inI up1 = true) (hdn : inI dn1 = true) (hb : inU b = true)
    (ha : above = true → up1 = k ∨ up1 < n ∨ d ≤ up1 - n) (hl : below = true → dn1 = k ∨ n < dn1 ∨ d ≤ n - dn1)
    (hs : lessS b 0 = decide (n < 0)) (hd : d = 0 ∨ n > 9007199254740992 ∨ n < -9007199254740992) :
    heronrylaw02_FloatRounds.j0 2 n true b k up1 above dn1 below d = some true := by
  have hn := (inI_iff n).1 hn
  have hup := (inI_iff up1).1 hup
  have hdn := (inI_iff dn1).1 hdn
  have h00 : inU 0 = true := by decide
  have last : heronrylaw02_FloatRounds.j1 1 n true b k dn1 below d false = some true := by
    have tail : (if d = 0 then (some true) else (if n > 9007199254740992 then (some true) else (some (decide (n < (-9007199254740992)))))) = some true := by
      split
      · rfl
      · split
        · rfl
        · rw [decide_eq_true (by omega)]
    simp only [heronrylaw02_FloatRounds.j1, Bool.false_eq_true, if_false, if_true, less_p hb h00, Option.bind_some, hs, beq_self_eq_true, tail]
    cases below
    · rfl
    · simp only [if_true]
      split
      · rfl
      · split
        · rw [if_neg]
          rename_i h1 h2
          have := hl rfl
          rw [wrap_u64, wrap_u64, wrap_u64]
          omega
        · rfl
  simp only [heronrylaw02_FloatRounds.j0]
  cases above
  · exact last
  · simp only [if_true]
    split
    · exact last
    · split
      · have e : decide ((IntKind.u64.wrap ((IntKind.u64.wrap (up1)) - (IntKind.u64.wrap (n)))) < d) = false := by
          rename_i h1 h2
          have := ha rfl
          rw [decide_eq_false_iff_not, wrap_u64, wrap_u64, wrap_u64]
          omega
        rw [e]; exact last
      · exact last

theorem next_in {a : Int} (h : inU a = true) : inU (nextS a) = true := by
  have hu := (inU_iff a).1 h
  rw [inU_iff]
  unfold nextS nextB
  simp only [decide_eq_true_eq]
  split
  · omega
  · split
    · omega
    · split
      · omega
      · split <;> omega
theorem rounds_k (n k : Int) (hn : inI n = true) (hk : intS (ofS n) = (k, true)) (hki : inI k = true) (d : Int) (hd0 : d = if k < n then n - k else k - n)
    (ha : (intS (nextS (ofS n))).2 = true → (intS (nextS (ofS n))).1 = k ∨ (intS (nextS (ofS n))).1 < n ∨ d ≤ (intS (nextS (ofS n))).1 - n)
    (hl : (intS (negS (nextS (negS (ofS n))))).2 = true → (intS (negS (nextS (negS (ofS n))))).1 = k ∨ n < (intS (negS (nextS (negS (ofS n))))).1 ∨ d ≤ n - (intS (negS (nextS (negS (ofS n))))).1)
    (hs : lessS (ofS n) 0 = decide (n < 0)) (hd : d = 0 ∨ n > 9007199254740992 ∨ n < -9007199254740992) : heronrylaw02_FloatRounds.f 2 n = some true := by
  have b0 := of_in hn
  have b1 := next_in b0
  have b2 := neg_in b0
  have b3 := next_in b2
  have b4 := neg_in b3
  have hn' := (inI_iff n).1 hn
  have hk' := (inI_iff k).1 hki
  unfold heronrylaw02_FloatRounds.f
  simp only [awake_p, of_p hn, int_p b0, hk, next_p b0, int_p b1, neg_p b0, next_p b2, neg_p b3, int_p b4, Option.bind_some, if_true]
  have r1 := int_range _ b1
  have r2 := int_range _ b4
  have fin := rounds_j n (ofS n) k _ _ (intS (nextS (ofS n))).2 (intS (negS (nextS (negS (ofS n))))).2 d hn ((inI_iff _).2 r1) ((inI_iff _).2 r2) b0 ha hl hs hd
  split
  · rename_i hlt
    rw [if_pos hlt] at hd0
    have e : IntKind.u64.wrap (IntKind.u64.wrap n - IntKind.u64.wrap k) = d := by rw [wrap_u64, wrap_u64, wrap_u64]; omega
    rw [e]; exact fin
  · rename_i hlt
    rw [if_neg hlt] at hd0
    have e : IntKind.u64.wrap (IntKind.u64.wrap k - IntKind.u64.wrap n) = d := by rw [wrap_u64, wrap_u64, wrap_u64]; omega
    rw [e]; exact fin
theorem sign_of (n : Int) (hn : inI n = true) : lessS (ofS n) 0 = decide (n < 0) := by
  obtain ⟨na, sa⟩ := of_num n hn
  have n0 : isNaN 0 = false := by decide
  have s0 : sv 0 = 0 := by decide
  rw [less_num na n0, s0, sa, decide_eq_decide]
  have p1 : 0 < n.natAbs → 0 < ofN n.natAbs := ofN_pos
  generalize ofN n.natAbs = u at *
  clear sa na
  split <;> omega
/-- The neighbours of a great whole number's rung. -/
theorem around (m : Nat) (h0 : 9007199254740992 ≤ m) (h : m ≤ 9223372036854775808) : ∃ q g V, ofN m = q ∧ 4841369599423283200 ≤ q ∧ q ≤ 4890909195324358656 ∧ wholeR q = true ∧ absInt q = V ∧ 2 * m ≤ 2 * V + g ∧ 2 * V ≤ 2 * m + g ∧ g ≤ 2048 ∧
    V + g ≤ absInt (q + 1) ∧ (absInt (q - 1) + g ≤ V ∨ (V ≤ m ∧ absInt (q - 1) ≤ V)) := by
  obtain ⟨e, c, hq, e1, e2, c1, c2, u1, u2, u3⟩ := great_form m h0 h
  obtain ⟨q, hqq⟩ : ∃ q, ofN m = q := ⟨_, rfl⟩
  rw [hqq] at hq
  obtain ⟨ha, hw⟩ := great q e c hq c1 c2
  have hg : 2 ^ e ≤ 2 ^ 11 := Nat.pow_le_pow_right (by decide) e2
  have hp : 0 < 2 ^ e := Nat.two_pow_pos e
  have hpe : 2 ^ e = 2 * 2 ^ (e - 1) := by rw [← Nat.pow_succ', show (e - 1).succ = e by omega]
  have hp2 : 2 ^ (e + 1) = 2 * 2 ^ e := by rw [Nat.pow_succ]; omega
  have hq2 : q ≤ 4890909195324358656 := by
    by_cases h11 : e = 11
    · rw [h11, show (2 : Nat) ^ 11 = 2048 by decide] at u2
      clear u1 u3 ha hw hg hp hpe hp2
      omega
    · clear u1 u2 u3 ha hw hg hp hpe hp2
      omega
  have hup : c * 2 ^ e + 2 ^ e ≤ absInt (q + 1) := by
    by_cases hc : c = 9007199254740992
    · have a := (great (q + 1) (e + 1) 4503599627370497 (by omega) (by omega) (by omega)).1
      rw [a, hp2, hc]
      clear u1 u2 u3 ha hw hg hpe hp2
      omega
    · have a := (great (q + 1) e (c + 1) (by omega) (by omega) (by omega)).1
      rw [a, Nat.add_mul]
      omega
  have hdn : absInt (q - 1) + 2 ^ e ≤ c * 2 ^ e ∨ (c * 2 ^ e ≤ m ∧ absInt (q - 1) ≤ c * 2 ^ e) := by
    by_cases hc : c = 4503599627370496
    · right
      refine ⟨u3 hc, ?_⟩
      have d1 : 4503599627370496 + (q - 1) % 4503599627370496 = 9007199254740991 := by clear u1 u2 u3 ha hw hg hp hpe hp2 hup; omega
      have d2 : (q - 1) / 4503599627370496 - 1075 = e - 1 := by clear u1 u2 u3 ha hw hg hp hpe hp2 hup; omega
      have hgr : 4841369599423283200 ≤ q - 1 := by clear u1 u2 u3 ha hw hg hp hpe hp2 hup; omega
      rw [abs_great hgr (e - 1) 9007199254740991 d1 d2, hc, hpe]
      clear u1 u2 u3 ha hw hg hp2 hup d1 d2 hpe
      omega
    · left
      have a := (great (q - 1) e (c - 1) (by omega) (by omega) (by omega)).1
      obtain ⟨c', hc'⟩ : ∃ c', c = c' + 1 := ⟨c - 1, by omega⟩
      rw [a, hc', Nat.add_mul]
      simp
  refine ⟨q, 2 ^ e, c * 2 ^ e, hqq, ?_, hq2, hw, ha, u1, u2, ?_, hup, hdn⟩
  · clear u1 u2 u3 ha hw hg hp hpe hp2 hup hdn; omega
  · rw [show (2 : Nat) ^ 11 = 2048 by decide] at hg
    exact hg
set_option maxHeartbeats 1000000 in
theorem heronrylaw02_FloatRounds_pure (n : Int) (hn : inI n = true) : heronrylaw02_FloatRounds.f 2 n = some true := by
  have hn' := (inI_iff n).1 hn
  have hs := sign_of n hn
  by_cases hsm : -9007199254740992 < n ∧ n < 9007199254740992
  · exact rounds_k n n hn (whole_int n hsm.1 hsm.2) hn 0 (by rw [if_neg (by omega)]; omega) (fun _ => by omega) (fun _ => by omega) hs (Or.inl rfl)
  · obtain ⟨m, hm⟩ : ∃ m : Nat, n.natAbs = m := ⟨_, rfl⟩
    obtain ⟨q, g, V, hq, q1, q2, hw, ha, u1, u2, u3, hup, hdn⟩ := around m (by omega) (by omega)
    have hV : q < 4890909195324358656 → V < 9223372036854775808 := fun h => by rw [← ha]; exact absInt_small q h
    by_cases hneg : n < 0
    · have e : ofS n = 9223372036854775808 + (q : Int) := by unfold ofS; rw [if_pos hneg, hm, hq]
      have hk : intS (ofS n) = (-(V : Int), true) := by rw [e, intS_neg _ (by omega), if_pos ⟨hw, q2⟩, ha]
      have hVle : V ≤ 9223372036854775808 := by
        by_cases h : q < 4890909195324358656
        · exact Nat.le_of_lt (hV h)
        · have : q = 4890909195324358656 := by omega
          rw [this, absInt_top] at ha; omega
      have x1 : nextS (ofS n) = 9223372036854775808 + ((q - 1 : Nat) : Int) := by rw [e, next_neg q (by omega) (by omega)]
      have x2 : negS (nextS (negS (ofS n))) = 9223372036854775808 + ((q + 1 : Nat) : Int) := by rw [e, neg_neg, next_pos q (by omega) (by omega), neg_pos (q + 1) (by omega)]
      refine rounds_k n (-(V : Int)) hn hk ((inI_iff _).2 ⟨by omega, by omega⟩) _ rfl ?_ ?_ hs ?_
      · rw [x1, intS_neg _ (by omega)]
        split
        · intro _
          show -((absInt (q - 1) : Nat) : Int) = _ ∨ -((absInt (q - 1) : Nat) : Int) < _ ∨ _ ≤ -((absInt (q - 1) : Nat) : Int) - n
          generalize absInt (q - 1) = V2 at *
          generalize absInt (q + 1) = V1 at *
          clear x1 x2 hk e hV hw hs hn hq ha
          split <;> omega
        · intro h; cases h
      · rw [x2, intS_neg _ (by omega)]
        split
        · intro _
          show -((absInt (q + 1) : Nat) : Int) = _ ∨ n < -((absInt (q + 1) : Nat) : Int) ∨ _ ≤ n - -((absInt (q + 1) : Nat) : Int)
          generalize absInt (q - 1) = V2 at *
          generalize absInt (q + 1) = V1 at *
          clear x1 x2 hk e hV hw hs hn hq ha
          split <;> omega
        · intro h; cases h
      · by_cases hnn : n = -9007199254740992
        · left
          subst hnn
          have : m = 9007199254740992 := by omega
          rw [this] at hq
          have hh : absInt (ofN 9007199254740992) = 9007199254740992 := by decide +kernel
          rw [hq, ha] at hh
          rw [hh]; decide
        · right; right; omega
    · have e : ofS n = (q : Int) := by unfold ofS; rw [if_neg hneg, hm, hq]
      by_cases hov : q < 4890909195324358656
      · have hk : intS (ofS n) = ((V : Int), true) := by rw [e, intS_pos _ (by omega), if_pos ⟨hw, hov⟩, ha]
        have hVle := hV hov
        have x1 : nextS (ofS n) = ((q + 1 : Nat) : Int) := by rw [e, next_pos q (by omega) (by omega)]
        have x2 : negS (nextS (negS (ofS n))) = ((q - 1 : Nat) : Int) := by rw [e, neg_pos q (by omega), next_neg q (by omega) (by omega), neg_neg]
        refine rounds_k n (V : Int) hn hk ((inI_iff _).2 ⟨by omega, by omega⟩) _ rfl ?_ ?_ hs ?_
        · rw [x1, intS_pos _ (by omega)]
          split
          · intro _
            show ((absInt (q + 1) : Nat) : Int) = _ ∨ ((absInt (q + 1) : Nat) : Int) < _ ∨ _ ≤ ((absInt (q + 1) : Nat) : Int) - n
            generalize absInt (q - 1) = V2 at *
            generalize absInt (q + 1) = V1 at *
            clear x1 x2 hk e hV hw hs hn hq ha
            split <;> omega
          · intro h; cases h
        · rw [x2, intS_pos _ (by omega)]
          split
          · intro _
            show ((absInt (q - 1) : Nat) : Int) = _ ∨ n < ((absInt (q - 1) : Nat) : Int) ∨ _ ≤ n - ((absInt (q - 1) : Nat) : Int)
            generalize absInt (q - 1) = V2 at *
            generalize absInt (q + 1) = V1 at *
            clear x1 x2 hk e hV hw hs hn hq ha
            split <;> omega
          · intro h; cases h
        · by_cases hnn : n = 9007199254740992
          · left
            subst hnn
            have : m = 9007199254740992 := by omega
            rw [this] at hq
            have hh : absInt (ofN 9007199254740992) = 9007199254740992 := by decide +kernel
            rw [hq, ha] at hh
            rw [hh]; decide
          · right; left; omega
      · have hqe : q = 4890909195324358656 := by omega
        have hk : intS (ofS n) = (0, false) := by rw [e, intS_pos _ (by omega), if_neg (fun k => hov k.2)]
        rw [hqe, absInt_top] at ha
        have i4 : inI 4611686018427387904 = true := by decide
        have o4 : ofS 4611686018427387904 = 4886405595696988160 := by decide +kernel
        have l4 : lessS 4886405595696988160 (ofS n) = true := by rw [e, hqe]; decide
        have i5 : inU 4886405595696988160 = true := by decide
        unfold heronrylaw02_FloatRounds.f
        have hgt : n > 4611686018427387904 := by omega
        simp only [awake_p, of_p hn, int_p (of_in hn), hk, Option.bind_some, Bool.false_eq_true, if_false, if_true, of_p i4, o4, less_p i5 (of_in hn), l4, hgt]

end Go.Proofs.Ytkcoabnghdlboaa.Q
namespace Go.Proofs.Ytkcoabnghdlboaa
open Q
theorem floatRounds_holds : Rows.FloatRoundsSaid := floatRounds.said fun a0 w h0 => Q.heronrylaw02_FloatRounds.calls 2 a0 true w ⟨rfl⟩ (heronrylaw02_FloatRounds_pure a0 (inI_of h0)) |>.mono fun _ _ h => ⟨h.1, h.2.below⟩
end Go.Proofs.Ytkcoabnghdlboaa
