/- Several texts of one claim, one behind the other. No condition beyond what each says. -/
import Derived.Test.YtjpoepiidmoegaaRows
import Derived.Test.YtjpoepiidmoegaaQ2
import Derived.WalkKit
import Derived.ProofKit
import Derived.OpenShut
import Derived.ShutString
import Derived.ChangeOld
import Derived.Below
import Derived.SizedLaws
import Derived.Test.YtjpoepiidmoegaaQ0
namespace Go.Proofs.Ytjpoepiidmoegaa.oplistIs
open Go.ChangeShapes Go.WideShapes Go.ChangeAt
open Go.RowKit Go.Proofs.YtjpoepiidmoegaaW Go.Proofs.YtjpoepiidmoegaaW.PrintWords Go.Proofs.YtjpoepiidmoegaaW.PrintLast Go.Proofs.YtjpoepiidmoegaaW.PrintMore Go.Proofs.Ytjpoepiidmoegaa.Q
set_option linter.unusedVariables false
/-- What is owed: the law's call, at every reading of its arguments, returns true and leaves all as it was. -/
def Walk : Prop := ∀ (x0 : S58) (A0_0 : Option Addr) (c0_0 : Nat) (x1 : S61) (A1_0 : Option Addr) (c1_0 : Nat) (a2 : Int) (a3 : Int) (a4 : Int) (A5 : Option Addr) (c5 : Nat) (l5 : List Int) (w : World), g58 x0 → x0.f0.length ≤ c0_0 → Kd.C k83 w A0_0 x0.f0.length x0.f0 → g61 x1 → x1.f0.length ≤ c1_0 → Kd.C k107 w A1_0 x1.f0.length x1.f0 → (Lit.int .i64 a2).wf = true → (Lit.int .i64 a3).wf = true → (Lit.int .i64 a4).wf = true → Kd.C (Kd.int .i64) w A5 l5.length l5 → l5.length ≤ c5 → (∀ y35 ∈ l5, (Lit.int .i64 y35).wf = true) → Calls Try.prog 7 #[.agg #[.slice A0_0 x0.f0.length c0_0], .agg #[.slice A1_0 x1.f0.length c1_0, .int .i64 x1.f1], .int .i64 a2, .int .i64 a3, .int .i64 a4, .slice A5 l5.length c5] w fun e w' => e = .returned (.bool true) ∧ Below w.heap.size w w'
theorem own : ownKnob Try.prog.godebug = none := by kernel_rfl
theorem laidOut : laidOutB Try.prog = true := by kernel_rfl
set_option maxRecDepth 100000 in
theorem lifted (P : Walk) (os : Os) (started : os.Started) (H : Type) (enc : TypeId × Value → H) :
    ReturnsInHanded {} Try.checked os 7 .any (Rows.oplistIsSpec.pre6 enc Try.prog Try.f7 Rows.oplistIsRow.domain false) (Rows.oplistIsSpec.post enc Try.prog Try.f7 false true false false) := by
  refine returnsInHanded_of_change_sized (C := Try.checked) own started (by kernel_rfl) Try.func7
    (ChangeSpec.witness6 (enc := enc) (C := Try.checked) false ⟨#[], #[.agg #[.slice none 0 0], .agg #[.slice none 0 0, .int .i64 0], .int .i64 0, .int .i64 0, .int .i64 0, .slice none 0 0], []⟩ 8 (by kernel_rfl) (by kernel_rfl) (by kernel_rfl) (by kernel_rfl)) ?_
  intro W base args ds gs before hval0 hW hcnd hsz0 _
  have hval : ∀ (j : Nat) t v, Try.f7.params[j]? = some t → args[j]? = some v → Value.okWide Try.prog W .any base t v := hval0
  have hW' := hW
  obtain ⟨p, q, hA0, hV, rfl, hfz, hnd⟩ := hW
  have hA : DataW.TrodAll enc Try.prog W 0 (fun _ => true) true Try.f7.params.toList args.toList ds p := hA0
  rw [Try.params7] at hA hval
  obtain ⟨v0, vs0, d0, ds0, p0, q0, hargs, rfl, rfl, h0, r0⟩ := trodAll_cons hA
  obtain ⟨v1, vs1, d1, ds1, p1, q1, rfl, rfl, rfl, h1, r1⟩ := trodAll_cons r0
  obtain ⟨v2, vs2, d2, ds2, p2, q2, rfl, rfl, rfl, h2, r2⟩ := trodAll_cons r1
  obtain ⟨v3, vs3, d3, ds3, p3, q3, rfl, rfl, rfl, h3, r3⟩ := trodAll_cons r2
  obtain ⟨v4, vs4, d4, ds4, p4, q4, rfl, rfl, rfl, h4, r4⟩ := trodAll_cons r3
  obtain ⟨v5, vs5, d5, ds5, p5, q5, rfl, rfl, rfl, h5, r5⟩ := trodAll_cons r4
  obtain ⟨rfl, rfl, rfl⟩ := trodAll_nil r5
  obtain rfl : args = #[v0, v1, v2, v3, v4, v5] := by cases args; simp_all
  obtain ⟨rfl, rfl⟩ := trodVars_none hV
  obtain ⟨cs0, rfl, hz0⟩ := okWide_struct Try.underlying58 (hval 0 58 v0 rfl rfl)
  have k0 := h0
  have lt0 : ∀ x ∈ p0, x.block < W.heap.size := by obtain ⟨m, hm⟩ := k0; exact DataW.trod_lt m _ _ _ hm
  obtain ⟨x0, K0, hg0⟩ := open_agg opens58 h0
  obtain ⟨A0_0, c0_0, e0, hc0_0, hr0_0⟩ := k58_open K0
  obtain rfl : cs0 = #[.slice A0_0 x0.f0.length c0_0] := by rw [← Array.toList_inj]; exact e0
  obtain ⟨cs1, rfl, hz1⟩ := okWide_struct Try.underlying61 (hval 1 61 v1 rfl rfl)
  have k1 := h1
  have lt1 : ∀ x ∈ p1, x.block < W.heap.size := by obtain ⟨m, hm⟩ := k1; exact DataW.trod_lt m _ _ _ hm
  obtain ⟨x1, K1, hg1⟩ := open_agg opens61 h1
  obtain ⟨A1_0, c1_0, e1, hc1_0, hr1_0⟩ := k61_open K1
  obtain rfl : cs1 = #[.slice A1_0 x1.f0.length c1_0, .int .i64 x1.f1] := by rw [← Array.toList_inj]; exact e1
  obtain ⟨a2, rfl, rfl, rfl, w2⟩ := open_int Try.underlying3 (hval 2 3 v2 rfl rfl) h2
  obtain ⟨a3, rfl, rfl, rfl, w3⟩ := open_int Try.underlying3 (hval 3 3 v3 rfl rfl) h3
  obtain ⟨a4, rfl, rfl, rfl, w4⟩ := open_int Try.underlying3 (hval 4 3 v4 rfl rfl) h4
  obtain ⟨A5, len5, c5, rfl⟩ := okWide_slice Try.underlying35 (hval 5 35 v5 rfl rfl)
  have k5 := h5
  have lt5 : ∀ x ∈ p5, x.block < W.heap.size := by obtain ⟨m, hm⟩ := k5; exact DataW.trod_lt m _ _ _ hm
  obtain ⟨l5, rfl, hc5, hr5, hg5⟩ := open_row opens35 h5
  clear hA0 hval0 hsz0
  refine (P x0 _ _ x1 _ _ a2 a3 a4 _ _ l5 W hg0 hc0_0 hr0_0 hg1 hc1_0 hr1_0 w2 w3 w4 hr5 hc5 hg5).mono fun e W' ⟨he, bel⟩ => ?_
  subst he
  exact ⟨_, rfl, _, _, _, [], _, [], hW', trodAll_mk1 (shut_bool Try.underlying4 _), (trodAll_cons_mk (Below.trod laidOut (by kernel_rfl) (of_decide_eq_true (by kernel_rfl)) k0 bel lt0) (trodAll_cons_mk (Below.trod laidOut (by kernel_rfl) (of_decide_eq_true (by kernel_rfl)) k1 bel lt1) (trodAll_cons_mk (shut_int Try.underlying3 w2) (trodAll_cons_mk (shut_int Try.underlying3 w3) (trodAll_cons_mk (shut_int Try.underlying3 w4) (trodAll_cons_mk (Below.trod laidOut (by kernel_rfl) (of_decide_eq_true (by kernel_rfl)) k5 bel lt5) trodAll_mk0)))))), rfl, bel.frame _, fun h => by cases h⟩
theorem over (P : Walk) : Rows.oplistIsRow.holds Try.pinned (OpenSpec.ofChange Rows.oplistIsSpec) :=
  OpenClaim.holds_of_wide 7 Try.f7 rfl rfl rfl rfl rfl rfl rfl ⟨rfl, rfl, rfl, rfl, rfl⟩ rfl rfl rfl rfl rfl (by kernel_rfl) Try.func7 (by kernel_rfl)
    (of_decide_eq_true (by kernel_rfl)) (by unfold Func.isWrapper; first | (rw [if_pos (by decide +kernel)]; kernel_rfl) | (rw [if_neg (by decide +kernel)]; exact ⟨rfl, rfl⟩))
    (fun os started H enc _ => lifted P os started H enc)
theorem said (P : Walk) : Rows.OplistIsSaid := over P
end Go.Proofs.Ytjpoepiidmoegaa.oplistIs
-- Cut to what one claim reaches, out of what the kit's print laid for this seat (wip/tools/trim.py).
/- Fields of structs of one slice. No condition. -/
namespace Go.Proofs.Ytjpoepiidmoegaa.Q
open Go.RowKit Go.Proofs.YtjpoepiidmoegaaW Go.Proofs.YtjpoepiidmoegaaW.PrintWords
set_option maxRecDepth 100000 in
theorem field26 (A : Option Addr) (n c : Nat) (w' : World) : (Sem.run Try.prog (Instr.field 26 (Value.agg #[Value.slice A n c]) 0) w') = .ok ((.slice A n c)) w' := by
  unfold Instr.field
  simp [go_sem, asAgg, Result.andThen]
set_option maxRecDepth 100000 in
theorem field58 (A : Option Addr) (n c : Nat) (w' : World) : (Sem.run Try.prog (Instr.field 58 (Value.agg #[Value.slice A n c]) 0) w') = .ok ((.slice A n c)) w' := by
  unfold Instr.field
  simp [go_sem, asAgg, Result.andThen]
end Go.Proofs.Ytjpoepiidmoegaa.Q
