import Derived.Test.YthhhfoogfnnooaaRows
import Derived.Test.YthhhfoogfnnooaaF0
import Derived.WalkKit
import Derived.ProofKit
import Derived.OpenShut
import Derived.ShutString
import Derived.ChangeOld
import Derived.Below
import Derived.SizedLaws
namespace Go.Proofs.Ythhhfoogfnnooaa.spanRoom
open Go.ChangeShapes Go.WideShapes Go.ChangeAt
open Go.RowKit Go.Proofs.YthhhfoogfnnooaaW Go.Proofs.YthhhfoogfnnooaaW.PrintWords Go.Proofs.YthhhfoogfnnooaaW.PrintLast Go.Proofs.YthhhfoogfnnooaaW.PrintMore Go.Proofs.Ythhhfoogfnnooaa.Q
set_option linter.unusedVariables false
/-- What is owed: the law's call, at every reading of its arguments, returns true and leaves all as it was. -/
def Walk : Prop := ∀ (x0 : S23) (a1 : Int) (A2 : Option Addr) (c2 : Nat) (l2 : List Int) (w : World), g23 x0 → (Lit.int .i64 a1).wf = true → Kd.C (Kd.int .i64) w A2 l2.length l2 → l2.length ≤ c2 → (∀ x ∈ l2, (Lit.int .i64 x).wf = true) → Calls Try.prog 8 #[.agg #[.int .i64 x0.f0, .int .i64 x0.f1], .int .i64 a1, .slice A2 l2.length c2] w fun e w' => e = .returned (.bool true) ∧ Below w.heap.size w w'
theorem own : ownKnob Try.prog.godebug = none := by kernel_rfl
theorem laidOut : laidOutB Try.prog = true := by kernel_rfl
set_option maxRecDepth 100000 in
theorem lifted (P : Walk) (os : Os) (started : os.Started) (H : Type) (enc : TypeId × Value → H) :
    ReturnsInHanded {} Try.checked os 8 .any (Rows.spanRoomSpec.pre6 enc Try.prog Try.f8 Rows.spanRoomRow.domain false) (Rows.spanRoomSpec.post enc Try.prog Try.f8 false true false false) := by
  refine returnsInHanded_of_change_sized (C := Try.checked) own started (by kernel_rfl) Try.func8
    (ChangeSpec.witness6 (enc := enc) (C := Try.checked) false ⟨#[], #[.agg #[.int .i64 0, .int .i64 0], .int .i64 0, .slice none 0 0], []⟩ 8 (by kernel_rfl) (by kernel_rfl) (by kernel_rfl) (by kernel_rfl)) ?_
  intro W base args ds gs before hval0 hW hcnd hsz0 _
  have hval : ∀ (j : Nat) t v, Try.f8.params[j]? = some t → args[j]? = some v → Value.okWide Try.prog W .any base t v := hval0
  have hW' := hW
  obtain ⟨p, q, hA0, hV, rfl, hfz, hnd⟩ := hW
  have hA : DataW.TrodAll enc Try.prog W 0 (fun _ => true) true Try.f8.params.toList args.toList ds p := hA0
  rw [Try.params8] at hA hval
  obtain ⟨v0, vs0, d0, ds0, p0, q0, hargs, rfl, rfl, h0, r0⟩ := trodAll_cons hA
  obtain ⟨v1, vs1, d1, ds1, p1, q1, rfl, rfl, rfl, h1, r1⟩ := trodAll_cons r0
  obtain ⟨v2, vs2, d2, ds2, p2, q2, rfl, rfl, rfl, h2, r2⟩ := trodAll_cons r1
  obtain ⟨rfl, rfl, rfl⟩ := trodAll_nil r2
  obtain rfl : args = #[v0, v1, v2] := by cases args; simp_all
  obtain ⟨rfl, rfl⟩ := trodVars_none hV
  obtain ⟨cs0, rfl, hz0⟩ := okWide_struct Try.underlying23 (hval 0 23 v0 rfl rfl)
  have k0 := h0
  have lt0 : ∀ x ∈ p0, x.block < W.heap.size := by obtain ⟨m, hm⟩ := k0; exact DataW.trod_lt m _ _ _ hm
  obtain ⟨x0, K0, hg0⟩ := open_agg opens23 h0
  have e0 := k23_open K0
  obtain rfl : cs0 = #[.int .i64 x0.f0, .int .i64 x0.f1] := by rw [← Array.toList_inj]; exact e0
  obtain ⟨a1, rfl, rfl, rfl, w1⟩ := open_int Try.underlying3 (hval 1 3 v1 rfl rfl) h1
  obtain ⟨A2, len2, c2, rfl⟩ := okWide_slice Try.underlying24 (hval 2 24 v2 rfl rfl)
  have k2 := h2
  have lt2 : ∀ x ∈ p2, x.block < W.heap.size := by obtain ⟨m, hm⟩ := k2; exact DataW.trod_lt m _ _ _ hm
  obtain ⟨l2, rfl, hc2, hr2, hg2⟩ := open_row opens24 h2
  clear hA0 hval0 hsz0
  refine (P x0 a1 _ _ l2 W hg0 w1 hr2 hc2 hg2).mono fun e W' ⟨he, bel⟩ => ?_
  subst he
  exact ⟨_, rfl, _, _, _, [], _, [], hW', trodAll_mk1 (shut_bool Try.underlying4 _), (trodAll_cons_mk (Below.trod laidOut (by kernel_rfl) (of_decide_eq_true (by kernel_rfl)) k0 bel lt0) (trodAll_cons_mk (shut_int Try.underlying3 w1) (trodAll_cons_mk (Below.trod laidOut (by kernel_rfl) (of_decide_eq_true (by kernel_rfl)) k2 bel lt2) trodAll_mk0))), rfl, bel.frame _, fun h => by cases h⟩
theorem over (P : Walk) : Rows.spanRoomRow.holds Try.pinned (OpenSpec.ofChange Rows.spanRoomSpec) :=
  OpenClaim.holds_of_wide 8 Try.f8 rfl rfl rfl rfl rfl rfl rfl ⟨rfl, rfl, rfl, rfl, rfl⟩ rfl rfl rfl rfl rfl (by kernel_rfl) Try.func8 (by kernel_rfl)
    (of_decide_eq_true (by kernel_rfl)) (by unfold Func.isWrapper; first | (rw [if_pos (by decide +kernel)]; kernel_rfl) | (rw [if_neg (by decide +kernel)]; exact ⟨rfl, rfl⟩))
    (fun os started H enc _ => lifted P os started H enc)
theorem said (P : Walk) : Rows.SpanRoomSaid := over P
end Go.Proofs.Ythhhfoogfnnooaa.spanRoom
