import Derived.Test.YtjbdlgjhnldfbaaRows
import Derived.Test.YtjbdlgjhnldfbaaF0
import Derived.WalkKit
import Derived.ProofKit
import Derived.OpenShut
import Derived.ShutString
import Derived.ChangeOld
import Derived.Below
import Derived.SizedLaws
namespace Go.Proofs.Ytjbdlgjhnldfbaa.schedPicks
open Go.ChangeShapes Go.WideShapes Go.ChangeAt
open Go.RowKit Go.Proofs.YtjbdlgjhnldfbaaW Go.Proofs.YtjbdlgjhnldfbaaW.PrintWords Go.Proofs.YtjbdlgjhnldfbaaW.PrintLast Go.Proofs.YtjbdlgjhnldfbaaW.PrintMore Go.Proofs.Ytjbdlgjhnldfbaa.Q
set_option linter.unusedVariables false
/-- What is owed: the law's call, at every reading of its arguments, returns true and leaves all as it was. -/
def Walk : Prop := ∀ (x0 : S39) (A0_0 : Option Addr) (c0_0 : Nat) (A1 : Option Addr) (c1 : Nat) (l1 : List Int) (w : World), g39 x0 → x0.f0.length ≤ c0_0 → Kd.C k43 w A0_0 x0.f0.length x0.f0 → Kd.C (Kd.int .i64) w A1 l1.length l1 → l1.length ≤ c1 → (∀ y27 ∈ l1, (Lit.int .i64 y27).wf = true) → Calls Try.prog 4 #[.agg #[.slice A0_0 x0.f0.length c0_0, .int .i64 x0.f1], .slice A1 l1.length c1] w fun e w' => e = .returned (.bool true) ∧ Below w.heap.size w w'
theorem own : ownKnob Try.prog.godebug = none := by kernel_rfl
theorem laidOut : laidOutB Try.prog = true := by kernel_rfl
set_option maxRecDepth 100000 in
theorem lifted (P : Walk) (os : Os) (started : os.Started) (H : Type) (enc : TypeId × Value → H) :
    ReturnsInHanded {} Try.checked os 4 .any (Rows.schedPicksSpec.pre6 enc Try.prog Try.f4 Rows.schedPicksRow.domain false) (Rows.schedPicksSpec.post enc Try.prog Try.f4 false true false false) := by
  refine returnsInHanded_of_change_sized (C := Try.checked) own started (by kernel_rfl) Try.func4
    (ChangeSpec.witness6 (enc := enc) (C := Try.checked) false ⟨#[], #[.agg #[.slice none 0 0, .int .i64 0], .slice none 0 0], []⟩ 8 (by kernel_rfl) (by kernel_rfl) (by kernel_rfl) (by kernel_rfl)) ?_
  intro W base args ds gs before hval0 hW hcnd hsz0 _
  have hval : ∀ (j : Nat) t v, Try.f4.params[j]? = some t → args[j]? = some v → Value.okWide Try.prog W .any base t v := hval0
  have hW' := hW
  obtain ⟨p, q, hA0, hV, rfl, hfz, hnd⟩ := hW
  have hA : DataW.TrodAll enc Try.prog W 0 (fun _ => true) true Try.f4.params.toList args.toList ds p := hA0
  rw [Try.params4] at hA hval
  obtain ⟨v0, vs0, d0, ds0, p0, q0, hargs, rfl, rfl, h0, r0⟩ := trodAll_cons hA
  obtain ⟨v1, vs1, d1, ds1, p1, q1, rfl, rfl, rfl, h1, r1⟩ := trodAll_cons r0
  obtain ⟨rfl, rfl, rfl⟩ := trodAll_nil r1
  obtain rfl : args = #[v0, v1] := by cases args; simp_all
  obtain ⟨rfl, rfl⟩ := trodVars_none hV
  obtain ⟨cs0, rfl, hz0⟩ := okWide_struct Try.underlying39 (hval 0 39 v0 rfl rfl)
  have k0 := h0
  have lt0 : ∀ x ∈ p0, x.block < W.heap.size := by obtain ⟨m, hm⟩ := k0; exact DataW.trod_lt m _ _ _ hm
  obtain ⟨x0, K0, hg0⟩ := open_agg opens39 h0
  obtain ⟨A0_0, c0_0, e0, hc0_0, hr0_0⟩ := k39_open K0
  obtain rfl : cs0 = #[.slice A0_0 x0.f0.length c0_0, .int .i64 x0.f1] := by rw [← Array.toList_inj]; exact e0
  obtain ⟨A1, len1, c1, rfl⟩ := okWide_slice Try.underlying27 (hval 1 27 v1 rfl rfl)
  have k1 := h1
  have lt1 : ∀ x ∈ p1, x.block < W.heap.size := by obtain ⟨m, hm⟩ := k1; exact DataW.trod_lt m _ _ _ hm
  obtain ⟨l1, rfl, hc1, hr1, hg1⟩ := open_row opens27 h1
  clear hA0 hval0 hsz0
  refine (P x0 _ _ _ _ l1 W hg0 hc0_0 hr0_0 hr1 hc1 hg1).mono fun e W' ⟨he, bel⟩ => ?_
  subst he
  exact ⟨_, rfl, _, _, _, [], _, [], hW', trodAll_mk1 (shut_bool Try.underlying4 _), (trodAll_cons_mk (Below.trod laidOut (by kernel_rfl) (of_decide_eq_true (by kernel_rfl)) k0 bel lt0) (trodAll_cons_mk (Below.trod laidOut (by kernel_rfl) (of_decide_eq_true (by kernel_rfl)) k1 bel lt1) trodAll_mk0)), rfl, bel.frame _, fun h => by cases h⟩
theorem over (P : Walk) : Rows.schedPicksRow.holds Try.pinned (OpenSpec.ofChange Rows.schedPicksSpec) :=
  OpenClaim.holds_of_wide 4 Try.f4 rfl rfl rfl rfl rfl rfl rfl ⟨rfl, rfl, rfl, rfl, rfl⟩ rfl rfl rfl rfl rfl (by kernel_rfl) Try.func4 (by kernel_rfl)
    (of_decide_eq_true (by kernel_rfl)) (by unfold Func.isWrapper; first | (rw [if_pos (by decide +kernel)]; kernel_rfl) | (rw [if_neg (by decide +kernel)]; exact ⟨rfl, rfl⟩))
    (fun os started H enc _ => lifted P os started H enc)
theorem said (P : Walk) : Rows.SchedPicksSaid := over P
end Go.Proofs.Ytjbdlgjhnldfbaa.schedPicks
