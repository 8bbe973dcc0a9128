/- slices.Clone at a row of flat ones. No condition. -/
import Derived.Test.YthcikbbglpdjhaaFI
import Derived.Lib.SliceRun
import Derived.Shelf.GgClosure.Gives
namespace Go.Proofs.Ythcikbbglpdjhaa.Q
open Go.RowKit Go.Proofs.YthcikbbglpdjhaaW Go.Proofs.YthcikbbglpdjhaaW.PrintWords Go.Proofs.YthcikbbglpdjhaaW.PrintLast Go.Proofs.YthcikbbglpdjhaaW.PrintMore
set_option linter.unusedVariables false
set_option linter.unusedSimpArgs false

/-! ### slices.Clone at a row of flat ones -/
def clone_gi.f (l0 : List GI) : Option (List GI) := if l0.length < 1000000000 then some l0 else none

set_option maxHeartbeats 1600000 in
theorem clone_gi.calls (A0 : Option Addr) (c0 : Nat) (l0 : List GI) (r : List GI) (w : World) (hr0 : Kd.C kGI w A0 l0.length l0) (hc0 : l0.length ≤ c0) (h : clone_gi.f l0 = some r) :
    Calls Try.prog 31 #[.slice A0 l0.length c0] w fun e w' => ∃ v0_ : Value, e = .returned v0_ ∧ Kd.R kGI 44 w' w.heap.size (fun _ => True) v0_ r ∧ Below w.heap.size w w' := by
  unfold clone_gi.f at h
  by_cases hl : l0.length < 1000000000
  case neg => rw [if_neg hl] at h; cases h
  rw [if_pos hl] at h
  obtain rfl := Option.some.inj h
  clear h
  have q24 := fun W => Lib.run_eql_slice_nil (P := Try.prog) W 24 44 A0 l0.length c0 0 0 Try.underlying24
  cases A0 with
  | none =>
    have h0 : l0 = [] := by
      have := hr0.2.2
      by_cases hp : 0 < l0.length
      · obtain ⟨a, ha, _⟩ := this hp; cases ha
      · exact List.eq_nil_of_length_eq_zero (by omega)
    subst h0
    clear hr0
    have q24 : ∀ W, (binOp .eql 24 (.slice none 0 c0) (.slice none 0 0)).run Try.prog W = .ok (.bool true) W := q24
    go_enter Try.func31, Try.ntmps31
    go_wp2
    go_ret
    exact ⟨_, rfl, Kd.R_nil _ _ _ _ _, Below.refl _ _⟩
  | some a0 =>
    have q24 : ∀ W, (binOp .eql 24 (.slice (some a0) l0.length c0) (.slice none 0 0)).run Try.prog W = .ok (.bool false) W := q24
    have HR := Aside0.mk hr0
    have HC := Aside0.mk hc0
    have HB := Aside0.mk (Below.refl w.heap.size w)
    have HL := Aside0.mk hl
    clear hr0 hc0 hl
    go_enter Try.func31, Try.ntmps31
    go_wp2_with (first | ((with_reducible refine gate_dst (N := 5) rfl ?_); refine Kd.R_lit kGI _ 44 ?hg (N := 5) ?hd (xs := ([] : List (GI))) (inner := []) (ok := fun _ => True) (okp := fun _ => True) ?hr ?hp (fun _ hk => hk) trivial (Below.refl _ _) (Nat.le_refl _) (by simp) ?_; (case hd => rfl); (case hg => rfl); (case hr => first | (go_simp; done) | (go_simp; rfl)); (case hp => exact (Reps.none _ _)); intro v1 w1 ho1 hb hg_ hnew_; clear hg_ hnew_; have HO := Aside0.mk ho1; have HB1 := Aside0.mk hb; clear hb ho1) | ((with_reducible refine gate_builtin (b := .append) (xs := #[.tmp 5, .tmp 6]) rfl ?_); at_builtin; refine Kd.R_append_rows kGI (w0 := w) w.heap.size rfl (.tmp 5) (.tmp 6) 24 44 (.agg #[.int .i64 0, .slice none 0 0]) 32 rfl Try.underlying24 info44 rfl (by decide) (by omega) v1 [] l0 _ _ _ (fun _ => True) (fun _ => False) rfl rfl ?aO ?aR (fun _ _ h => h) (fun _ h => h.elim) ?aF ?aB ?aS ?aL ?_; (case aO => exact HO.out); (case aR => exact (Kd.C_below HR.out HB1.out)); (case aF => exact (fun _ _ => trivial)); (case aB => exact HB1.out); (case aS => exact HB1.out.size); (case aL => have := HL.out; simp only [List.length_nil]; omega); intro v2 w2 ho hb hg hat; rw [List.nil_append] at ho; have HO2 := Aside0.mk ho; have HB2 := Aside0.mk hb; clear ho hb hg hat))
    go_ret
    exact ⟨_, rfl, HO2.out, HB2.out⟩
end Go.Proofs.Ythcikbbglpdjhaa.Q
