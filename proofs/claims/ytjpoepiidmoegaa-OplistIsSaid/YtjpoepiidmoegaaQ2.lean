/- Several texts of one claim, one behind the other. No condition beyond what each says. -/
import Derived.Test.YtjpoepiidmoegaaQ0
import Derived.Test.YtjpoepiidmoegaaG
import Derived.RowKit
import Derived.Laws.BitsLemmas
import Derived.Laws.Entries
import Derived.Test.YtjpoepiidmoegaaYP
import Derived.Test.YtjpoepiidmoegaaQ5
namespace Go.Proofs.Ytjpoepiidmoegaa.Q
open Go.RowKit Go.Proofs.YtjpoepiidmoegaaW Go.Proofs.YtjpoepiidmoegaaW.PrintWords Go.Proofs.YtjpoepiidmoegaaW.PrintLast Go.Proofs.YtjpoepiidmoegaaW.PrintMore Go.Proofs.Ytjpoepiidmoegaa.Q
theorem opens3 : Opens Try.prog 3 (Kd.int .i64) (fun n => (Lit.int .i64 n).wf = true) := opens_int Try.underlying3
theorem opens35 : Opens Try.prog 35 (Kd.slice 3 (Kd.int .i64)) (fun l => ∀ y35 ∈ l, (Lit.int .i64 y35).wf = true) := opens_slice Try.underlying35 (by kernel_rfl) opens3
theorem opens4 : Opens Try.prog 4 Kd.bool (fun _ => True) := opens_bool Try.underlying4
def g83 (x : S83) : Prop := (Lit.int .i64 x.f0).wf = true ∧ (Lit.int .i64 x.f1).wf = true ∧ (Lit.int .i64 x.f2).wf = true ∧ True
theorem opens83 : Opens Try.prog 83 k83 g83 := opens_iso (fun x : S83 => (x.f0, x.f1, x.f2, x.f3)) (fun a => (⟨a.1, a.2.1, a.2.2.1, a.2.2.2⟩ : S83)) (fun _ => rfl) (opens_struct Try.underlying83 (by kernel_rfl) (opensFs_cons rfl (by kernel_rfl) opens3 (opensFs_cons rfl (by kernel_rfl) opens3 (opensFs_cons rfl (by kernel_rfl) opens3 (opensFs_one rfl (by kernel_rfl) opens4)))))
theorem opens37 : Opens Try.prog 37 (Kd.slice 83 k83) (fun l => ∀ y37 ∈ l, g83 y37) := opens_slice Try.underlying37 (by kernel_rfl) opens83
def g58 (x : S58) : Prop := (∀ y37 ∈ x.f0, g83 y37)
theorem opens58 : Opens Try.prog 58 k58 g58 := opens_iso (fun x : S58 => x.f0) (fun a => (⟨a⟩ : S58)) (fun _ => rfl) (opens_struct Try.underlying58 (by kernel_rfl) (opensFs_one rfl (by kernel_rfl) opens37))
def g107 (x : S107) : Prop := (Lit.int .i64 x.f0).wf = true ∧ (Lit.int .i64 x.f1).wf = true ∧ (Lit.int .i64 x.f2).wf = true ∧ (Lit.int .i64 x.f3).wf = true
theorem opens107 : Opens Try.prog 107 k107 g107 := opens_iso (fun x : S107 => (x.f0, x.f1, x.f2, x.f3)) (fun a => (⟨a.1, a.2.1, a.2.2.1, a.2.2.2⟩ : S107)) (fun _ => rfl) (opens_struct Try.underlying107 (by kernel_rfl) (opensFs_cons rfl (by kernel_rfl) opens3 (opensFs_cons rfl (by kernel_rfl) opens3 (opensFs_cons rfl (by kernel_rfl) opens3 (opensFs_one rfl (by kernel_rfl) opens3)))))
theorem opens59 : Opens Try.prog 59 (Kd.slice 107 k107) (fun l => ∀ y59 ∈ l, g107 y59) := opens_slice Try.underlying59 (by kernel_rfl) opens107
def g61 (x : S61) : Prop := (∀ y59 ∈ x.f0, g107 y59) ∧ (Lit.int .i64 x.f1).wf = true
theorem opens61 : Opens Try.prog 61 k61 g61 := opens_iso (fun x : S61 => (x.f0, x.f1)) (fun a => (⟨a.1, a.2⟩ : S61)) (fun _ => rfl) (opens_struct Try.underlying61 (by kernel_rfl) (opensFs_cons rfl (by kernel_rfl) opens59 (opensFs_one rfl (by kernel_rfl) opens3)))
end Go.Proofs.Ytjpoepiidmoegaa.Q
/- Masks of low bits, as remainders. No condition beyond the mask's form. -/
namespace Go.Proofs.YtjpoepiidmoegaaW
theorem and_low (x : Int) (n : Nat) (hn : n ≤ 62) (m : Int) (hm : m = ((2 ^ n - 1 : Nat) : Int)) : Go.bits .and .i64 x m = x % ((2 ^ n : Nat) : Int) := by
  have hp : 2 ^ n ≤ 2 ^ 62 := Nat.pow_le_pow_right (by decide) hn
  have h0 : 0 < 2 ^ n := Nat.two_pow_pos n
  have e : Go.bits .and .i64 x m = IntKind.i64.wrap (((BitVec.ofInt 64 x) &&& (BitVec.ofInt 64 m)).toNat : Int) := rfl
  have h1 : (BitVec.ofInt 64 m).toNat = 2 ^ n - 1 := by
    rw [BitVec.toNat_ofInt, hm]
    have h2 : (((2 ^ n - 1 : Nat) : Int) % ((2 ^ 64 : Nat) : Int)) = ((2 ^ n - 1 : Nat) : Int) := Int.emod_eq_of_lt (by omega) (by omega)
    rw [h2, Int.toNat_natCast]
  have h3 : (((BitVec.ofInt 64 x).toNat : Nat) : Int) = x % ((2 ^ 64 : Nat) : Int) := by
    rw [BitVec.toNat_ofInt, Int.toNat_of_nonneg (Int.emod_nonneg _ (by decide))]
  rw [e, BitVec.toNat_and, h1, Nat.and_two_pow_sub_one_eq_mod, Int.natCast_emod, h3, Int.emod_emod_of_dvd x (by
    rw [Int.natCast_dvd_natCast]; exact Nat.pow_dvd_pow 2 (by omega))]
  have h4 : 0 ≤ x % ((2 ^ n : Nat) : Int) := Int.emod_nonneg _ (by omega)
  have h5 : x % ((2 ^ n : Nat) : Int) < ((2 ^ n : Nat) : Int) := Int.emod_lt_of_pos _ (by omega)
  rw [IntKind.wrap_i64]
  omega
theorem and_4294967295 (x : Int) : Go.bits .and .i64 x 4294967295 = x % 4294967296 := and_low x 32 (by decide) _ rfl
end Go.Proofs.YtjpoepiidmoegaaW
/- What the printed functions of the list answer. No condition. -/
namespace Go.Proofs.Ytjpoepiidmoegaa.Q
open Go.RowKit Go.Proofs.YtjpoepiidmoegaaW Go.Proofs.YtjpoepiidmoegaaW.PrintWords Go.Proofs.YtjpoepiidmoegaaW.PrintLast Go.Proofs.YtjpoepiidmoegaaW.PrintMore
set_option linter.unusedVariables false
set_option linter.unusedSimpArgs false

theorem sane_val {L : List S33} (hi : ∀ x ∈ L, inE x = true) (hn : L.length < 1000000000) : oplist_Sane.f L = some (saneL L) := by
  have hall : L.all inE = true := List.all_eq_true.2 hi
  unfold oplist_Sane.f oplist_Entry_38.f oplist_List_open.f saneL
  rw [if_pos rfl, if_pos ⟨hall, hn⟩]
  have hs := openL_spec L
  have hl := openL_len L
  have hop : (opn L).length ≤ L.length := by
    rw [← hl]; unfold openL
    split
    · exact Nat.zero_le _
    · exact outL_len _ _ _
  have ea : L.any (fun x => !soundB x) = !(L.all soundB) := by
    rw [List.all_eq_not_any_not, Bool.not_not]
  simp only [Option.bind_some, ea, hs.2.1, hl]
  cases h1 : L.all soundB with
  | false => rfl
  | true =>
    cases h2 : (opE L []).isSome with
    | false => rfl
    | true =>
      have e : wrap64 ((L.length : Int) + ((opn L).length : Int)) = ((L.length + (opn L).length : Nat) : Int) := by unfold wrap64; omega
      rw [e]
      simp only [Bool.not_true, Bool.true_and, if_true, if_neg (show ¬ (false = true) by decide)]
      congr 1
      rw [decide_eq_decide]
      omega
theorem clone_val {L : List S33} (hn : L.length < 1000000000) : oplist_Entry_31.f L = some L := by
  unfold oplist_Entry_31.f; rw [if_pos (by omega)]
theorem do_ev {L : List S33} (hi : ∀ x ∈ L, inE x = true) (hn : L.length < 900000000) {a b c : Int} (ha : inE ⟨a, b, c, false⟩ = true) : Evals (fun k => oplist_Do.f k L a b c) (doL L ⟨a, b, c, false⟩) := by
  unfold oplist_Do.f doL
  have hs := sane_val hi (by omega)
  have hsn := sound_val ⟨a, b, c, false⟩
  have hi2 : ∀ x ∈ L ++ [(⟨a, b, c, false⟩ : S33)], inE x = true := fun x hx => by
    rcases List.mem_append.1 hx with hx | hx
    · exact hi x hx
    · rw [List.mem_singleton.1 hx]; exact ha
  have hs2 := sane_val hi2 (by simp; omega)
  simp only [hs, hsn, Option.bind_some]
  cases h1 : saneL L with
  | false =>
    rw [if_neg (by simp)]
    refine Evals.succ ?_
    simp only [oplist_Do.j0, if_neg (show ¬ (false = true) by decide), if_pos]
    exact Evals.const _
  | true =>
    simp only [if_pos]
    cases h2 : soundB ⟨a, b, c, false⟩ with
    | false =>
      rw [if_neg (by simp)]
      refine Evals.succ ?_
      simp only [oplist_Do.j0, Bool.not_false, if_pos]
      exact Evals.const _
    | true =>
      rw [if_pos (by simp)]
      refine Evals.succ ?_
      simp only [oplist_Do.j0, Bool.not_true, if_neg (show ¬ (false = true) by decide), clone_val (L := L) (by omega), Option.bind_some, List.length_singleton, if_pos (show L.length + 1 < 4398046511104 by omega), hs2]
      cases saneL (L ++ [(⟨a, b, c, false⟩ : S33)]) with
      | true => simp only [if_pos]; exact Evals.const _
      | false => simp only [if_neg (show ¬ (false = true) by decide)]; exact Evals.const _
theorem undo_val {L : List S33} (h : Fit L) (txs : List Int) : oplist_Undo.f L txs = some (undL L (fun x => decide (x.f0 ∈ txs))) := by
  unfold oplist_Undo.f; rw [if_pos ⟨h.all, by have := h.len; omega⟩]
theorem open_val {L : List S33} (h : Fit L) (tx : Int) : oplist_Open.f L tx = some ((opn L).filter (fun x => decide (x.f0 = tx))) := by
  unfold oplist_Open.f; rw [if_pos ⟨h.all, by have := h.len; omega⟩]

theorem awake_ev : Evals heronrylaw15_awake.f true := by
  have e1 : doL [] ⟨1, 0, 5, false⟩ = ([⟨1, 0, 5, false⟩], 0) := by decide +kernel
  have e2 : doL [⟨1, 0, 5, false⟩] ⟨1, 0, 3, false⟩ = ([⟨1, 0, 5, false⟩, ⟨1, 0, 3, false⟩], 0) := by decide +kernel
  have e3 : undL [⟨1, 0, 5, false⟩, ⟨1, 0, 3, false⟩] (fun x => decide (x.f0 ∈ ([1] : List Int))) = [⟨1, 0, 5, false⟩, ⟨1, 0, 3, false⟩, ⟨1, 0, -3, true⟩, ⟨1, 0, -5, true⟩] := by decide +kernel
  have d1 := do_ev (L := []) (a := 1) (b := 0) (c := 5) (by simp) (by decide) (by decide)
  have d2 := do_ev (L := [⟨1, 0, 5, false⟩]) (a := 1) (b := 0) (c := 3) (by simp; decide) (by decide) (by decide)
  have u := undo_val (L := [⟨1, 0, 5, false⟩, ⟨1, 0, 3, false⟩]) ⟨by simp; decide, by simp; decide, [⟨1, 0, 5, false⟩, ⟨1, 0, 3, false⟩], by decide +kernel, by decide⟩ [1]
  have s := sane_val (L := [⟨1, 0, 5, false⟩, ⟨1, 0, 3, false⟩, ⟨1, 0, -3, true⟩, ⟨1, 0, -5, true⟩]) (by simp; decide) (by decide)
  have es : saneL [⟨1, 0, 5, false⟩, ⟨1, 0, 3, false⟩, ⟨1, 0, -3, true⟩, ⟨1, 0, -5, true⟩] = true := by decide +kernel
  rw [e1] at d1
  rw [e2] at d2
  rw [e3] at u
  rw [es] at s
  show Evals (fun k => heronrylaw15_awake.f k) true
  unfold heronrylaw15_awake.f
  refine Evals.bind d1 ?_
  refine Evals.bind d2 ?_
  simp only [u, s, Option.bind_some]
  exact Evals.of fun k => by simp [rd_T33]
end Go.Proofs.Ytjpoepiidmoegaa.Q
-- Cut to what one claim reaches, out of what the kit's print laid for this seat (wip/tools/trim.py).
namespace Go.Proofs.Ytjpoepiidmoegaa.Q
open Go.RowKit Go.Proofs.YtjpoepiidmoegaaW.PrintWords Go.Proofs.YtjpoepiidmoegaaW.PrintLast Go.Proofs.YtjpoepiidmoegaaW.PrintMore
attribute [local go_sem] max2_int min2_int max_two min_two max_three min_three max_four min_four   -- for this text's walks alone
set_option linter.unusedVariables false
set_option linter.unusedSimpArgs false

theorem eqA83 (d : Nat) (w : World) (x0 y0 : Int) (x1 y1 : Int) (x2 y2 : Int) (x3 y3 : Bool) :
  (Op.equalIn (d + 2) 83 (.agg #[.int .i64 x0, .int .i64 x1, .int .i64 x2, .bool x3]) (.agg #[.int .i64 y0, .int .i64 y1, .int .i64 y2, .bool y3])).run Try.prog w = .ok (x0 == y0 && (x1 == y1 && (x2 == y2 && (x3 == y3)))) w := by
 refine eqA_of Try.underlying83 (by kernel_rfl) ?_
 refine eqf_cons (by rfl) (by go_simp; rfl) (by go_simp; rfl) (by go_simp) ?_
 refine eqf_cons (by rfl) (by go_simp; rfl) (by go_simp; rfl) (by go_simp) ?_
 refine eqf_cons (by rfl) (by go_simp; rfl) (by go_simp; rfl) (by go_simp) ?_
 exact eqf_last (by rfl) (by go_simp; rfl) (by go_simp; rfl) (by go_simp)
end Go.Proofs.Ytjpoepiidmoegaa.Q
