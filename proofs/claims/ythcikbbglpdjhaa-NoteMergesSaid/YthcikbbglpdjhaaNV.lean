/- The number that bytes tell. No condition. -/
import Derived.Test.YthcikbbglpdjhaaEV
namespace Go.Proofs.Ythcikbbglpdjhaa.Q
open Go.RowKit Go.Proofs.YthcikbbglpdjhaaW Go.Proofs.YthcikbbglpdjhaaW.PrintWords Go.Proofs.YthcikbbglpdjhaaW.PrintLast Go.Proofs.YthcikbbglpdjhaaW.PrintMore
set_option linter.unusedVariables false
set_option linter.unusedSimpArgs false
/-- The lowest first. -/
def leN : List Int → Int
  | [] => 0
  | x :: r => x + 256 * leN r
def byteB (x : Int) : Prop := 0 ≤ x ∧ x < 256
theorem leN_bound : ∀ l : List Int, (∀ x ∈ l, byteB x) → 0 ≤ leN l ∧ leN l < (256 : Int) ^ l.length
  | [], _ => by simp [leN]
  | x :: r, h => by
    have ih := leN_bound r (fun y hy => h y (List.mem_cons_of_mem _ hy))
    have hx := h x List.mem_cons_self
    unfold byteB at hx
    show 0 ≤ x + 256 * leN r ∧ x + 256 * leN r < 256 ^ (r.length + 1)
    rw [Int.pow_succ]
    omega
theorem or_byte (v b : Nat) (hv : v < 2 ^ 56) (hb : b < 256) : Go.bits .or .u64 (((v * 256 : Nat) : Int)) (b : Int) = ((v * 256 + b : Nat) : Int) := by
  have e : Go.bits .or .u64 (((v * 256 : Nat) : Int)) (b : Int) = IntKind.u64.wrap (((BitVec.ofInt 64 ((v * 256 : Nat) : Int)) ||| (BitVec.ofInt 64 (b : Int))).toNat : Int) := rfl
  rw [e, BitVec.ofInt_natCast, BitVec.ofInt_natCast, BitVec.toNat_or, BitVec.toNat_ofNat, BitVec.toNat_ofNat, Nat.mod_eq_of_lt (by omega), Nat.mod_eq_of_lt (by omega)]
  have h2 : v * 256 ||| b = v * 256 + b := by
    have := Nat.shiftLeft_add_eq_or_of_lt (i := 8) (b := b) (by omega) v
    rw [Nat.shiftLeft_eq] at this
    exact this.symm
  rw [h2, IntKind.wrap_u64]
  omega
theorem p256 : ∀ m : Nat, m < 8 → (256 : Int) ^ m ≤ 256 ^ 7 := by decide
theorem num_go (l : List Int) (hb : ∀ x ∈ l, byteB x) (hl : l.length ≤ 8) : ∀ i : Nat, i ≤ l.length → Evals (fun k => wire_number.l0 k l (leN (l.drop i)) ((i : Int) - 1)) (leN l)
  | 0, _ => by
    refine Evals.succ (Evals.of (fun k => ?_))
    rw [wire_number.l0, if_neg (by omega)]
    rfl
  | i + 1, hi => by
    have ih := num_go l hb hl i (by omega)
    have hil : i < l.length := by omega
    have hd : l.drop i = l[i] :: l.drop (i + 1) := List.drop_eq_getElem_cons hil
    have hx := hb _ (List.getElem_mem hil)
    have hbd := leN_bound (l.drop (i + 1)) (fun x hx => hb x (List.mem_of_mem_drop hx))
    have hp : (256 : Int) ^ (l.drop (i + 1)).length ≤ 256 ^ 7 := by
      rw [List.length_drop]
      exact p256 _ (by omega)
    have h7 : (256 : Int) ^ 7 = 72057594037927936 := by decide
    obtain ⟨v, hv⟩ : ∃ v : Nat, leN (l.drop (i + 1)) = (v : Int) := ⟨(leN (l.drop (i + 1))).toNat, by omega⟩
    obtain ⟨b, hbb⟩ : ∃ b : Nat, l[i] = (b : Int) := ⟨(l[i]).toNat, by have := hx.1; omega⟩
    have hb2 : b < 256 := by have := hx.2; omega
    have hv2 : v < 72057594037927936 := by omega
    refine Evals.succ (Evals.congr (fun k => ?_) ih)
    rw [wire_number.l0, if_pos (by omega), if_pos (by omega), if_pos (by omega)]
    have e0 : ((i + 1 : Nat) : Int) - 1 = (i : Int) := by omega
    have e1 : rd l (((i + 1 : Nat) : Int) - 1) = (b : Int) := by
      rw [e0]; unfold rd; rw [Int.toNat_natCast, List.getD_eq_getElem?_getD, List.getElem?_eq_getElem hil, Option.getD_some, hbb]
    have e2 : wrap64 (((i + 1 : Nat) : Int) - 1 - 1) = (i : Int) - 1 := by rw [e0]; exact w64_of (by omega) (by omega)
    have e3 : IntKind.u64.wrap ((v : Int) * 256) = ((v * 256 : Nat) : Int) := by rw [IntKind.wrap_u64]; omega
    have e4 : IntKind.u64.wrap (b : Int) = (b : Int) := by rw [IntKind.wrap_u64]; omega
    rw [e1, e2, hv, e3, e4, or_byte v b (by omega) hb2]
    have e5 : leN (l.drop i) = ((v * 256 + b : Nat) : Int) := by
      rw [hd]
      show l[i] + 256 * leN (l.drop (i + 1)) = _
      rw [hv, hbb]; omega
    rw [e5]
theorem number_ok (A : Option Addr) (c : Nat) (l : List Int) (w : World) (hC : Kd.C (Kd.int .u8) w A l.length l) (hc : l.length ≤ c) (hb : ∀ x ∈ l, byteB x) (hl : l.length ≤ 8) :
    Calls Try.prog 62 #[.slice A l.length c] w fun e w' => e = .returned (.int .u64 (leN l)) ∧ Drawn0 w w' := by
  have hev : Evals (fun k => wire_number.f k l) (leN l) := by
    unfold wire_number.f
    have := num_go l hb hl l.length (Nat.le_refl _)
    rw [List.drop_length] at this
    have e : wrap64 ((l.length : Int) - 1) = (l.length : Int) - 1 := w64_of (by omega) (by omega)
    rw [e]
    exact this
  obtain ⟨k, hk⟩ := hev.get
  refine (wire_number.calls k A c l (leN l) w hC hc hk).mono ?_
  rintro e w' ⟨rfl, hd⟩
  exact ⟨rfl, hd⟩
end Go.Proofs.Ythcikbbglpdjhaa.Q
