/- The reader: take, Get, Left, End. No condition. -/
import Derived.Test.YthcikbbglpdjhaaQ0
namespace Go.Proofs.Ythcikbbglpdjhaa.Q
open Go.RowKit Go.Proofs.YthcikbbglpdjhaaW Go.Proofs.YthcikbbglpdjhaaW.PrintWords Go.Proofs.YthcikbbglpdjhaaW.PrintLast Go.Proofs.YthcikbbglpdjhaaW.PrintMore
set_option linter.unusedVariables false
set_option linter.unusedSimpArgs false
abbrev KU := Kd.int .u8
/-- The reader in block g has the bytes l left; they came in by w0. -/
def Rd (w0 W : World) (g : Nat) (l : List Int) : Prop := ∃ A c, W.heap[g]? = some (.cells #[.slice A l.length c] 89 (0, 0)) ∧ w0.heap.size ≤ g ∧ l.length ≤ c ∧ Kd.C KU w0 A l.length l
theorem take_short (w0 W : World) (g : Nat) (l : List Int) (k : Int) (h : Rd w0 W g l) (hk : (l.length : Int) < k) :
    Calls Try.prog 61 #[.pointer (some ⟨g, 0, none⟩), .int .i64 k] W fun e w' => e = .returned (.tuple #[.slice none 0 0, .bool false]) ∧ w' = W := by
  obtain ⟨A, c, hb, _, _, _⟩ := h
  have c0 : W.cell? ⟨g, 0, none⟩ = some (.slice A l.length c) := (blk_cell hb 0).trans rfl
  have hu := Try.underlying87
  obtain ⟨n, hn⟩ : ∃ n, l.length = n := ⟨_, rfl⟩
  rw [hn] at c0 hk
  have q1 : ((n : Int) < k) = True := eq_true hk
  clear hb hn
  go_enter Try.func61, Try.ntmps61
  go_wp2
  go_ret2
  exact ⟨rfl, rfl⟩
set_option maxRecDepth 100000 in
theorem take_ok (w0 W : World) (g : Nat) (l : List Int) (k : Nat) (h : Rd w0 W g l) (hk : k ≤ l.length) :
    Calls Try.prog 61 #[.pointer (some ⟨g, 0, none⟩), .int .i64 (k : Int)] W fun e w' => ∃ A c, e = .returned (.tuple #[.slice A k c, .bool true]) ∧ Kd.C KU w0 A k (l.take k) ∧ k ≤ c ∧ Rd w0 w' g (l.drop k) ∧ ∃ u, w' = W.setCell ⟨g, 0, none⟩ u := by
  obtain ⟨A, c, hb, hg, hc, hC⟩ := h
  have c0 : W.cell? ⟨g, 0, none⟩ = some (.slice A l.length c) := (blk_cell hb 0).trans rfl
  have f0 := blk_frozen hb 0
  have hu := Try.underlying87
  have hu22 := Try.underlying22
  obtain ⟨n, hn⟩ : ∃ n, l.length = n := ⟨_, rfl⟩
  rw [hn] at c0 hk hc
  have q1 : ((n : Int) < (k : Int)) = False := eq_false (by omega)
  have q2 : (0 ≤ (k : Int)) = True := eq_true (by omega)
  have q3 : ((k : Int) ≤ (c : Int)) = True := eq_true (by omega)
  have q4 : ((k : Int) ≤ (n : Int)) = True := eq_true (by omega)
  have q5 : ((n : Int) ≤ (c : Int)) = True := eq_true (by omega)
  have HB := Aside0.mk hb
  have HN := Aside0.mk hn
  clear hb hn
  go_enter Try.func61, Try.ntmps61
  go_upto_region 5 with (fail)
  clear q1 q2 q3 q4 q5 f0 c0
  obtain ⟨A', hA'⟩ : ∃ A', (if c = k then A else Option.map (fun x => x.add k) A) = A' := ⟨_, rfl⟩
  rw [hA']
  have HA := Aside0.mk hA'
  clear hA'
  go_wp2
  go_ret2
  have hn := HN.out
  have hb := HB.out
  rw [hn] at hb
  have ht := Kd.C_take hC (m := k) (by omega)
  have hd := Kd.C_drop hC (m := k) (c := c) (by omega) (by omega)
  rw [show (l.take k).length = k by rw [List.length_take]; omega] at ht
  have hl2 : (l.drop k).length = n - k := by rw [List.length_drop, hn]
  have e1 : k * KU.sz = k := Nat.mul_one k
  rw [e1] at hd
  have hA := HA.out
  refine ⟨A, c, rfl, ht, by omega, ⟨A', c - k, ?_, hg, by rw [hl2]; omega, by rw [← hA]; exact hd⟩, _, rfl⟩
  have := blk_set hb 0 (.slice A' (n - k) (c - k))
  rw [hl2]
  simpa using this
theorem Rd.later {w0 W W' : World} {g : Nat} {l : List Int} (h : Rd w0 W g l) (hs : W'.heap[g]? = W.heap[g]?) : Rd w0 W' g l := by
  obtain ⟨A, c, hb, h2, h3, h4⟩ := h
  exact ⟨A, c, hs.trans hb, h2, h3, h4⟩
theorem left_ok (w0 W : World) (g : Nat) (l : List Int) (h : Rd w0 W g l) : Calls Try.prog 58 #[.pointer (some ⟨g, 0, none⟩)] W fun e w' => e = .returned (.int .i64 (l.length : Int)) ∧ w' = W := by
  obtain ⟨A, c, hb, _, _, _⟩ := h
  have c0 : W.cell? ⟨g, 0, none⟩ = some (.slice A l.length c) := (blk_cell hb 0).trans rfl
  have hu := Try.underlying87
  have hu2 := Try.underlying89
  generalize l.length = n at *
  clear hb
  go_enter Try.func58, Try.ntmps58
  go_wp2
  go_ret
  exact ⟨rfl, rfl⟩
theorem end_ok (w0 W : World) (g : Nat) (l : List Int) (h : Rd w0 W g l) : Calls Try.prog 49 #[.pointer (some ⟨g, 0, none⟩)] W fun e w' => e = .returned (.int .i64 (if l = [] then 0 else 3)) ∧ w' = W := by
  have hcall := Aside0.mk (left_ok w0 W g l h)
  cases l with
  | nil =>
    go_enter Try.func49, Try.ntmps49
    go_wp2_with (go_at_call 58; refine hcall.out.mono ?_; rintro e w4 ⟨rfl, rfl⟩; clear hcall)
    go_ret
    exact ⟨rfl, rfl⟩
  | cons x l =>
    have q1 : (0 < (x :: l).length) = True := eq_true (by rw [List.length_cons]; omega)
    rw [if_neg (by simp)]
    generalize (x :: l).length = n at *
    go_enter Try.func49, Try.ntmps49
    go_wp2_with (go_at_call 58; refine hcall.out.mono ?_; rintro e w4 ⟨rfl, rfl⟩; clear hcall)
    go_ret
    exact ⟨rfl, rfl⟩
end Go.Proofs.Ythcikbbglpdjhaa.Q
