/- wire.New; Decode out of what the note's reader does. No condition. -/
import Derived.Test.YthcikbbglpdjhaaRC
namespace Go.Proofs.Ythcikbbglpdjhaa.Q
open Go.RowKit Go.Proofs.YthcikbbglpdjhaaW Go.Proofs.YthcikbbglpdjhaaW.PrintWords Go.Proofs.YthcikbbglpdjhaaW.PrintLast Go.Proofs.YthcikbbglpdjhaaW.PrintMore
set_option linter.unusedVariables false
set_option linter.unusedSimpArgs false
theorem new_ok (w0 W : World) (A : Option Addr) (c : Nat) (l : List Int) (hC : Kd.C KU w0 A l.length l) (hc : l.length ≤ c) (hB : Below w0.heap.size w0 W) :
    Calls Try.prog 25 #[.slice A l.length c] W fun e w' => e = .returned (.pointer (some ⟨W.heap.size, 0, none⟩)) ∧ w' = W.alloc (.cells #[.slice A l.length c] 89) := by
  generalize l.length = n at *
  clear hC hc hB
  have hu := Try.underlying87
  have hu2 := Try.underlying89
  go_enter Try.func25, Try.ntmps25
  go_wp2
  go_ret
  exact ⟨rfl, rfl⟩
/-- What the note's reader does. -/
def RNote (base : Nat) (W : World) (g : Nat) (r : Except Int (Int × Int × List S44 × List S46)) (e : Ending) (w' : World) : Prop :=
  match r with
  | .ok (k, s, im, os) => ∃ v2 v3, e = .returned (.agg #[.int .i64 k, .int .i64 s, v2, v3]) ∧ Kd.S k44 44 w' base (fun _ => True) v2 im ∧ Kd.R k46 46 w' base (fun _ => True) v3 os ∧ W.grownBy w' (some g)
  | .error n => e = .panicked (stopped n) ∧ W.grownBy w' (some g)
def Noted (w0 : World) (l : List Int) (pn : Except Int (Int × Int × List S44 × List S46)) : Prop := ∀ (W : World) (g : Nat), Rdy w0 W g l → Calls Try.prog 26 #[.agg #[.pointer (some ⟨g, 0, none⟩)]] W fun e w' => RNote w0.heap.size W g pn e w'
set_option maxRecDepth 100000 in
set_option maxHeartbeats 1600000 in
theorem decode_bad (w : World) (A : Option Addr) (c : Nat) (l : List Int) (hC : Kd.C KU w A l.length l) (hc : l.length ≤ c) (hb : ∀ x ∈ l, byteB x) (n : Int) (hn : Noted w l (.error n)) :
    Calls Try.prog 10 #[.slice A l.length c] w fun e w' => e = .returned (.tuple #[.agg #[.int .i64 0, .int .i64 0, .slice none 0 0, .slice none 0 0], .int .i64 n]) ∧ Below w.heap.size w w' := by
  have hmf : ∀ (fn : Fn) (first cap : Array Value) (w : World), (Instr.makeFunc fn first cap).run Try.prog w = .ok (.func fn first cap) w := fun _ _ _ _ => rfl
  have HC := Aside0.mk hC
  have HCC := Aside0.mk hc
  have HBY := Aside0.mk hb
  have HN := Aside0.mk hn
  have hu := Try.underlying61
  clear hC hc hb hn
  go_enter_defers Try.func10, Try.ntmps10
  go_upto_region 2 with (fail)
  obtain ⟨W2, hW2⟩ : ∃ W2, (w.alloc (.cells #[.int .i64 0, .int .i64 0, .slice none 0 0, .slice none 0 0] 27)).alloc (.cells #[.int .i64 0] 28) = W2 := ⟨_, rfl⟩
  have h2 : W2.heap[w.heap.size]? = some (.cells #[.int .i64 0, .int .i64 0, .slice none 0 0, .slice none 0 0] 27 (0, 0)) := by rw [← hW2]; simpa using blk_alloc (blk_new w (.cells #[.int .i64 0, .int .i64 0, .slice none 0 0, .slice none 0 0] 27)) (.cells #[.int .i64 0] 28)
  have h3 : W2.heap[w.heap.size + 1]? = some (.cells #[.int .i64 0] 28 (0, 0)) := by rw [← hW2]; simpa using blk_new (w.alloc (.cells #[.int .i64 0, .int .i64 0, .slice none 0 0, .slice none 0 0] 27)) (.cells #[.int .i64 0] 28)
  have hbW : Below w.heap.size w W2 := by rw [← hW2]; exact ((Below.refl _ _).alloc (Nat.le_refl _) _).alloc (by simp) _
  rw [hW2]
  clear hW2
  have hnew := new_ok w W2 A c l HC.out HCC.out hbW
  have hb3 : Below W2.heap.size W2 (W2.alloc (.cells #[.slice A l.length c] 89)) := (Below.refl _ _).alloc (Nat.le_refl _) _
  have hrd : Rdy w (W2.alloc (.cells #[.slice A l.length c] 89)) W2.heap.size l := ⟨⟨A, c, by simpa using blk_new W2 (.cells #[.slice A l.length c] 89), hbW.size, HCC.out, HC.out⟩, hbW.trans (hb3.mono hbW.size), HBY.out⟩
  have hnote := HN.out _ _ hrd
  have i2 := blk_below h2 hb3
  have i3 := blk_below h3 hb3
  have hlt2 := blk_lt h2
  have hlt3 := blk_lt h3
  have hbW3 := hbW.trans (hb3.mono hbW.size)
  obtain ⟨b2, hb2⟩ : ∃ b2, w.heap.size = b2 := ⟨_, rfl⟩
  have HBS := Aside0.mk hb2
  obtain ⟨g, hg⟩ : ∃ g, W2.heap.size = g := ⟨_, rfl⟩
  obtain ⟨W3, hW3⟩ : ∃ W3, W2.alloc (.cells #[.slice A l.length c] 89) = W3 := ⟨_, rfl⟩
  have HW3 := Aside0.mk hbW3
  rw [hg, hW3] at hnew hnote
  rw [hW3] at i2 i3 HW3
  rw [hb2] at i2 i3 hlt2 hlt3 ⊢
  rw [hg] at hlt2 hlt3
  have HNEW := Aside0.mk hnew
  have HNOTE := Aside0.mk hnote
  have I2 := Aside0.mk i2
  have I3 := Aside0.mk i3
  clear h2 h3 hbW hnew hb3 hrd hnote i2 i3 hbW3 hW3 hg hb2 HN
  generalize l.length = ln at *
  go_wp2_with (first | (go_at_call 25; refine HNEW.out.mono ?_; rintro e w3 ⟨rfl, rfl⟩; clear HNEW) | (go_at_call 26; refine HNOTE.out.mono ?_; rintro e w4 ⟨rfl, hg4⟩; have HG4 := Aside0.mk hg4; clear HNOTE hg4))
  have j2 := blk_grown I2.out HG4.out (fun e => by injection e with e; omega)
  have j3 := blk_grown I3.out HG4.out (fun e => by injection e with e; omega)
  have hbw4 : Below w.heap.size w w4 := HW3.out.grown HG4.out HW3.out.size (fun k hk => by injection hk with hk; have := HBS.out; omega)
  refine leaves_cons (f := 24) (args := #[.pointer (some ⟨b2, 0, none⟩), .pointer (some ⟨b2 + 1, 0, none⟩)]) (by simp) (by simp [go_sem]) ?_
  refine (cl_pan b2 (b2 + 1) n 0 0 _ _ 0 w4 j2 j3 (by omega)).mono ?_
  rintro e u' w5 ⟨rfl, rfl, k2, k3, ho, ht, hout, hsz, hfar⟩
  have hs : settle (.panicking (stopped' n)) = .returning := rfl
  simp only [hs]
  have d0 : w5.cell? ⟨b2, 0, none⟩ = some (.int .i64 0) := (blk_cell k2 0).trans rfl
  have d1 : w5.cell? ⟨b2, 1, none⟩ = some (.int .i64 0) := (blk_cell k2 1).trans rfl
  have d2 : w5.cell? ⟨b2, 2, none⟩ = some (.slice none 0 0) := (blk_cell k2 2).trans rfl
  have d3 : w5.cell? ⟨b2, 3, none⟩ = some (.slice none 0 0) := (blk_cell k2 3).trans rfl
  have d4 : w5.cell? ⟨b2 + 1, 0, none⟩ = some (.int .i64 n) := (blk_cell k3 0).trans rfl
  have hbw5 : Below w.heap.size w w5 := ⟨ho.trans hbw4.os, ht.trans hbw4.tape, hout.trans hbw4.output, Nat.le_trans hbw4.size hsz, fun k hk => (hfar k (by have := hbw4.size; omega) (by have := HBS.out; omega) (by have := HBS.out; omega)).trans (hbw4.block k hk)⟩
  have hf : Try.f10.results = #[.cell 2 27, .cell 3 28] := rfl
  refine ⟨.tuple #[.agg #[.int .i64 0, .int .i64 0, .slice none 0 0, .slice none 0 0], .int .i64 n], ?_, rfl, hbw5⟩
  unfold results
  rw [hf]
  go_simp
  try rfl
theorem put4c {W : World} {b t : Nat} {a0 a1 a2 a3 : Value} (x0 x1 x2 x3 : Value) (h : W.heap[b]? = some (.cells #[a0, a1, a2, a3] t (0, 0))) :
    W.cell? ⟨b, 0, none⟩ = some a0 ∧ W.frozen? ⟨b, 0, none⟩ = false ∧ (W.setCell ⟨b, 0, none⟩ x0).cell? ⟨b, 1, none⟩ = some a1 ∧ (W.setCell ⟨b, 0, none⟩ x0).frozen? ⟨b, 1, none⟩ = false ∧
    ((W.setCell ⟨b, 0, none⟩ x0).setCell ⟨b, 1, none⟩ x1).cell? ⟨b, 2, none⟩ = some a2 ∧ ((W.setCell ⟨b, 0, none⟩ x0).setCell ⟨b, 1, none⟩ x1).frozen? ⟨b, 2, none⟩ = false ∧
    (((W.setCell ⟨b, 0, none⟩ x0).setCell ⟨b, 1, none⟩ x1).setCell ⟨b, 2, none⟩ x2).cell? ⟨b, 3, none⟩ = some a3 ∧ (((W.setCell ⟨b, 0, none⟩ x0).setCell ⟨b, 1, none⟩ x1).setCell ⟨b, 2, none⟩ x2).frozen? ⟨b, 3, none⟩ = false ∧
    ((((W.setCell ⟨b, 0, none⟩ x0).setCell ⟨b, 1, none⟩ x1).setCell ⟨b, 2, none⟩ x2).setCell ⟨b, 3, none⟩ x3).heap[b]? = some (.cells #[x0, x1, x2, x3] t (0, 0)) := by
  have k1 : (W.setCell ⟨b, 0, none⟩ x0).heap[b]? = some (.cells #[x0, a1, a2, a3] t (0, 0)) := by simpa using blk_set h 0 x0
  have k2 : ((W.setCell ⟨b, 0, none⟩ x0).setCell ⟨b, 1, none⟩ x1).heap[b]? = some (.cells #[x0, x1, a2, a3] t (0, 0)) := by simpa using blk_set k1 1 x1
  have k3 : (((W.setCell ⟨b, 0, none⟩ x0).setCell ⟨b, 1, none⟩ x1).setCell ⟨b, 2, none⟩ x2).heap[b]? = some (.cells #[x0, x1, x2, a3] t (0, 0)) := by simpa using blk_set k2 2 x2
  have k4 : ((((W.setCell ⟨b, 0, none⟩ x0).setCell ⟨b, 1, none⟩ x1).setCell ⟨b, 2, none⟩ x2).setCell ⟨b, 3, none⟩ x3).heap[b]? = some (.cells #[x0, x1, x2, x3] t (0, 0)) := by simpa using blk_set k3 3 x3
  exact ⟨(blk_cell h 0).trans rfl, blk_frozen h 0, (blk_cell k1 1).trans rfl, blk_frozen k1 1, (blk_cell k2 2).trans rfl, blk_frozen k2 2, (blk_cell k3 3).trans rfl, blk_frozen k3 3, k4⟩
theorem far4 {W : World} {b j : Nat} {x0 x1 x2 x3 : Value} (h : j ≠ b) : ((((W.setCell ⟨b, 0, none⟩ x0).setCell ⟨b, 1, none⟩ x1).setCell ⟨b, 2, none⟩ x2).setCell ⟨b, 3, none⟩ x3).heap[j]? = W.heap[j]? := by
  rw [Below.heap_setCell _ ⟨b, 3, none⟩ _ j h, Below.heap_setCell _ ⟨b, 2, none⟩ _ j h, Below.heap_setCell _ ⟨b, 1, none⟩ _ j h, Below.heap_setCell _ ⟨b, 0, none⟩ _ j h]
set_option maxRecDepth 100000 in
set_option maxHeartbeats 1600000 in
theorem decode_ok (w : World) (A : Option Addr) (c : Nat) (l : List Int) (hC : Kd.C KU w A l.length l) (hc : l.length ≤ c) (hb : ∀ x ∈ l, byteB x) (k s : Int) (im : List S44) (os : List S46) (hn : Noted w l (.ok (k, s, im, os))) :
    Calls Try.prog 10 #[.slice A l.length c] w fun e w' => ∃ v2 v3, e = .returned (.tuple #[.agg #[.int .i64 k, .int .i64 s, v2, v3], .int .i64 0]) ∧ Kd.S k44 44 w' w.heap.size (fun _ => True) v2 im ∧ Kd.R k46 46 w' w.heap.size (fun _ => True) v3 os ∧ Below w.heap.size w w' := by
  have hmf : ∀ (fn : Fn) (first cap : Array Value) (w : World), (Instr.makeFunc fn first cap).run Try.prog w = .ok (.func fn first cap) w := fun _ _ _ _ => rfl
  have HC := Aside0.mk hC
  have HCC := Aside0.mk hc
  have HBY := Aside0.mk hb
  have HN := Aside0.mk hn
  have hu := Try.underlying61
  clear hC hc hb hn
  go_enter_defers Try.func10, Try.ntmps10
  go_upto_region 2 with (fail)
  obtain ⟨W2, hW2⟩ : ∃ W2, (w.alloc (.cells #[.int .i64 0, .int .i64 0, .slice none 0 0, .slice none 0 0] 27)).alloc (.cells #[.int .i64 0] 28) = W2 := ⟨_, rfl⟩
  have h2 : W2.heap[w.heap.size]? = some (.cells #[.int .i64 0, .int .i64 0, .slice none 0 0, .slice none 0 0] 27 (0, 0)) := by rw [← hW2]; simpa using blk_alloc (blk_new w (.cells #[.int .i64 0, .int .i64 0, .slice none 0 0, .slice none 0 0] 27)) (.cells #[.int .i64 0] 28)
  have h3 : W2.heap[w.heap.size + 1]? = some (.cells #[.int .i64 0] 28 (0, 0)) := by rw [← hW2]; simpa using blk_new (w.alloc (.cells #[.int .i64 0, .int .i64 0, .slice none 0 0, .slice none 0 0] 27)) (.cells #[.int .i64 0] 28)
  have hbW : Below w.heap.size w W2 := by rw [← hW2]; exact ((Below.refl _ _).alloc (Nat.le_refl _) _).alloc (by simp) _
  rw [hW2]
  clear hW2
  have hnew := new_ok w W2 A c l HC.out HCC.out hbW
  have hb3 : Below W2.heap.size W2 (W2.alloc (.cells #[.slice A l.length c] 89)) := (Below.refl _ _).alloc (Nat.le_refl _) _
  have hrd : Rdy w (W2.alloc (.cells #[.slice A l.length c] 89)) W2.heap.size l := ⟨⟨A, c, by simpa using blk_new W2 (.cells #[.slice A l.length c] 89), hbW.size, HCC.out, HC.out⟩, hbW.trans (hb3.mono hbW.size), HBY.out⟩
  have hnote := HN.out _ _ hrd
  have i2 := blk_below h2 hb3
  have i3 := blk_below h3 hb3
  have hlt2 := blk_lt h2
  have hlt3 := blk_lt h3
  have hbW3 := hbW.trans (hb3.mono hbW.size)
  obtain ⟨b2, hb2⟩ : ∃ b2, w.heap.size = b2 := ⟨_, rfl⟩
  have HBS := Aside0.mk hb2
  obtain ⟨g, hg⟩ : ∃ g, W2.heap.size = g := ⟨_, rfl⟩
  obtain ⟨W3, hW3⟩ : ∃ W3, W2.alloc (.cells #[.slice A l.length c] 89) = W3 := ⟨_, rfl⟩
  have HW3 := Aside0.mk hbW3
  rw [hg, hW3] at hnew hnote
  rw [hW3] at i2 i3 HW3
  rw [hb2] at i2 i3 hlt2 hlt3 ⊢
  rw [hg] at hlt2 hlt3
  have HNEW := Aside0.mk hnew
  have HNOTE := Aside0.mk hnote
  have I2 := Aside0.mk i2
  have I3 := Aside0.mk i3
  clear h2 h3 hbW hnew hb3 hrd hnote i2 i3 hbW3 hW3 hg hb2 HN
  generalize l.length = ln at *
  go_wp2_with (first | (go_at_call 25; refine HNEW.out.mono ?_; rintro e w3 ⟨rfl, rfl⟩; clear HNEW) | (go_at_call 26; refine HNOTE.out.mono ?_; rintro e w4 ⟨v2, v3, rfl, hS, hR, hg4⟩; have j2 := blk_grown I2.out hg4 (fun e => by injection e with e; omega); have j3 := blk_grown I3.out hg4 (fun e => by injection e with e; omega); obtain ⟨A2, c2, e2⟩ := Kd.R_slice (Kd.S_R hS); obtain ⟨A3, c3, e3⟩ := Kd.R_slice hR; obtain ⟨n2, hn2⟩ : ∃ n2, im.length = n2 := ⟨_, rfl⟩; obtain ⟨n3, hn3⟩ : ∃ n3, os.length = n3 := ⟨_, rfl⟩; rw [hn2] at e2; rw [hn3] at e3; subst e2; subst e3; obtain ⟨z0, f0, z1, f1, z2, f2, z3, f3, k4⟩ := put4c (.int .i64 k) (.int .i64 s) (.slice A2 n2 c2) (.slice A3 n3 c3) j2; have k5 := (far4 (W := w4) (b := b2) (j := b2 + 1) (x0 := .int .i64 k) (x1 := .int .i64 s) (x2 := .slice A2 n2 c2) (x3 := .slice A3 n3 c3) (by omega)).trans j3; have z5 := (blk_cell k5 0).trans rfl; have f5 := blk_frozen k5 0; have HG4 := Aside0.mk hg4; have HS4 := Aside0.mk hS; have HR4 := Aside0.mk hR; have J2 := Aside0.mk j2; have J3 := Aside0.mk j3; have K4 := Aside0.mk k4; have K5 := Aside0.mk k5; clear j2 j3 k4 k5; clear HNOTE hg4 hS hR hn2 hn3))
  clear z0 f0 z1 f1 z2 f2 z3 f3 z5 f5
  have hS1 := Kd.S_types (Kd.S_types HS4.out J2.out (by decide)) J3.out (by decide)
  have hS2 := Kd.S_far (p := ⟨b2 + 1, 0, none⟩) (Kd.S_far (p := ⟨b2, 3, none⟩) (Kd.S_far (p := ⟨b2, 2, none⟩) (Kd.S_far (p := ⟨b2, 1, none⟩) (Kd.S_far (p := ⟨b2, 0, none⟩) hS1 (fun _ hk => hk.1.2) (.int .i64 k)) (fun _ hk => hk.1.2) (.int .i64 s)) (fun _ hk => hk.1.2) (.slice A2 n2 c2)) (fun _ hk => hk.1.2) (.slice A3 n3 c3)) (fun _ hk => hk.2) (.int .i64 0)
  have hR1 := Kd.R_types (Kd.R_types HR4.out J2.out (by decide)) J3.out (by decide)
  have hR2 := Kd.R_far (p := ⟨b2 + 1, 0, none⟩) (Kd.R_far (p := ⟨b2, 3, none⟩) (Kd.R_far (p := ⟨b2, 2, none⟩) (Kd.R_far (p := ⟨b2, 1, none⟩) (Kd.R_far (p := ⟨b2, 0, none⟩) hR1 (fun _ hk => hk.1.2) (.int .i64 k)) (fun _ hk => hk.1.2) (.int .i64 s)) (fun _ hk => hk.1.2) (.slice A2 n2 c2)) (fun _ hk => hk.1.2) (.slice A3 n3 c3)) (fun _ hk => hk.2) (.int .i64 0)
  have hbw4 : Below w.heap.size w w4 := HW3.out.grown HG4.out HW3.out.size (fun k hk => by injection hk with hk; have := HBS.out; omega)
  have hge : w.heap.size ≤ b2 := by have := HBS.out; omega
  have hbw5 := ((((hbw4.setCell (p := ⟨b2, 0, none⟩) hge (.int .i64 k)).setCell (p := ⟨b2, 1, none⟩) hge (.int .i64 s)).setCell (p := ⟨b2, 2, none⟩) hge (.slice A2 n2 c2)).setCell (p := ⟨b2, 3, none⟩) hge (.slice A3 n3 c3)).setCell (p := ⟨b2 + 1, 0, none⟩) (show w.heap.size ≤ b2 + 1 by omega) (.int .i64 0)
  have k6 := (Below.heap_setCell (((((w4.setCell ⟨b2, 0, none⟩ (.int .i64 k)).setCell ⟨b2, 1, none⟩ (.int .i64 s)).setCell ⟨b2, 2, none⟩ (.slice A2 n2 c2)).setCell ⟨b2, 3, none⟩ (.slice A3 n3 c3))) ⟨b2 + 1, 0, none⟩ (.int .i64 0) b2 (by show b2 ≠ b2 + 1; omega)).trans K4.out
  have k7 := blk_set K5.out 0 (.int .i64 0)
  refine leaves_cons (f := 24) (args := #[.pointer (some ⟨b2, 0, none⟩), .pointer (some ⟨b2 + 1, 0, none⟩)]) (by simp) (by simp [go_sem]) ?_
  refine (cl_ret b2 (b2 + 1) _).mono ?_
  rintro e u' w5 ⟨rfl, rfl, rfl⟩
  have hs : settle .returning = .returning := rfl
  simp only [hs]
  generalize (((((w4.setCell ⟨b2, 0, none⟩ (.int .i64 k)).setCell ⟨b2, 1, none⟩ (.int .i64 s)).setCell ⟨b2, 2, none⟩ (.slice A2 n2 c2)).setCell ⟨b2, 3, none⟩ (.slice A3 n3 c3))).setCell ⟨b2 + 1, 0, none⟩ (.int .i64 0) = w5 at *
  have d0 : w5.cell? ⟨b2, 0, none⟩ = some (.int .i64 k) := (blk_cell k6 0).trans rfl
  have d1 : w5.cell? ⟨b2, 1, none⟩ = some (.int .i64 s) := (blk_cell k6 1).trans rfl
  have d2 : w5.cell? ⟨b2, 2, none⟩ = some (.slice A2 n2 c2) := (blk_cell k6 2).trans rfl
  have d3 : w5.cell? ⟨b2, 3, none⟩ = some (.slice A3 n3 c3) := (blk_cell k6 3).trans rfl
  have d4 : w5.cell? ⟨b2 + 1, 0, none⟩ = some (.int .i64 0) := (blk_cell k7 0).trans rfl
  have hf : Try.f10.results = #[.cell 2 27, .cell 3 28] := rfl
  refine ⟨.tuple #[.agg #[.int .i64 k, .int .i64 s, .slice A2 n2 c2, .slice A3 n3 c3], .int .i64 0], ?_, _, _, rfl, Kd.S_mono hS2 (fun _ _ => trivial), Kd.R_mono hR2 (fun _ _ => trivial), hbw5⟩
  unfold results
  rw [hf]
  go_simp
  try rfl
end Go.Proofs.Ythcikbbglpdjhaa.Q
