import Derived.Test.YtnlnglfjehohpaaSB
namespace Go.Proofs.Ytnlnglfjehohpaa.Q
open Go.RowKit Go.Proofs.YtnlnglfjehohpaaW Go.Proofs.YtnlnglfjehohpaaW.PrintWords Go.Proofs.YtnlnglfjehohpaaW.PrintLast Go.Proofs.YtnlnglfjehohpaaW.PrintMore
set_option linter.unusedVariables false
set_option linter.unusedSimpArgs false
def reg42.T6 : Bool × List (List Nat × List Nat) := (true, [([], []), ([], []), ([], []), ([], []), ([3], [3]), ([], []), ([], []), ([6], [6]), ([5, 7], [5, 7]), ([8], [8]), ([], []), ([], []), ([10, 11], [10, 11]), ([12], [12]), ([0, 1, 0, 1, 5, 6, 7, 8, 9, 13], [0, 1]), ([14, 9, 0, 1, 5, 6, 7, 8, 9, 13], [9, 14]), ([2, 4, 0, 1, 2, 3, 4, 5, 6, 7, 8, 9, 10, 11, 12, 13, 14, 15], [2, 4]), ([16, 13, 15, 0, 1, 2, 3, 4, 5, 6, 7, 8, 9, 10, 11, 12, 13, 14, 15], [13, 16])])
def reg42.B6 : List Nat := [0, 0, 0, 0, 8, 0, 0, 64, 224, 480, 0, 0, 3072, 7168, 16355, 32739, 65535, 131071]
theorem reg42.tab6 : rtab .any (opsOf Try.f42 6) = reg42.T6 := by kernel_rfl
theorem reg42.bits6 : waitsOk reg42.T6.2 reg42.B6 = true := by kernel_rfl
def reg42.T4 : Bool × List (List Nat × List Nat) := (true, [([], []), ([], []), ([0, 1], [0, 1]), ([2], [2]), ([3], [3]), ([3], [3]), ([3], [3]), ([5, 6, 3], [3, 5, 6]), ([7, 3], [3, 7]), ([3], [3]), ([3], [3]), ([10, 3], [3, 10]), ([9, 11, 3], [3, 9, 11]), ([12, 3], [3, 12]), ([4, 8, 13, 3, 3], [3, 4, 8, 13]), ([14, 3], [3, 14]), ([3, 15], [3, 15])])
def reg42.B4 : List Nat := [0, 0, 3, 7, 15, 15, 15, 111, 239, 15, 15, 1039, 3599, 7695, 16383, 32767, 65535]
theorem reg42.tab4 : rtab .any (opsOf Try.f42 4) = reg42.T4 := by kernel_rfl
theorem reg42.bits4 : waitsOk reg42.T4.2 reg42.B4 = true := by kernel_rfl
theorem grown_below {a w w' : World} {row : Option Nat} (h : a.grownBy w row) (hb : Below w.heap.size w w') : a.grownBy w' row :=
  h.trans ⟨hb.os, hb.tape, hb.output, hb.size, fun i hi _ => hb.block i hi⟩
/-- Two neighbours of a row of one's own change places: the facts of the walk. -/
theorem adj_down (base : Nat) (ok : Nat → Prop) (w : World) (A : Option Addr) (L c : Nat) (A0 B0 : List Int) (u x : Int) (k : Nat) (hk : A0.length = k) (hl : (A0 ++ u :: x :: B0).length = L)
    (h : KI.R 3 w base ok (.slice A L c) (A0 ++ u :: x :: B0)) :
    ∃ g, A = some ⟨g, 0, none⟩ ∧ base ≤ g ∧ w.cell? ⟨g, k, none⟩ = some (.int .i64 u) ∧ w.cell? ⟨g, k + 1, none⟩ = some (.int .i64 x) ∧
      w.frozen? ⟨g, k + 1, none⟩ = false ∧ (∃ z, (w.setCell ⟨g, k + 1, none⟩ (.int .i64 u)).cell? ⟨g, k, none⟩ = some z) ∧ (w.setCell ⟨g, k + 1, none⟩ (.int .i64 u)).frozen? ⟨g, k, none⟩ = false ∧
      KI.R 3 ((w.setCell ⟨g, k + 1, none⟩ (.int .i64 u)).setCell ⟨g, k, none⟩ (.int .i64 x)) base ok (.slice A L c) (A0 ++ x :: u :: B0) ∧
      w.grownBy ((w.setCell ⟨g, k + 1, none⟩ (.int .i64 u)).setCell ⟨g, k, none⟩ (.int .i64 x)) (some g) := by
  subst hl
  have hlen : k + 1 < (A0 ++ u :: x :: B0).length := by rw [List.length_append, hk]; simp
  obtain ⟨g, cap, hv, hg0, _, _⟩ := Kd.R_form h (by omega)
  injection hv with hv1 _ hv3
  subst hv1
  subst hv3
  have e1 : (A0 ++ u :: x :: B0)[k]? = some u := get_at _ _ _ _ hk.symm
  have e2 : (A0 ++ u :: x :: B0)[k + 1]? = some x := by
    have := get_at (A0 ++ [u]) B0 x (k + 1) (by simp [hk]); simpa using this
  have s1 : (A0 ++ u :: x :: B0).set (k + 1) u = A0 ++ u :: u :: B0 := by
    have := set_at (A0 ++ [u]) B0 x u (k + 1) (by simp [hk]); simpa using this
  have s2 : (A0 ++ u :: u :: B0).set k x = A0 ++ x :: u :: B0 := set_at _ _ _ _ _ hk.symm
  have c1 := Kd.R_cell (0 : Int) h (k : Int) (by omega) (by omega)
  have c2 := Kd.R_cell (0 : Int) h ((k + 1 : Nat) : Int) (by omega) (by omega)
  rw [Int.toNat_natCast] at c1 c2
  rw [show rdOf (0 : Int) (A0 ++ u :: x :: B0) (k : Int) = u by (unfold rdOf; rw [Int.toNat_natCast, List.getD_eq_getElem?_getD, e1]; rfl)] at c1
  rw [show rdOf (0 : Int) (A0 ++ u :: x :: B0) ((k + 1 : Nat) : Int) = x by (unfold rdOf; rw [Int.toNat_natCast, List.getD_eq_getElem?_getD, e2]; rfl)] at c2
  have d1 := Kd.R_putg h ((k + 1 : Nat) : Int) u
  rw [Int.toNat_natCast, s1] at d1
  have d1b := d1.1
  have ll : (A0 ++ u :: u :: B0).length = (A0 ++ u :: x :: B0).length := by simp
  rw [← ll] at d1b
  have d2 := Kd.R_putg d1b (k : Int) x
  rw [Int.toNat_natCast, s2] at d2
  have c3 := Kd.R_cell (0 : Int) d1b (k : Int) (by omega) (by rw [ll]; omega)
  rw [Int.toNat_natCast] at c3
  rw [ll] at d2
  exact ⟨g, rfl, hg0, c1.1, c2.1, c2.2, ⟨_, c3.1⟩, c3.2, d2.1, d1.2.trans d2.2⟩
section
variable {P : Program} {ops : Array Oper} {Q : Exit → Act → World → Prop}
/-- A call through a function value. -/
theorem goesv_ {oi : Oper} {N : Option Tmp} {a : Act} {w : World} {K : Act → World → Prop} {f : FuncId} {fn : Func} {us : Array Operand} {ts : Array TypeId} {x : Operand} (hf : P.funcs[f]? = some fn) (hname : (fn.name == "runtime.NumGoroutine") = false) (hb : fn.body.isSome = true) (args caps : Array Value)
    (hw : Region.wanted oi (yielded ops a.tmps) = true) (hN : oi.dst = N) (hop : oi.op = .call { callee := .value x, args := us, argTypes := ts }) (hx : a.eval x = .func (.func f) #[] caps) (hargs : us.map a.eval ++ caps = args)
    (h : Calls P f args w fun e w' => ∃ v, e = .returned v ∧ K (a.put N v) w') : if Region.wanted oi (yielded ops a.tmps) = true then Oper.wp P oi a w K Q else K (a.put N undef) w := by
  refine call_ f args hw hN ?_ h
  have he := enters_ hf hname hb args w
  unfold execOp
  simp [hop, resolve, Deferred.ofValue, invoke, hx, hargs, he]
end
def cmp3 (a b : Int) : Int := if a < b then -1 else if b < a then 1 else 0
/-- The closure C with the box B says how two stand by their keys, in each world of K. -/
structure CmpI (C B : Nat) (key : Int → Int) (dom : Int → Prop) (row : Option Nat) (K : World → Prop) : Prop where
  says : ∀ (W : World) (x y : Int), K W → dom x → dom y → Calls Try.prog C #[.int .i64 x, .int .i64 y, .pointer (some ⟨B, 0, none⟩)] W fun e w' => e = .returned (.int .i64 (cmp3 (key x) (key y))) ∧ Below W.heap.size W w'
  lasts : ∀ W W', K W → W.grownBy W' row → K W'
def Sorted (key : Int → Int) (l : List Int) : Prop := l.Pairwise (fun x y => key x ≤ key y)
end Go.Proofs.Ytnlnglfjehohpaa.Q
