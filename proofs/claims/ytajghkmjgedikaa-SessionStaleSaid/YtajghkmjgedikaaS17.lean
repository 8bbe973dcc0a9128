import Derived.Test.YtajghkmjgedikaaS16
import Derived.Test.YtajghkmjgedikaaB
namespace Go.Proofs.Ytajghkmjgedikaa.Q
open Go.RowKit Go.Proofs.YtajghkmjgedikaaW Go.Proofs.YtajghkmjgedikaaW.PrintWords Go.Proofs.YtajghkmjgedikaaW.PrintLast Go.Proofs.YtajghkmjgedikaaW.PrintMore
set_option linter.unusedVariables false
set_option linter.unusedSimpArgs false
def reg11.T3 : Bool × List (List Nat × List Nat) := (true, [([], []), ([0], [0]), ([1], [1]), ([], []), ([3], [3]), ([4], [4]), ([5], [5]), ([6], [6]), ([2, 7], [2, 7]), ([8, 0, 1, 2, 3, 4, 5, 6, 7, 8], [8])])
def reg11.B3 : List Nat := [0, 1, 3, 0, 8, 24, 56, 120, 255, 511]
theorem reg11.tab3 : rtab .any (opsOf Try.f11 3) = reg11.T3 := by kernel_rfl
theorem reg11.bits3 : waitsOk reg11.T3.2 reg11.B3 = true := by kernel_rfl
def reg11.T9 : Bool × List (List Nat × List Nat) := (true, [([], []), ([], []), ([1], [1]), ([2], [2]), ([3], [3]), ([], []), ([5], [5]), ([4, 6], [4, 6]), ([0, 0, 1, 2, 3, 4, 5, 6, 7], [0]), ([8, 0, 1, 2, 3, 4, 5, 6, 7], [8]), ([9, 7, 7, 0, 1, 2, 3, 4, 5, 6, 7], [7, 9])])
def reg11.B9 : List Nat := [0, 0, 2, 6, 14, 0, 32, 126, 255, 511, 1023]
theorem reg11.tab9 : rtab .any (opsOf Try.f11 9) = reg11.T9 := by kernel_rfl
theorem reg11.bits9 : waitsOk reg11.T9.2 reg11.B9 = true := by kernel_rfl
def reg11.T18 : Bool × List (List Nat × List Nat) := (true, [([], []), ([0], [0]), ([1], [1]), ([2], [2]), ([], []), ([4], [4]), ([5], [5]), ([6], [6]), ([], []), ([7, 8], [7, 8]), ([9], [9]), ([], []), ([3, 10, 11], [3, 10, 11]), ([12], [12]), ([13], [13]), ([13], [13]), ([], []), ([16, 14, 12, 0, 1, 2, 3, 4, 5, 6, 7, 8, 9, 10, 11, 12, 13, 14, 16], [14, 16]), ([15, 17, 0, 1, 2, 3, 4, 5, 6, 7, 8, 9, 10, 11, 12, 13, 14, 15, 16, 17], [15])])
def reg11.B18 : List Nat := [0, 1, 3, 7, 0, 16, 48, 112, 0, 496, 1008, 0, 4095, 8191, 16383, 16383, 0, 98303, 262143]
theorem reg11.tab18 : rtab .any (opsOf Try.f11 18) = reg11.T18 := by kernel_rfl
theorem reg11.bits18 : waitsOk reg11.T18.2 reg11.B18 = true := by kernel_rfl

theorem Wd.below {w0 : World} {g go : Nat} {m : Mdl} {W W' : World} (h : Wd w0 g go m W) (hb : Below W.heap.size W W') : Wd w0 g go m W' := by
  obtain ⟨be, gb, I, cs, tx, v1, v2, h1, h2, h3, h4, h5, h6, h7⟩ := h
  exact ⟨below_then be be.size hb, gb, I, cs, tx, v1, v2, h1.below hb, h2, h3.below hb, h4, Kd.R_below h5 hb, Kd.R_below h6 hb, Kd.R_below h7 hb⟩
/-- The same without what the model keeps. -/
structure Wx (w0 : World) (g go : Nat) (m : Mdl) (W : World) : Prop where
  be : Below w0.heap.size w0 W
  gb : w0.heap.size ≤ g
  ex : ∃ cs tx v1 v2, Bw g cs v1 v2 (.slice (some ⟨go, 0, none⟩) 64 64) W ∧ Cells cs m.st m.op tx ∧ Rows3 W m.ls tx ∧ (∀ i, i < 16 → ∀ k, (tx i).ownBlock = some k → go < k) ∧ k31.R 31 W w0.heap.size (fun _ => True) v1 m.H ∧ Kd.bool.R 4 W w0.heap.size (fun _ => True) v2 m.C ∧ (Kd.int .i64).R 3 W w0.heap.size (fun k => k = go) (.slice (some ⟨go, 0, none⟩) 64 64) m.O
theorem Wd.x {w0 : World} {g go : Nat} {m : Mdl} {W : World} (h : Wd w0 g go m W) : Wx w0 g go m W := ⟨h.be, h.gb, h.ex⟩
theorem Wx.wd {w0 : World} {g go : Nat} {m : Mdl} {W : World} (h : Wx w0 g go m W) (I : Inv m) : Wd w0 g go m W := ⟨h.be, h.gb, I, h.ex⟩
theorem Wx.below {w0 : World} {g go : Nat} {m : Mdl} {W W' : World} (h : Wx w0 g go m W) (hb : Below W.heap.size W W') : Wx w0 g go m W' := by
  obtain ⟨be, gb, cs, tx, v1, v2, h1, h2, h3, h4, h5, h6, h7⟩ := h
  exact ⟨below_then be be.size hb, gb, cs, tx, v1, v2, h1.below hb, h2, h3.below hb, h4, Kd.R_below h5 hb, Kd.R_below h6 hb, Kd.R_below h7 hb⟩
theorem Wx.own_set {w0 : World} {g go : Nat} {m : Mdl} {W : World} (h : Wx w0 g go m W) (x : Nat) (v : Int) : Wx w0 g go { m with O := m.O.set x v } (W.setCell ⟨go, x, none⟩ (.int .i64 v)) := by
  obtain ⟨be, gb, cs, tx, v1, v2, h1, h2, h3, h4, h5, h6, h7⟩ := h
  obtain ⟨cells, hgo⟩ := Kd.R_typed h7 go rfl
  have hb := Kd.R_base h7 go rfl
  have hne : go ≠ g := ne_ty (t := 3) (u := 44) hgo h1.at_ (by decide)
  have hfar : ∀ k, k ≠ go → (W.setCell ⟨go, x, none⟩ (.int .i64 v)).heap[k]? = W.heap[k]? := fun k hk => Below.heap_setCell W ⟨go, x, none⟩ _ k hk
  have hp := Kd.R_putn h7 (x : Int) v
  rw [Int.toNat_natCast] at hp
  exact ⟨be.setCell hb _, gb, cs, tx, v1, v2, h1.far (hfar g (fun e => hne e.symm)), h2, fun q hq => (h3 q hq).own_set (h4 q hq), h4, R_far44 h5 hgo hfar (by decide) rfl, R_far44 h6 hgo hfar (by decide) rfl, hp⟩
theorem Wx.put {w0 : World} {g go : Nat} {m : Mdl} {W W' : World} (h : Wx w0 g go m W) {cs' : Array Value} {tx' : Nat → Value} {st' : Nat → Int} {op' : Nat → Bool} {ls' : Nat → List Int} (hc : Cells cs' st' op' tx') (hr : Rows3 W ls' tx') (ht : ∀ i, i < 16 → ∀ k, (tx' i).ownBlock = some k → go < k) (hW : W' = W.setCells g 0 cs'.toList) :
    Wx w0 g go { m with st := st', op := op', ls := ls' } W' := by
  subst hW
  obtain ⟨be, gb, cs, tx, v1, v2, h1, h2, h3, h4, h5, h6, h7⟩ := h
  have hfar : ∀ k, k ≠ g → (W.setCells g 0 cs'.toList).heap[k]? = W.heap[k]? := fun k hk => setCells_far _ _ _ hk
  exact ⟨below_setCells' gb _ _ be, gb, cs', tx', v1, v2, h1.put hc.size, hc, fun q hq => R_far44 (hr q hq) h1.at_ hfar (by decide) rfl, ht, R_far44 h5 h1.at_ hfar (by decide) rfl, R_far44 h6 h1.at_ hfar (by decide) rfl, R_far44 h7 h1.at_ hfar (by decide) rfl⟩
theorem Wx.go_lt {w0 : World} {g go : Nat} {m : Mdl} {W : World} (h : Wx w0 g go m W) : go < W.heap.size := by
  obtain ⟨be, gb, cs, tx, v1, v2, h1, h2, h3, h4, h5, h6, h7⟩ := h
  exact Kd.R_lt h7 go rfl
theorem Wx.own_at {w0 : World} {g go : Nat} {m : Mdl} {W : World} (h : Wx w0 g go m W) (x : Nat) (hx : x < 64) : W.cell? ⟨g, 50, none⟩ = some (.slice (some ⟨go, 0, none⟩) 64 64) ∧ W.cell? ⟨go, x, none⟩ = some (.int .i64 (m.o x)) ∧ W.frozen? ⟨go, x, none⟩ = false := by
  obtain ⟨be, gb, cs, tx, v1, v2, h1, h2, h3, h4, h5, h6, h7⟩ := h
  have := Kd.R_celln (0 : Int) h7 (x : Int) (by omega) (by omega)
  rw [Int.toNat_natCast, show rdOf 0 m.O (x : Int) = m.o x by (unfold rdOf Mdl.o; rw [Int.toNat_natCast])] at this
  exact ⟨h1.c3, this.1, this.2⟩
theorem Wx.shut_at {w0 : World} {g go : Nat} {m : Mdl} {W : World} (h : Wx w0 g go m W) (i : Nat) (hi : i < m.C.length) : ∃ gc cc, W.cell? ⟨g, 49, none⟩ = some (.slice (some ⟨gc, 0, none⟩) m.C.length cc) ∧ W.cell? ⟨gc, i, none⟩ = some (.bool (m.c i)) := by
  obtain ⟨be, gb, cs, tx, v1, v2, h1, h2, h3, h4, h5, h6, h7⟩ := h
  obtain ⟨gc, cc, rfl, _, _, _⟩ := Kd.R_form h6 (by omega)
  have := Kd.R_cell false h6 (i : Int) (by omega) (by omega)
  rw [Int.toNat_natCast, show rdOf false m.C (i : Int) = m.c i by (unfold rdOf Mdl.c; rw [Int.toNat_natCast])] at this
  exact ⟨gc, cc, h1.c2, this.1⟩
theorem Wx.all_at {w0 : World} {g go : Nat} {m : Mdl} {W : World} (h : Wx w0 g go m W) (i : Nat) (hi : i < m.H.length) : ∃ ad cc, W.cell? ⟨g, 48, none⟩ = some (.slice (some ad) m.H.length cc) ∧ W.cell? (ad.add (i * 2)) = some (.int .i64 (m.h i).f0) ∧ W.cell? ⟨(ad.add (i * 2)).block, (ad.add (i * 2)).off + 1, none⟩ = some (.int .i64 (m.h i).f1) := by
  obtain ⟨be, gb, cs, tx, v1, v2, h1, h2, h3, h4, h5, h6, h7⟩ := h
  obtain ⟨A1, cc, rfl, _, hr1⟩ := Kd.R_reads h5
  obtain ⟨ad, rfl, x1, x2⟩ := at_T31 hr1 (i : Int) (by omega) (by omega)
  have hrd : rd_T31 m.H (i : Int) = m.h i := by unfold rd_T31 Mdl.h; rw [Int.toNat_natCast]; rfl
  rw [hrd, Int.toNat_natCast] at x1 x2
  exact ⟨ad, cc, h1.c1, x1, x2⟩
theorem NewT.go {w : World} {tx tx' : Nat → Value} {go : Nat} (h : NewT w tx tx') (hg : go < w.heap.size) (ht : ∀ i, i < 16 → ∀ k, (tx i).ownBlock = some k → go < k) : ∀ i, i < 16 → ∀ k, (tx' i).ownBlock = some k → go < k := fun i hi k hk =>
  (h i hi).elim (fun e => ht i hi k (by rw [← e]; exact hk)) (fun h => by have := h k hk; omega)
/-- What an Own of x by the model's i-th handle tells. -/
def OwnR (m : Mdl) (i s x : Nat) (w : World) (tx : Nat → Value) (r : Value) (w' : World) : Prop :=
  (m.c i = true ∧ r = .tuple #[.agg Z48, .int .i64 6]) ∨
  (m.c i = false ∧ (∃ j : Nat, m.o x = (j : Int)) ∧ r = .tuple #[.agg Z48, .int .i64 7]) ∨
  (m.c i = false ∧ m.o x = -1 ∧ (∀ j, j < 16 → (x : Int) ∉ m.ls j) ∧ ∃ cs' tx', r = .tuple #[.agg cs', .int .i64 0] ∧ Cells cs' m.st m.op tx' ∧ Rows3 w' (upd m.ls s (insT (x : Int) (m.ls s))) tx' ∧ NewT w tx tx')
theorem OwnR.form {m : Mdl} {i s x : Nat} {w w1 : World} {tx : Nat → Value} {r : Value} (h : OwnR m i s x w tx r w1) : ∃ a b, r = .tuple #[a, b] := by
  rcases h with ⟨_, rfl⟩ | ⟨_, _, rfl⟩ | ⟨_, _, _, _, _, rfl, _⟩ <;> exact ⟨_, _, rfl⟩
theorem OwnR.below {m : Mdl} {i s x : Nat} {w w1 w2 : World} {tx : Nat → Value} {r : Value} (h : OwnR m i s x w tx r w1) (hb : Below w1.heap.size w1 w2) : OwnR m i s x w tx r w2 := by
  rcases h with h | h | ⟨h1, h2, h3, cs', tx', h4, h5, h6, h7⟩
  · exact .inl h
  · exact .inr (.inl h)
  · exact .inr (.inr ⟨h1, h2, h3, cs', tx', h4, h5, h6.below hb, h7⟩)
theorem OwnR.cells {m : Mdl} {i s x : Nat} {w w1 : World} {tx : Nat → Value} {ra rb : Value} (h : OwnR m i s x w tx (.tuple #[ra, rb]) w1) : ∃ csx ee, ra = .agg csx ∧ rb = .int .i64 ee ∧ csx.size = 48 ∧ csx.all (·.oneCell') = true := by
  rcases h with ⟨_, h⟩ | ⟨_, _, h⟩ | ⟨_, _, _, cs', tx', h, h2, h3, h4⟩
  · simp only [Value.tuple.injEq, Array.mk.injEq, List.cons.injEq, and_true] at h
    exact ⟨_, _, h.1, h.2, rfl, z48_one⟩
  · simp only [Value.tuple.injEq, Array.mk.injEq, List.cons.injEq, and_true] at h
    exact ⟨_, _, h.1, h.2, rfl, z48_one⟩
  · simp only [Value.tuple.injEq, Array.mk.injEq, List.cons.injEq, and_true] at h
    exact ⟨_, _, h.1, h.2, h2.size, rows_one h2 h3⟩
theorem OwnR.put {m : Mdl} {i s x g : Nat} {w w1 w2 : World} {tx : Nat → Value} {r : Value} {c cs : Array Value} {t : TypeId} (h : OwnR m i s x w tx r w1) (hb : w1.heap[g]? = some (.cells c t (0, 0))) (ht : t ≠ 3) (hp : Put w1 g cs t w2) : OwnR m i s x w tx r w2 := by
  rcases h with h | h | ⟨h1, h2, h3, cs', tx', h4, h5, h6, h7⟩
  · exact .inl h
  · exact .inr (.inl h)
  · exact .inr (.inr ⟨h1, h2, h3, cs', tx', h4, h5, h6.put hb ht hp, h7⟩)
theorem own_any {m : Mdl} (I : Inv m) {i s x : Nat} (hi : i < m.H.length) (hs : s < 16) (h0 : (m.h i).f0 = (s : Int)) (hx : x < 64) (cs : Array Value) (tx : Nat → Value) (h : Cells cs m.st m.op tx) (w w' : World) (hrow : Rows3 w' m.ls tx) (hsz : w.heap.size ≤ w'.heap.size) :
    Calls Try.prog 14 #[.agg cs, .agg #[.int .i64 (s : Int), .int .i64 (m.h i).f1], .int .i64 (x : Int)] w' fun e w2 => ∃ r, e = .returned r ∧ OwnR m i s x w tx r w2 ∧ Below w'.heap.size w' w2 := by
  have hl := I.live i hi
  unfold Mdl.live at hl
  rw [h0] at hl
  have hx0 : (0 : Int) ≤ (x : Int) ∧ (x : Int) < 64 := by omega
  cases hc : m.c i with
  | true =>
    rw [hc] at hl
    refine (own_dead cs m.st m.op m.ls tx h I.sane w' hrow (s : Int) (m.h i).f1 x hx0 hl).mono ?_
    rintro e w2 ⟨rfl, hb⟩
    exact ⟨_, rfl, .inl ⟨hc, rfl⟩, hb⟩
  | false =>
    rw [hc] at hl
    obtain ⟨a1, a2⟩ := (live_iff hs).1 hl
    rcases I.own x hx with ⟨o1, o2⟩ | ⟨j, t, hj, ht, o1, o2, o3, o4⟩
    · rw [← a2]
      refine (own_ok cs m.st m.op m.ls tx h I.sane w' hrow s hs a1 x hx0 o2).mono ?_
      rintro e w2 ⟨cs', tx', rfl, h2, h3, h4, hb⟩
      exact ⟨_, rfl, .inr (.inr ⟨hc, o1, o2, cs', tx', rfl, h2, h3, h4.mono hsz⟩), hb⟩
    · rcases whoseT_cases m.ls (x : Int) with ⟨_, hn⟩ | ⟨q, hq, hw, _⟩
      · exact absurd o4 (hn t ht)
      · refine (own_had cs m.st m.op m.ls tx h I.sane w' hrow (s : Int) (m.h i).f1 x hx0 hl q hw).mono ?_
        rintro e w2 ⟨rfl, hb⟩
        exact ⟨_, rfl, .inr (.inl ⟨hc, ⟨j, o1⟩, rfl⟩), hb⟩
end Go.Proofs.Ytajghkmjgedikaa.Q
