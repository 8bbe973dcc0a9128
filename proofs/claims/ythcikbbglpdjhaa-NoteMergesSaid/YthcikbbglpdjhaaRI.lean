/- The note's reader: image. No condition. -/
import Derived.Test.YthcikbbglpdjhaaRC
import Derived.Test.YthcikbbglpdjhaaQA
import Derived.Lib.Hide
namespace Go.Proofs.Ythcikbbglpdjhaa.Q
open Go.RowKit Go.Proofs.YthcikbbglpdjhaaW Go.Proofs.YthcikbbglpdjhaaW.PrintWords Go.Proofs.YthcikbbglpdjhaaW.PrintLast Go.Proofs.YthcikbbglpdjhaaW.PrintMore
set_option linter.unusedVariables false
set_option linter.unusedSimpArgs false
section
variable {P : Program} {ops : Array Oper} {Q : Exit → Act → World → Prop}
/-- A call in a drawn region that may stop. -/
theorem goesP_ {oi : Oper} {N : Option Tmp} {a : Act} {w : World} {K : Act → World → Prop} {f : FuncId} {fn : Func} {ars : Array Operand} {ts : Array TypeId} (hf : P.funcs[f]? = some fn) (hname : (fn.name == "runtime.NumGoroutine") = false) (hb : fn.body.isSome = true) (args : Array Value)
    (hw : Region.wanted oi (yielded ops a.tmps) = true) (hN : oi.dst = N) (hop : oi.op = .call { callee := .value (.func f), args := ars, argTypes := ts }) (hargs : ars.map a.eval = args)
    (h : Calls P f args w fun e w' => (∃ v, e = .returned v ∧ K (a.put N v) w') ∨ (∃ c, e = .panicked c ∧ Q (.panic c) a w')) : if Region.wanted oi (yielded ops a.tmps) = true then Oper.wp P oi a w K Q else K (a.put N undef) w := by
  rw [if_pos hw]
  subst hN
  have he := enters_ hf hname hb args w
  have hrun : (execOp a.eval oi).run P w = .ok (.enter f args) w := by
    unfold execOp
    simp [hop, resolve, Deferred.ofValue, invoke, Act.eval, hargs, he]
  unfold Oper.wp
  rw [hrun, Oper.upon_enter]
  refine h.mono fun e w'' hh => ?_
  rcases hh with ⟨v, rfl, hk⟩ | ⟨c, rfl, hk⟩
  · exact hk
  · exact hk
end
theorem Reads.split {α : Type} {w0 W : World} {g : Nat} {enc : α → Value} {r : Except Int (α × List Int)} {e : Ending} {w' : World} (h : Reads w0 W g enc r e w') :
    (∃ a rest, r = .ok (a, rest) ∧ e = .returned (enc a) ∧ Rdy w0 w' g rest ∧ W.grownBy w' (some g)) ∨ (∃ n, r = .error n ∧ e = .panicked (stopped n) ∧ W.grownBy w' (some g)) := by
  cases r with
  | ok a => obtain ⟨a, rest⟩ := a; exact Or.inl ⟨a, rest, rfl, h⟩
  | error n => exact Or.inr ⟨n, rfl, h⟩
def pImage (l : List Int) : Except Int (S44 × List Int) := match pNum 1 l with
  | .ok (k, r) => if r.length < 32 then .error 2 else .ok (⟨k, r.take 32⟩, r.drop 32)
  | .error n => .error n
/-- What reader.image does. -/
def RImg (w0 W : World) (g : Nat) (r : Except Int (S44 × List Int)) (e : Ending) (w' : World) : Prop :=
  match r with
  | .ok (x, rest) => ∃ v1, e = .returned (.agg #[.int .i64 x.f0, v1]) ∧ KU.R 5 w' W.heap.size (fun _ => True) v1 x.f1 ∧ Rdy w0 w' g rest ∧ W.grownBy w' (some g)
  | .error n => e = .panicked (stopped n) ∧ W.grownBy w' (some g)
/-- The state of a reading function: its box b holds the reader, the next block its result. -/
structure IS (w0 w : World) (g b : Nat) (o : Obj) (W : World) (r : List Int) : Prop where
  rdy : Rdy w0 W g r
  box : W.heap[b]? = some (.cells #[.pointer (some ⟨g, 0, none⟩)] 61 (0, 0))
  out : W.heap[b + 1]? = some o
  gr : w.grownBy W (some g)
theorem IS.alloc {w0 w : World} {g b : Nat} {o : Obj} {W : World} {r : List Int} (h : IS w0 w g b o W r) (x : Obj) : IS w0 w g b o (W.alloc x) r :=
  have hb : Below W.heap.size W (W.alloc x) := (Below.refl _ _).alloc (Nat.le_refl _) _
  ⟨h.rdy.later hb, blk_alloc h.box x, blk_alloc h.out x, h.gr.trans (grown_b hb (some g))⟩
theorem IS.drew {w0 w : World} {g b : Nat} {o : Obj} {W : World} {r : List Int} (h : IS w0 w g b o W r) : IS w0 w g b o W.drew r :=
  have hb : Below W.heap.size W W.drew := (Below.refl _ _).drew
  ⟨h.rdy.later hb, blk_drew h.box, blk_drew h.out, h.gr.trans (grown_b hb (some g))⟩
theorem IS.read {w0 w : World} {g b : Nat} {o : Obj} {W w' : World} {r r' : List Int} (h : IS w0 w g b o W r) (hgb : g < b) (hr : Rdy w0 w' g r') (hg : W.grownBy w' (some g)) : IS w0 w g b o w' r' :=
  ⟨hr, blk_grown h.box hg (fun e => by injection e with e; omega), blk_grown h.out hg (fun e => by injection e with e; omega), h.gr.trans hg⟩
theorem IS.set {w0 w : World} {g b : Nat} {o : Obj} {W : World} {r : List Int} (h : IS w0 w g b o W r) (hgb : g < b) {c k : Nat} (hc : b + 1 < c) (hw : w.heap.size ≤ b) (u : Value) : IS w0 w g b o (W.setCell ⟨c, k, none⟩ u) r :=
  ⟨h.rdy.far (by omega) u, (Below.heap_setCell W ⟨c, k, none⟩ u b (fun e => by have e : b = c := e; omega)).trans h.box, (Below.heap_setCell W ⟨c, k, none⟩ u (b + 1) (fun e => by have e : b + 1 = c := e; omega)).trans h.out, grown_far h.gr (by omega) u⟩
theorem IS.cell {w0 w : World} {g b : Nat} {o : Obj} {W : World} {r : List Int} (h : IS w0 w g b o W r) : W.cell? ⟨b, 0, none⟩ = some (.pointer (some ⟨g, 0, none⟩)) := (blk_cell h.box 0).trans rfl
theorem IS.lt {w0 w : World} {g b : Nat} {o : Obj} {W : World} {r : List Int} (h : IS w0 w g b o W r) : b + 1 < W.heap.size := blk_lt h.out
/-- The first i of the bytes, then zeros. -/
def part (r : List Int) (i : Nat) : Array Value := ((r.take i).map (fun x => Value.int .u8 x) ++ List.replicate (32 - i) (Value.int .u8 0)).toArray
theorem reps_u8 (W : World) (base : Nat) (ok : Nat → Prop) : ∀ l : List Int, Reps (KU.M W base ok) KU.sz l (l.map (fun x => Value.int .u8 x)) := by
  intro l
  refine ⟨by rw [List.length_map]; exact (Nat.mul_one _).symm, fun j p hj => ?_⟩
  show ((l.map (fun x => Value.int .u8 x)).drop (j * 1)).take 1 = [Value.int .u8 p]
  obtain ⟨h1, h2⟩ := List.getElem?_eq_some_iff.1 hj
  rw [Nat.mul_one, List.drop_eq_getElem_cons (by rw [List.length_map]; exact h1), List.getElem_map, h2]
  rfl
theorem made_one (v : Value) (n : Nat) : madeCells #[v] n = (List.replicate n v).toArray := by
  unfold madeCells
  apply Array.ext
  · simp
  · intro i h1 h2
    simp [Nat.mod_one]
theorem part_zero (r : List Int) : part r 0 = madeCells #[.int .u8 0] 32 := by
  rw [made_one]
  unfold part
  rw [List.take_zero, List.map_nil, List.nil_append]
theorem part_size (r : List Int) (i : Nat) (hi : i ≤ 32) (hr : i ≤ r.length) : (part r i).size = 32 := by
  unfold part
  simp only [List.size_toArray, List.length_append, List.length_map, List.length_take, List.length_replicate]
  omega
theorem part_at (r : List Int) (i : Nat) (hi : i < 32) (hr : i ≤ r.length) : (part r i)[i]? = some (Value.int .u8 0) := by
  unfold part
  rw [List.getElem?_toArray, List.getElem?_append_right (by rw [List.length_map, List.length_take]; omega), List.length_map, List.length_take]
  rw [List.getElem?_replicate, if_pos (by omega)]
theorem part_set (r : List Int) (i : Nat) (hi : i < 32) (hr : i < r.length) : (part r i).setIfInBounds i (Value.int .u8 r[i]) = part r (i + 1) := by
  have e : 32 - i = (32 - (i + 1)) + 1 := by omega
  unfold part
  rw [List.setIfInBounds_toArray, e, List.replicate_succ, List.set_append_right _ _ (by rw [List.length_map, List.length_take]; omega)]
  have e2 : i - (List.map (fun x => Value.int .u8 x) (r.take i)).length = 0 := by rw [List.length_map, List.length_take]; omega
  rw [e2, List.set_cons_zero, List.take_succ_eq_append_getElem hr, List.map_append]
  simp
theorem part_row (r : List Int) (hr : 32 ≤ r.length) {W : World} {m base : Nat} (h : W.heap[m]? = some (.cells (part r 32) 5 (0, 0))) (hm : base ≤ m) : KU.R 5 W base (fun _ => True) (.slice (some ⟨m, 0, none⟩) 32 32) (r.take 32) := by
  have hl : (r.take 32).length = 32 := by rw [List.length_take]; omega
  refine ⟨fun _ _ => trivial, (r.take 32).map (fun x => Value.int .u8 x), ⟨?_, Or.inr ⟨m, 32, _, by rw [hl], hm, h, by rw [hl]; exact Nat.le_refl _, by decide, part_size r 32 (Nat.le_refl _) hr, ?_⟩⟩, reps_u8 _ _ _ _⟩
  · rw [List.length_map, hl]; rfl
  · rw [hl]
    unfold part
    show List.take (32 * 1) _ = _
    simp only [Nat.sub_self, List.replicate_zero, List.append_nil, Nat.mul_one]
    rw [List.take_of_length_le (by rw [List.length_map, hl]; exact Nat.le_refl _)]

def reg46.T1 : Bool × List (List Nat × List Nat) := (true, [([], []), ([0], [0]), ([], []), ([1, 2], [1, 2]), ([], []), ([4, 3, 1, 0, 1, 2, 3, 4], [3, 4])])
def reg46.B1 : List Nat := [0, 1, 0, 7, 0, 31]
theorem reg46.tab1 : rtab .any (opsOf Try.f46 1) = reg46.T1 := by kernel_rfl
theorem reg46.bits1 : waitsOk reg46.T1.2 reg46.B1 = true := by kernel_rfl
def reg46.T5 : Bool × List (List Nat × List Nat) := (true, [([], []), ([0], [0]), ([], []), ([], []), ([3], [3]), ([4], [4]), ([1, 2, 0, 1, 2, 3, 4, 5], [1, 2]), ([6, 5, 4, 0, 1, 2, 3, 4, 5], [5, 6])])
def reg46.B5 : List Nat := [0, 1, 0, 0, 8, 24, 63, 127]
theorem reg46.tab5 : rtab .any (opsOf Try.f46 5) = reg46.T5 := by kernel_rfl
theorem reg46.bits5 : waitsOk reg46.T5.2 reg46.B5 = true := by kernel_rfl
def O44 : Obj := .cells #[.int .i64 0, .slice none 0 0] 44 (0, 0)
/-- The blocks of an image that is being read: m the bytes, t the image. -/
structure IB (b m t : Nat) (cs : Array Value) (o : Obj) (W : World) : Prop where
  hm : b + 1 < m
  ht : b + 1 < t
  ne : m ≠ t
  bm : W.heap[m]? = some (.cells cs 5 (0, 0))
  bt : W.heap[t]? = some o
theorem IB.read {b m t g : Nat} {cs : Array Value} {o : Obj} {W w' : World} (h : IB b m t cs o W) (hgb : g < b) (hg : W.grownBy w' (some g)) : IB b m t cs o w' :=
  ⟨h.hm, h.ht, h.ne, blk_grown h.bm hg (fun e => by injection e with e; have := h.hm; omega), blk_grown h.bt hg (fun e => by injection e with e; have := h.ht; omega)⟩
theorem IB.drew {b m t : Nat} {cs : Array Value} {o : Obj} {W : World} (h : IB b m t cs o W) : IB b m t cs o W.drew := ⟨h.hm, h.ht, h.ne, blk_drew h.bm, blk_drew h.bt⟩
theorem pOne {l : List Int} {x : Int} {rest : List Int} (h : pNum 1 l = .ok (x, rest)) : l = x :: rest := by
  unfold pNum at h
  split at h
  · cases h
  · rename_i hl
    cases l with
    | nil => simp at hl
    | cons y l =>
      injection h with h
      injection h with h1 h2
      subst h2
      subst h1
      simp [leN]
theorem u8_byte {x : Int} (h : byteB x) : IntKind.u8.wrap x = x := by
  unfold byteB at h
  rw [IntKind.wrap_u8]; omega
set_option maxRecDepth 100000 in
set_option maxHeartbeats 3200000 in
theorem rimage (w0 W : World) (g : Nat) (l : List Int) (h : Rdy w0 W g l) :
    Calls Try.prog 46 #[.agg #[.pointer (some ⟨g, 0, none⟩)]] W fun e w' => RImg w0 W g (pImage l) e w' := by
  have PAN := Aside0.mk (fun (n : Int) (w' : World) (hp : pNum 1 l = .error n) (hg : W.grownBy w' (some g)) => (show RImg w0 W g (pImage l) (.panicked (stopped n)) w' from by
    unfold pImage; rw [hp]; exact ⟨rfl, hg⟩))
  have PAN2 := Aside0.mk (fun (k n : Int) (r : List Int) (i : Nat) (w' : World) (hp : pNum 1 l = .ok (k, r)) (h32 : i < 32) (hpn : pNum 1 (r.drop i) = .error n) (hg : W.grownBy w' (some g)) => (show RImg w0 W g (pImage l) (.panicked (stopped n)) w' from by
    unfold pNum at hpn
    split at hpn
    · rename_i hlt
      injection hpn with hpn
      rw [List.length_drop] at hlt
      unfold pImage; rw [hp]; dsimp only; rw [if_pos (by omega), ← hpn]; exact ⟨rfl, hg⟩
    · cases hpn))
  obtain ⟨W2, hW2⟩ : ∃ W2, (W.alloc (.cells #[.pointer (some ⟨g, 0, none⟩)] 61)).alloc O44 = W2 := ⟨_, rfl⟩
  have hb2 : Below W.heap.size W W2 := by rw [← hW2]; exact ((Below.refl _ _).alloc (Nat.le_refl _) _).alloc (by simp) _
  have hx1 : W2.heap[W.heap.size]? = some (.cells #[.pointer (some ⟨g, 0, none⟩)] 61 (0, 0)) := by rw [← hW2]; simpa using blk_alloc (blk_new W (.cells #[.pointer (some ⟨g, 0, none⟩)] 61)) O44
  have hx2 : W2.heap[W.heap.size + 1]? = some O44 := by rw [← hW2]; simpa using blk_new (W.alloc (.cells #[.pointer (some ⟨g, 0, none⟩)] 61)) O44
  have hIS : IS w0 W g W.heap.size O44 W2 l := ⟨h.later hb2, hx1, hx2, grown_b hb2 (some g)⟩
  have HGB := Aside0.mk h.lt
  have ISD := Aside0.mk hIS.drew
  have hu := Try.underlying61
  have hu2 := Try.underlying44
  have hu3 := Try.underlying22
  obtain ⟨b1, hb1⟩ : ∃ b1, W.heap.size = b1 := ⟨_, rfl⟩
  rw [hb1] at HGB ISD
  have HBS := Aside0.mk hb1
  unfold O44 at hW2
  clear h hx1 hx2 hb2 hIS
  go_enter Try.func46, Try.ntmps46
  go_upto_region 1 with (fail)
  clear hW2 hb1
  refine start_ (n := 6) (S := fun w' => w'.cell? ⟨b1, 0, none⟩ = some (.pointer (some ⟨g, 0, none⟩))) (ds := [5]) #[false, false, false, false, false, false] rfl rfl rfl ISD.out.cell (fun hHeld => ?_)
  refine with_tabW reg46.tab1 reg46.bits1 (fun HT_ HW_ => ?_)
  refine tz_ 0 5 HT_ HW_ hHeld ?_
  have hmk := Aside0.mk (fun (w' : World) => (show (Instr.makeSlice 22 (.int .i64 32) (.int .i64 32)).run Try.prog w' = .ok (.slice (some ⟨w'.heap.size, 0, none⟩) 32 32) (w'.alloc (.cells (part l 0) 5)) from by
    rw [part_zero]; exact print_make 22 5 .u8 1 Try.underlying22 (by kernel_rfl) (by decide) 32 (by decide) w'))
  generalize W2.drew = WD at *
  clear W2
  refine join_ (σ := Int × Nat × Nat) 1 #[true, true, true, true, true, false] (fun q => [(6, .int .i64 q.1), (7, .slice (some ⟨q.2.1, 0, none⟩) 32 32), (8, .agg #[.int .i64 q.1, .slice (some ⟨q.2.1, 0, none⟩) 32 32]), (3, .pointer (some ⟨q.2.2, 0, none⟩))]) (fun q w' => ∃ r, pNum 1 l = .ok (q.1, r) ∧ Aside0 (IS w0 W g b1 O44 w' r) ∧ Aside0 (IB b1 q.2.1 q.2.2 (part l 0) O44 w')) ?hcont ?hord
  case hord =>
    intro JN
    have JNN := Aside0.mk JN
    have hgb := HGB.out
    clear JN
    refine three_ (i := 1) (j := 2) (k := 4) (Ni := some 6) (Nj := some 7) (Nk := some 3) #[true, true, false, false, false, false] #[true, false, true, false, false, false] #[true, false, false, false, true, false] rfl rfl rfl rfl rfl rfl (three_of HT_.out (by kernel_rfl)) (by decide) (by decide) (by decide) (fun K hK => ?_) (fun K hK => ?_) (fun K hK => ?_)
    · refine goesP_ Try.func44 (by kernel_rfl) rfl #[.agg #[.pointer (some ⟨g, 0, none⟩)], .int .i64 1] (by rfl) rfl rfl ma_ ?_
      refine (rnum w0 _ g l 1 ISD.out.rdy (by omega) (by omega)).mono ?_
      intro e w1 hrd
      rcases Reads.split hrd with ⟨k, r, hp, rfl, hr, hg⟩ | ⟨n, hp, rfl, hg⟩
      rotate_left
      · exact Or.inr ⟨_, rfl, rfl, PAN.out _ _ hp (ISD.out.gr.trans hg)⟩
      refine Or.inl ⟨.int .i64 k, rfl, ?_⟩
      have is1 := ISD.out.read HGB.out hr hg
      have HP := Aside0.mk hp
      have IS1 := Aside0.mk is1
      refine hK.out _ _ is1.cell (fun hHeld => ?_)
      clear hK K is1 hrd hp hr hg
      refine two_ (i := 2) (j := 4) (Ni := some 7) (Nj := some 3) #[true, true, true, false, false, false] #[true, true, false, false, true, false] rfl rfl rfl rfl (two_of HT_.out (by kernel_rfl)) (by decide) (by decide) (fun K hK => ?_) (fun K hK => ?_)
      · refine value_ (by rfl) rfl (v := .slice (some ⟨w1.heap.size, 0, none⟩) 32 32) (w1 := w1.alloc (.cells (part l 0) 5)) (by go_simp; rw [hmk.out]; rfl) ?_
        have is2 := IS1.out.alloc (.cells (part l 0) 5)
        have bm2 := blk_new w1 (.cells (part l 0) 5)
        have lm2 := IS1.out.lt
        obtain ⟨m, hm⟩ : ∃ m, w1.heap.size = m := ⟨_, rfl⟩
        obtain ⟨w2, hw2⟩ : ∃ w2, w1.alloc (.cells (part l 0) 5) = w2 := ⟨_, rfl⟩
        rw [hw2] at is2 bm2
        rw [hm] at bm2 lm2
        rw [hm, hw2]
        have IS2 := Aside0.mk is2
        refine hK.out _ _ is2.cell (fun hHeld => ?_)
        clear hK K is2 hm hw2
        refine pz_ 3 8 HT_ ?_
        refine oz_ 4 3 HT_ (fun K hK => ?_)
        refine value_ (by rfl) rfl (v := .pointer (some ⟨w2.heap.size, 0, none⟩)) (w1 := w2.alloc (.cells #[.int .i64 0, .slice none 0 0] 44)) (by first | (go_simp; done) | (go_simp; rfl)) ?_
        have is3 := IS2.out.alloc (.cells #[.int .i64 0, .slice none 0 0] 44)
        have bt3 := blk_new w2 (.cells #[.int .i64 0, .slice none 0 0] 44)
        have lt3 := IS2.out.lt
        have bm2_3 := blk_alloc bm2 (.cells #[.int .i64 0, .slice none 0 0] 44)
        have ne3 := blk_lt bm2
        obtain ⟨t, ht⟩ : ∃ t, w2.heap.size = t := ⟨_, rfl⟩
        obtain ⟨w3, hw3⟩ : ∃ w3, w2.alloc (.cells #[.int .i64 0, .slice none 0 0] 44) = w3 := ⟨_, rfl⟩
        rw [hw3] at is3 bt3 bm2_3
        rw [ht] at bt3 lt3 ne3
        rw [ht, hw3]
        have IS3 := Aside0.mk is3
        refine hK.out _ _ is3.cell (fun hHeld => ?_)
        clear hK K is3 ht hw3
        exact norm_ pu_ (JNN.out (k, m, t) _ ⟨r, HP.out, IS3, ⟨IB.mk (b := b1) (m := m) (t := t) (by omega) (by omega) (by omega) bm2_3 bt3⟩⟩)
      · refine value_ (by rfl) rfl (v := .pointer (some ⟨w1.heap.size, 0, none⟩)) (w1 := w1.alloc (.cells #[.int .i64 0, .slice none 0 0] 44)) (by first | (go_simp; done) | (go_simp; rfl)) ?_
        have is4 := IS1.out.alloc (.cells #[.int .i64 0, .slice none 0 0] 44)
        have bt4 := blk_new w1 (.cells #[.int .i64 0, .slice none 0 0] 44)
        have lt4 := IS1.out.lt
        obtain ⟨t, ht⟩ : ∃ t, w1.heap.size = t := ⟨_, rfl⟩
        obtain ⟨w4, hw4⟩ : ∃ w4, w1.alloc (.cells #[.int .i64 0, .slice none 0 0] 44) = w4 := ⟨_, rfl⟩
        rw [hw4] at is4 bt4
        rw [ht] at bt4 lt4
        rw [ht, hw4]
        have IS4 := Aside0.mk is4
        refine hK.out _ _ is4.cell (fun hHeld => ?_)
        clear hK K is4 ht hw4
        refine oz_ 2 7 HT_ (fun K hK => ?_)
        refine value_ (by rfl) rfl (v := .slice (some ⟨w4.heap.size, 0, none⟩) 32 32) (w1 := w4.alloc (.cells (part l 0) 5)) (by go_simp; rw [hmk.out]; rfl) ?_
        have is5 := IS4.out.alloc (.cells (part l 0) 5)
        have bm5 := blk_new w4 (.cells (part l 0) 5)
        have lm5 := IS4.out.lt
        have bt4_5 := blk_alloc bt4 (.cells (part l 0) 5)
        have ne5 := blk_lt bt4
        obtain ⟨m, hm⟩ : ∃ m, w4.heap.size = m := ⟨_, rfl⟩
        obtain ⟨w5, hw5⟩ : ∃ w5, w4.alloc (.cells (part l 0) 5) = w5 := ⟨_, rfl⟩
        rw [hw5] at is5 bm5 bt4_5
        rw [hm] at bm5 lm5 ne5
        rw [hm, hw5]
        have IS5 := Aside0.mk is5
        refine hK.out _ _ is5.cell (fun hHeld => ?_)
        clear hK K is5 hm hw5
        refine pz_ 3 8 HT_ ?_
        exact norm_ pu_ (JNN.out (k, m, t) _ ⟨r, HP.out, IS5, ⟨IB.mk (b := b1) (m := m) (t := t) (by omega) (by omega) (by omega) bm5 bt4_5⟩⟩)
    · refine value_ (by rfl) rfl (v := .slice (some ⟨WD.heap.size, 0, none⟩) 32 32) (w1 := WD.alloc (.cells (part l 0) 5)) (by go_simp; rw [hmk.out]; rfl) ?_
      have is6 := ISD.out.alloc (.cells (part l 0) 5)
      have bm6 := blk_new WD (.cells (part l 0) 5)
      have lm6 := ISD.out.lt
      obtain ⟨m, hm⟩ : ∃ m, WD.heap.size = m := ⟨_, rfl⟩
      obtain ⟨w6, hw6⟩ : ∃ w6, WD.alloc (.cells (part l 0) 5) = w6 := ⟨_, rfl⟩
      rw [hw6] at is6 bm6
      rw [hm] at bm6 lm6
      rw [hm, hw6]
      have IS6 := Aside0.mk is6
      refine hK.out _ _ is6.cell (fun hHeld => ?_)
      clear hK K is6 hm hw6
      refine two_ (i := 1) (j := 4) (Ni := some 6) (Nj := some 3) #[true, true, true, false, false, false] #[true, false, true, false, true, false] rfl rfl rfl rfl (two_of HT_.out (by kernel_rfl)) (by decide) (by decide) (fun K hK => ?_) (fun K hK => ?_)
      · refine goesP_ Try.func44 (by kernel_rfl) rfl #[.agg #[.pointer (some ⟨g, 0, none⟩)], .int .i64 1] (by rfl) rfl rfl ma_ ?_
        refine (rnum w0 _ g l 1 IS6.out.rdy (by omega) (by omega)).mono ?_
        intro e w7 hrd
        rcases Reads.split hrd with ⟨k, r, hp, rfl, hr, hg⟩ | ⟨n, hp, rfl, hg⟩
        rotate_left
        · exact Or.inr ⟨_, rfl, rfl, PAN.out _ _ hp (IS6.out.gr.trans hg)⟩
        refine Or.inl ⟨.int .i64 k, rfl, ?_⟩
        have is7 := IS6.out.read HGB.out hr hg
        have HP := Aside0.mk hp
        have bm6_7 := blk_grown bm6 hg (fun e => by injection e with e; omega)
        have IS7 := Aside0.mk is7
        refine hK.out _ _ is7.cell (fun hHeld => ?_)
        clear hK K is7 hrd hp hr hg
        refine pz_ 3 8 HT_ ?_
        refine oz_ 4 3 HT_ (fun K hK => ?_)
        refine value_ (by rfl) rfl (v := .pointer (some ⟨w7.heap.size, 0, none⟩)) (w1 := w7.alloc (.cells #[.int .i64 0, .slice none 0 0] 44)) (by first | (go_simp; done) | (go_simp; rfl)) ?_
        have is8 := IS7.out.alloc (.cells #[.int .i64 0, .slice none 0 0] 44)
        have bt8 := blk_new w7 (.cells #[.int .i64 0, .slice none 0 0] 44)
        have lt8 := IS7.out.lt
        have bm6_7_8 := blk_alloc bm6_7 (.cells #[.int .i64 0, .slice none 0 0] 44)
        have ne8 := blk_lt bm6_7
        obtain ⟨t, ht⟩ : ∃ t, w7.heap.size = t := ⟨_, rfl⟩
        obtain ⟨w8, hw8⟩ : ∃ w8, w7.alloc (.cells #[.int .i64 0, .slice none 0 0] 44) = w8 := ⟨_, rfl⟩
        rw [hw8] at is8 bt8 bm6_7_8
        rw [ht] at bt8 lt8 ne8
        rw [ht, hw8]
        have IS8 := Aside0.mk is8
        refine hK.out _ _ is8.cell (fun hHeld => ?_)
        clear hK K is8 ht hw8
        exact norm_ pu_ (JNN.out (k, m, t) _ ⟨r, HP.out, IS8, ⟨IB.mk (b := b1) (m := m) (t := t) (by omega) (by omega) (by omega) bm6_7_8 bt8⟩⟩)
      · refine value_ (by rfl) rfl (v := .pointer (some ⟨w6.heap.size, 0, none⟩)) (w1 := w6.alloc (.cells #[.int .i64 0, .slice none 0 0] 44)) (by first | (go_simp; done) | (go_simp; rfl)) ?_
        have is9 := IS6.out.alloc (.cells #[.int .i64 0, .slice none 0 0] 44)
        have bt9 := blk_new w6 (.cells #[.int .i64 0, .slice none 0 0] 44)
        have lt9 := IS6.out.lt
        have bm6_9 := blk_alloc bm6 (.cells #[.int .i64 0, .slice none 0 0] 44)
        have ne9 := blk_lt bm6
        obtain ⟨t, ht⟩ : ∃ t, w6.heap.size = t := ⟨_, rfl⟩
        obtain ⟨w9, hw9⟩ : ∃ w9, w6.alloc (.cells #[.int .i64 0, .slice none 0 0] 44) = w9 := ⟨_, rfl⟩
        rw [hw9] at is9 bt9 bm6_9
        rw [ht] at bt9 lt9 ne9
        rw [ht, hw9]
        have IS9 := Aside0.mk is9
        refine hK.out _ _ is9.cell (fun hHeld => ?_)
        clear hK K is9 ht hw9
        refine oz_ 1 6 HT_ (fun K hK => ?_)
        refine goesP_ Try.func44 (by kernel_rfl) rfl #[.agg #[.pointer (some ⟨g, 0, none⟩)], .int .i64 1] (by rfl) rfl rfl ma_ ?_
        refine (rnum w0 _ g l 1 IS9.out.rdy (by omega) (by omega)).mono ?_
        intro e w10 hrd
        rcases Reads.split hrd with ⟨k, r, hp, rfl, hr, hg⟩ | ⟨n, hp, rfl, hg⟩
        rotate_left
        · exact Or.inr ⟨_, rfl, rfl, PAN.out _ _ hp (IS9.out.gr.trans hg)⟩
        refine Or.inl ⟨.int .i64 k, rfl, ?_⟩
        have is10 := IS9.out.read HGB.out hr hg
        have HP := Aside0.mk hp
        have bm6_9_10 := blk_grown bm6_9 hg (fun e => by injection e with e; omega)
        have bt9_10 := blk_grown bt9 hg (fun e => by injection e with e; omega)
        have IS10 := Aside0.mk is10
        refine hK.out _ _ is10.cell (fun hHeld => ?_)
        clear hK K is10 hrd hp hr hg
        refine pz_ 3 8 HT_ ?_
        exact norm_ pu_ (JNN.out (k, m, t) _ ⟨r, HP.out, IS10, ⟨IB.mk (b := b1) (m := m) (t := t) (by omega) (by omega) (by omega) bm6_9_10 bt9_10⟩⟩)
    · refine value_ (by rfl) rfl (v := .pointer (some ⟨WD.heap.size, 0, none⟩)) (w1 := WD.alloc (.cells #[.int .i64 0, .slice none 0 0] 44)) (by first | (go_simp; done) | (go_simp; rfl)) ?_
      have is11 := ISD.out.alloc (.cells #[.int .i64 0, .slice none 0 0] 44)
      have bt11 := blk_new WD (.cells #[.int .i64 0, .slice none 0 0] 44)
      have lt11 := ISD.out.lt
      obtain ⟨t, ht⟩ : ∃ t, WD.heap.size = t := ⟨_, rfl⟩
      obtain ⟨w11, hw11⟩ : ∃ w11, WD.alloc (.cells #[.int .i64 0, .slice none 0 0] 44) = w11 := ⟨_, rfl⟩
      rw [hw11] at is11 bt11
      rw [ht] at bt11 lt11
      rw [ht, hw11]
      have IS11 := Aside0.mk is11
      refine hK.out _ _ is11.cell (fun hHeld => ?_)
      clear hK K is11 ht hw11
      refine two_ (i := 1) (j := 2) (Ni := some 6) (Nj := some 7) #[true, true, false, false, true, false] #[true, false, true, false, true, false] rfl rfl rfl rfl (two_of HT_.out (by kernel_rfl)) (by decide) (by decide) (fun K hK => ?_) (fun K hK => ?_)
      · refine goesP_ Try.func44 (by kernel_rfl) rfl #[.agg #[.pointer (some ⟨g, 0, none⟩)], .int .i64 1] (by rfl) rfl rfl ma_ ?_
        refine (rnum w0 _ g l 1 IS11.out.rdy (by omega) (by omega)).mono ?_
        intro e w12 hrd
        rcases Reads.split hrd with ⟨k, r, hp, rfl, hr, hg⟩ | ⟨n, hp, rfl, hg⟩
        rotate_left
        · exact Or.inr ⟨_, rfl, rfl, PAN.out _ _ hp (IS11.out.gr.trans hg)⟩
        refine Or.inl ⟨.int .i64 k, rfl, ?_⟩
        have is12 := IS11.out.read HGB.out hr hg
        have HP := Aside0.mk hp
        have bt11_12 := blk_grown bt11 hg (fun e => by injection e with e; omega)
        have IS12 := Aside0.mk is12
        refine hK.out _ _ is12.cell (fun hHeld => ?_)
        clear hK K is12 hrd hp hr hg
        refine oz_ 2 7 HT_ (fun K hK => ?_)
        refine value_ (by rfl) rfl (v := .slice (some ⟨w12.heap.size, 0, none⟩) 32 32) (w1 := w12.alloc (.cells (part l 0) 5)) (by go_simp; rw [hmk.out]; rfl) ?_
        have is13 := IS12.out.alloc (.cells (part l 0) 5)
        have bm13 := blk_new w12 (.cells (part l 0) 5)
        have lm13 := IS12.out.lt
        have bt11_12_13 := blk_alloc bt11_12 (.cells (part l 0) 5)
        have ne13 := blk_lt bt11_12
        obtain ⟨m, hm⟩ : ∃ m, w12.heap.size = m := ⟨_, rfl⟩
        obtain ⟨w13, hw13⟩ : ∃ w13, w12.alloc (.cells (part l 0) 5) = w13 := ⟨_, rfl⟩
        rw [hw13] at is13 bm13 bt11_12_13
        rw [hm] at bm13 lm13 ne13
        rw [hm, hw13]
        have IS13 := Aside0.mk is13
        refine hK.out _ _ is13.cell (fun hHeld => ?_)
        clear hK K is13 hm hw13
        refine pz_ 3 8 HT_ ?_
        exact norm_ pu_ (JNN.out (k, m, t) _ ⟨r, HP.out, IS13, ⟨IB.mk (b := b1) (m := m) (t := t) (by omega) (by omega) (by omega) bm13 bt11_12_13⟩⟩)
      · refine value_ (by rfl) rfl (v := .slice (some ⟨w11.heap.size, 0, none⟩) 32 32) (w1 := w11.alloc (.cells (part l 0) 5)) (by go_simp; rw [hmk.out]; rfl) ?_
        have is14 := IS11.out.alloc (.cells (part l 0) 5)
        have bm14 := blk_new w11 (.cells (part l 0) 5)
        have lm14 := IS11.out.lt
        have bt11_14 := blk_alloc bt11 (.cells (part l 0) 5)
        have ne14 := blk_lt bt11
        obtain ⟨m, hm⟩ : ∃ m, w11.heap.size = m := ⟨_, rfl⟩
        obtain ⟨w14, hw14⟩ : ∃ w14, w11.alloc (.cells (part l 0) 5) = w14 := ⟨_, rfl⟩
        rw [hw14] at is14 bm14 bt11_14
        rw [hm] at bm14 lm14 ne14
        rw [hm, hw14]
        have IS14 := Aside0.mk is14
        refine hK.out _ _ is14.cell (fun hHeld => ?_)
        clear hK K is14 hm hw14
        refine oz_ 1 6 HT_ (fun K hK => ?_)
        refine goesP_ Try.func44 (by kernel_rfl) rfl #[.agg #[.pointer (some ⟨g, 0, none⟩)], .int .i64 1] (by rfl) rfl rfl ma_ ?_
        refine (rnum w0 _ g l 1 IS14.out.rdy (by omega) (by omega)).mono ?_
        intro e w15 hrd
        rcases Reads.split hrd with ⟨k, r, hp, rfl, hr, hg⟩ | ⟨n, hp, rfl, hg⟩
        rotate_left
        · exact Or.inr ⟨_, rfl, rfl, PAN.out _ _ hp (IS14.out.gr.trans hg)⟩
        refine Or.inl ⟨.int .i64 k, rfl, ?_⟩
        have is15 := IS14.out.read HGB.out hr hg
        have HP := Aside0.mk hp
        have bt11_14_15 := blk_grown bt11_14 hg (fun e => by injection e with e; omega)
        have bm14_15 := blk_grown bm14 hg (fun e => by injection e with e; omega)
        have IS15 := Aside0.mk is15
        refine hK.out _ _ is15.cell (fun hHeld => ?_)
        clear hK K is15 hrd hp hr hg
        refine pz_ 3 8 HT_ ?_
        exact norm_ pu_ (JNN.out (k, m, t) _ ⟨r, HP.out, IS15, ⟨IB.mk (b := b1) (m := m) (t := t) (by omega) (by omega) (by omega) bm14_15 bt11_14_15⟩⟩)
  case hcont =>
    rintro ⟨k, m, t⟩ w3 ⟨r, hp, HIS, HIB⟩
    simp only at hp HIB
    refine norm_ (a' := ?_) ?_ ?_
    rotate_left
    · simp only [putAll, Act.put, List.setIfInBounds_toArray, List.set_cons_zero, List.set_cons_succ]; rfl
    refine last_ (i := 5) (N := none) #[true, true, true, true, true, true] rfl rfl (one_of HT_.out (by kernel_rfl)) (by decide) (fun K hK => ?_)
    have hIB := HIB.out
    have y0 : w3.cell? ⟨t, 0, none⟩ = some (.int .i64 0) := (blk_cell hIB.bt 0).trans rfl
    have f0 := blk_frozen hIB.bt 0
    have k1 : (w3.setCell ⟨t, 0, none⟩ (.int .i64 k)).heap[t]? = some (.cells #[.int .i64 k, .slice none 0 0] 44 (0, 0)) := by simpa using blk_set hIB.bt 0 (.int .i64 k)
    have y1 : (w3.setCell ⟨t, 0, none⟩ (.int .i64 k)).cell? ⟨t, 1, none⟩ = some (.slice none 0 0) := (blk_cell k1 1).trans rfl
    have f1 := blk_frozen k1 1
    have k2 : ((w3.setCell ⟨t, 0, none⟩ (.int .i64 k)).setCell ⟨t, 1, none⟩ (.slice (some ⟨m, 0, none⟩) 32 32)).heap[t]? = some (.cells #[.int .i64 k, .slice (some ⟨m, 0, none⟩) 32 32] 44 (0, 0)) := by simpa using blk_set k1 1 (.slice (some ⟨m, 0, none⟩) 32 32)
    have kIS := (HIS.out.set HGB.out (k := 0) hIB.ht (by have := HBS.out; omega) (.int .i64 k)).set HGB.out (k := 1) hIB.ht (by have := HBS.out; omega) (.slice (some ⟨m, 0, none⟩) 32 32)
    have kIB : IB b1 m t (part l 0) (.cells #[.int .i64 k, .slice (some ⟨m, 0, none⟩) 32 32] 44 (0, 0)) ((w3.setCell ⟨t, 0, none⟩ (.int .i64 k)).setCell ⟨t, 1, none⟩ (.slice (some ⟨m, 0, none⟩) 32 32)) :=
      IB.mk hIB.hm hIB.ht hIB.ne ((Below.heap_setCell _ ⟨t, 1, none⟩ _ m hIB.ne).trans ((Below.heap_setCell w3 ⟨t, 0, none⟩ _ m hIB.ne).trans hIB.bm)) k2
    have KIS := Aside0.mk kIS
    rw [show part l 0 = part r 0 by rw [part_zero, part_zero]] at kIB
    have KIB := Aside0.mk kIB
    have HP := Aside0.mk hp
    clear k1 k2 kIS kIB hIB HIS HIB hp
    refine skip_ (w1 := (w3.setCell ⟨t, 0, none⟩ (.int .i64 k)).setCell ⟨t, 1, none⟩ (.slice (some ⟨m, 0, none⟩) 32 32)) (by rfl) rfl (by first | (go_simp; done) | (go_simp; rfl)) ?_
    refine hK.out _ _ ?_
    clear hK K y0 y1 f0 f1
    refine done_ (done_of HT_.out (by kernel_rfl)) ?_
    clear HT_ HW_ hHeld
    generalize (w3.setCell ⟨t, 0, none⟩ (.int .i64 k)).setCell ⟨t, 1, none⟩ (.slice (some ⟨m, 0, none⟩) 32 32) = w4 at *
    clear hmk ISD
    have c1 : w4.cell? ⟨t, 1, none⟩ = some (.slice (some ⟨m, 0, none⟩) 32 32) := (blk_cell KIB.out.bt 1).trans rfl
    go_wp2
    clear c1
    go_loopg [12] 32 (fun gg s12 wr => ∃ i : Nat, i ≤ 32 ∧ 32 - i ≤ gg ∧ s12 = .int .i64 i ∧ Aside0 (i ≤ r.length) ∧ Aside0 (IS w0 W g b1 O44 wr (r.drop i)) ∧ Aside0 (IB b1 m t (part r i) (.cells #[.int .i64 k, .slice (some ⟨m, 0, none⟩) 32 32] 44 (0, 0)) wr))
    case atStart =>
      exact ⟨0, by omega, by omega, rfl, ⟨Nat.zero_le _⟩, KIS, KIB⟩
    case round =>
      obtain ⟨i, hi, hgi, rfl, HRL, HS, HB⟩ := hrel
      clear KIS KIB
      by_cases hlt : i < 32
      · go_upto_region 5 with (fail)
        have hgb := HGB.out
        have HSD := Aside0.mk HS.out.drew
        have HBD := Aside0.mk HB.out.drew
        have hi0 : (0 ≤ (i : Int)) = True := eq_true (by omega)
        have hi1 : ((i : Int) < 32) = True := eq_true (by omega)
        refine start_ (n := 8) (S := fun w' => w'.cell? ⟨t, 1, none⟩ = some (.slice (some ⟨m, 0, none⟩) 32 32) ∧ w'.cell? ⟨b1, 0, none⟩ = some (.pointer (some ⟨g, 0, none⟩))) (ds := [7]) #[false, false, false, false, false, false, false, false] rfl rfl rfl ⟨(blk_cell HBD.out.bt 1).trans rfl, HSD.out.cell⟩ (fun hHeld => ?_)
        refine with_tabW reg46.tab5 reg46.bits5 (fun HT_ HW_ => ?_)
        generalize wr.drew = WD at *
        clear HS HB wr
        refine pz_ 0 15 HT_ ?_
        refine tz_ 1 16 HT_ HW_ hHeld ?_
        refine pz_ 2 17 HT_ ?_
        refine tz_ 3 18 HT_ HW_ hHeld ?_
        refine oz_ 4 19 HT_ (fun K hK => ?_)
        refine goesP_ Try.func44 (by kernel_rfl) rfl #[.agg #[.pointer (some ⟨g, 0, none⟩)], .int .i64 1] (by rfl) rfl rfl ma_ ?_
        refine (rnum w0 _ g _ 1 HSD.out.rdy (by omega) (by omega)).mono ?_
        intro e w6 hrd
        rcases Reads.split hrd with ⟨x, q, hpq, rfl, hr, hg⟩ | ⟨n, hpn, rfl, hg⟩
        rotate_left
        · exact Or.inr ⟨_, rfl, rfl, PAN2.out k n r i w6 HP.out hlt hpn (HSD.out.gr.trans hg)⟩
        refine Or.inl ⟨.int .i64 x, rfl, ?_⟩
        have hd := pOne hpq
        have hx : byteB x := HSD.out.rdy.bytes x (by rw [hd]; exact List.mem_cons_self)
        have wx := u8_byte hx
        have hil : i < r.length := by
          have := congrArg List.length hd
          rw [List.length_drop, List.length_cons] at this; omega
        have hxi : r[i] = x := by
          rw [List.drop_eq_getElem_cons hil] at hd
          injection hd
        have hq : q = r.drop (i + 1) := by
          rw [List.drop_eq_getElem_cons hil] at hd
          injection hd with _ h2
          exact h2.symm
        subst hq
        have IS6 := Aside0.mk (HSD.out.read hgb hr hg)
        have ib6 := HBD.out.read hgb hg
        have hset := part_set r i hlt hil
        rw [hxi] at hset
        have z6 : w6.cell? ⟨m, i, none⟩ = some (.int .u8 0) := (blk_cell ib6.bm i).trans (part_at r i hlt (by omega))
        have f6 := blk_frozen ib6.bm i
        have k6 := blk_set ib6.bm i (.int .u8 x)
        rw [hset] at k6
        have IS7 := Aside0.mk (IS6.out.set hgb (k := i) ib6.hm (by have := HBS.out; omega) (.int .u8 x))
        have IB7 := Aside0.mk (IB.mk ib6.hm ib6.ht ib6.ne k6 ((Below.heap_setCell w6 ⟨m, i, none⟩ _ t (fun e => ib6.ne e.symm)).trans ib6.bt))
        have HIL := Aside0.mk hil
        refine hK.out _ _ ⟨(blk_cell ib6.bt 1).trans rfl, IS6.out.cell⟩ (fun hHeld => ?_)
        clear hK K hpq hrd hr hg hd hx hil hxi ib6 hset k6 HP
        refine pz_ 5 20 HT_ ?_
        refine pz_ 6 21 HT_ ?_
        refine last_ (i := 7) (N := none) #[true, true, true, true, true, true, true, true] rfl rfl (one_of HT_.out (by kernel_rfl)) (by decide) (fun K hK => ?_)
        refine skip_ (w1 := w6.setCell ⟨m, i, none⟩ (.int .u8 x)) (by rfl) rfl (by first | (go_simp; done) | (go_simp; rfl)) ?_
        refine hK.out _ _ ?_
        clear hK K z6 f6
        refine done_ (done_of HT_.out (by kernel_rfl)) ?_
        clear HT_ HW_ hHeld
        generalize w6.setCell ⟨m, i, none⟩ (.int .u8 x) = w7 at *
        go_wp2
        go_roundg (32 - (i + 1))
        case measure => omega
        case rel => exact ⟨i + 1, by omega, by omega, by go_num, ⟨HIL.out⟩, IS7, IB7⟩
      · have : i = 32 := by omega
        subst this
        have hh := HB.out
        have hs := HS.out
        have m0 : wr.cell? ⟨t, 0, none⟩ = some (.int .i64 k) := (blk_cell hh.bt 0).trans rfl
        have m1 : wr.cell? ⟨t, 1, none⟩ = some (.slice (some ⟨m, 0, none⟩) 32 32) := (blk_cell hh.bt 1).trans rfl
        have z2 := hs.out
        have d0 : wr.cell? ⟨b1 + 1, 0, none⟩ = some (.int .i64 0) := (blk_cell z2 0).trans rfl
        have e0 := blk_frozen z2 0
        have y2 : (wr.setCell ⟨b1 + 1, 0, none⟩ (.int .i64 k)).heap[b1 + 1]? = some (.cells #[.int .i64 k, .slice none 0 0] 44 (0, 0)) := by simpa using blk_set z2 0 (.int .i64 k)
        have d1 : (wr.setCell ⟨b1 + 1, 0, none⟩ (.int .i64 k)).cell? ⟨b1 + 1, 1, none⟩ = some (.slice none 0 0) := (blk_cell y2 1).trans rfl
        have e1 := blk_frozen y2 1
        have y3 : ((wr.setCell ⟨b1 + 1, 0, none⟩ (.int .i64 k)).setCell ⟨b1 + 1, 1, none⟩ (.slice (some ⟨m, 0, none⟩) 32 32)).heap[b1 + 1]? = some (.cells #[.int .i64 k, .slice (some ⟨m, 0, none⟩) 32 32] 44 (0, 0)) := by simpa using blk_set y2 1 (.slice (some ⟨m, 0, none⟩) 32 32)
        have hgb := HGB.out
        have HY3 := Aside0.mk y3
        have HR9 := Aside0.mk ((hs.rdy.far (k := 0) (show g < b1 + 1 by omega) (.int .i64 k)).far (k := 1) (show g < b1 + 1 by omega) (.slice (some ⟨m, 0, none⟩) 32 32))
        have HG9 := Aside0.mk (grown_far (k := 1) (grown_far (k := 0) hs.gr (show W.heap.size ≤ b1 + 1 by have := HBS.out; omega) (.int .i64 k)) (show W.heap.size ≤ b1 + 1 by have := HBS.out; omega) (.slice (some ⟨m, 0, none⟩) 32 32))
        have HM9 := Aside0.mk ((Below.heap_setCell (wr.setCell ⟨b1 + 1, 0, none⟩ (.int .i64 k)) ⟨b1 + 1, 1, none⟩ (.slice (some ⟨m, 0, none⟩) 32 32) m (by have := hh.hm; show m ≠ b1 + 1; omega)).trans ((Below.heap_setCell wr ⟨b1 + 1, 0, none⟩ (.int .i64 k) m (by have := hh.hm; show m ≠ b1 + 1; omega)).trans hh.bm))
        have HMM := Aside0.mk hh.hm
        clear y2 y3 z2 hh hs HS HB
        go_wp2
        clear m0 m1 d0 d1 e0 e1
        generalize (wr.setCell ⟨b1 + 1, 0, none⟩ (.int .i64 k)).setCell ⟨b1 + 1, 1, none⟩ (.slice (some ⟨m, 0, none⟩) 32 32) = w9 at *
        have r0 : w9.cell? ⟨b1 + 1, 0, none⟩ = some (.int .i64 k) := (blk_cell HY3.out 0).trans rfl
        have r1 : w9.cell? ⟨b1 + 1, 1, none⟩ = some (.slice (some ⟨m, 0, none⟩) 32 32) := (blk_cell HY3.out 1).trans rfl
        refine bodyPost_ret (v := .agg #[.int .i64 k, .slice (some ⟨m, 0, none⟩) 32 32]) ?_ rfl ?_
        · have hf : Try.f46.results = #[.cell 2 44] := rfl
          unfold results
          rw [hf]
          go_simp
          try rfl
        · unfold pImage
          rw [HP.out]
          dsimp only
          rw [if_neg (by have := HRL.out; omega)]
          exact ⟨_, rfl, part_row r HRL.out HM9.out (by have := HMM.out; have := HBS.out; omega), HR9.out, HG9.out⟩
end Go.Proofs.Ythcikbbglpdjhaa.Q
