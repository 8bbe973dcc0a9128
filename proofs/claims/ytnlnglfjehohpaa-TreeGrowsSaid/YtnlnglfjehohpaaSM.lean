import Derived.Test.YtnlnglfjehohpaaSL
namespace Go.Proofs.Ytnlnglfjehohpaa.Q
open Go.RowKit Go.Proofs.YtnlnglfjehohpaaW Go.Proofs.YtnlnglfjehohpaaW.PrintWords Go.Proofs.YtnlnglfjehohpaaW.PrintLast Go.Proofs.YtnlnglfjehohpaaW.PrintMore
set_option linter.unusedVariables false
set_option linter.unusedSimpArgs false
theorem ki_own {W : World} {base : Nat} {ok : Nat → Prop} {v : Value} {xs : List Int} (h : KI.R 3 W base ok v xs) : W.ownsRow base 3 1 v xs.length (iV xs) := Kd.own_of_R h
theorem ki_of {W : World} {base : Nat} {v : Value} {xs : List Int} (h : W.ownsRow base 3 1 v xs.length (iV xs)) : KI.R 3 W base (fun _ => True) v xs := Kd.R_of_own h (fun _ _ => trivial)
/-- What stays through the telling: the box of the tree (in w1, ahead of all), the map M, its box b3, the boxes of out and tell. -/
structure Tfix (w1 : World) (bt : Nat) (A : Option Addr) (ct n : Nat) (l : List S35) (M b3 base b6 b7 B0 : Nat) (kids : Int → List Int) (par : Int → Int) : Prop where
  len : l.length = n
  tcell : w1.cell? ⟨bt, 0, none⟩ = some (.slice A n ct)
  row : Kd.C k35 w1 A n l
  small : n < 1000
  s1 : w1.heap.size ≤ base
  s2 : M < base ∧ b3 < base
  s3 : base ≤ b6 ∧ base ≤ b7 ∧ b6 ≠ b7 ∧ b6 < B0 ∧ b7 < B0
  kin : Kin kids par n
/-- The world of the telling. -/
structure Tw (w1 : World) (bt M b3 base b6 b7 B0 : Nat) (vals : Int → Value) (kids : Int → List Int) (W : World) (st : Int → List Int) (out : List Int) : Prop where
  below : Below w1.heap.size w1 W
  own : ∃ ls, Stk W base M ls st ∧ ∀ t ∈ ls, t.2.1 = vals t.1 ∧ ∀ k, t.2.1.ownBlock = some k → k < B0
  perm : ∀ q, (st q).Perm (kids q)
  mbox : W.heap[b3]? = some (.cells #[.map (some M)] 59 (0, 0))
  obox : ∃ v, W.heap[b6]? = some (.cells #[v] 28 (0, 0)) ∧ KI.R 3 W B0 (fun _ => True) v out
  tbox : W.heap[b7]? = some (.cells #[.func (.func 34) #[] #[.pointer (some ⟨b3, 0, none⟩), .pointer (some ⟨bt, 0, none⟩), .pointer (some ⟨b6, 0, none⟩), .pointer (some ⟨b7, 0, none⟩)]] 60 (0, 0))
  size : B0 ≤ W.heap.size
section
variable {w1 : World} {bt : Nat} {A : Option Addr} {ct n : Nat} {l : List S35} {M b3 base b6 b7 B0 : Nat} {vals : Int → Value} {kids : Int → List Int} {par : Int → Int} {W W' : World} {st : Int → List Int} {out : List Int}
theorem upd_same (st : Int → List Int) (p : Int) : upd st p (st p) = st := by
  funext y; unfold upd; split
  · rename_i h; rw [h]
  · rfl
theorem Stk.keep {ls : List Ent} (h : Stk W base M ls st) (hM : W'.heap[M]? = W.heap[M]?) (hg : ∀ t ∈ ls, ∀ k, t.2.1.ownBlock = some k → W'.heap[k]? = W.heap[k]?) (hs : base ≤ W'.heap.size) : Stk W' base M ls st :=
  ⟨h.map.same hM, fun t ht => own_move (h.own t ht) (hg t ht), h.key, h.apart, h.low, hs, h.has, h.no⟩
/-- p's row has been sorted where it lies. -/
theorem Tw.sorted (F : Tfix w1 bt A ct n l M b3 base b6 b7 B0 kids par) (h : Tw w1 bt M b3 base b6 b7 B0 vals kids W st out) (p : Int) (v : Value) {ls : List Ent} (hS : Stk W base M ls st) (hlt : ∀ t ∈ ls, t.2.1 = vals t.1 ∧ ∀ k, t.2.1.ownBlock = some k → k < B0) (hv : (∃ j : Nat, ls[j]? = some (p, v, st p)) ∨ v = .slice none 0 0 ∧ st p = []) (hown : W.ownsRow base 3 1 v (st p).length (iV (st p)))
    (T : List Int) (hT : T.Perm (st p)) (hr : W'.ownsRow base 3 1 v T.length (iV T)) (hb : Below w1.heap.size w1 W') (hg : W.grownBy W' v.ownBlock) : Tw w1 bt M b3 base b6 b7 B0 vals kids W' (upd st p T) out := by
  have hvb : ∀ k, v.ownBlock = some k → base ≤ k ∧ k < B0 := by
    intro k hk
    refine ⟨own_base hown k hk, ?_⟩
    rcases hv with ⟨j, hj⟩ | ⟨rfl, _⟩
    · exact (hlt _ (List.mem_of_getElem? hj)).2 k hk
    · simp [Value.ownBlock] at hk
  obtain ⟨vo, ho1, ho2⟩ := h.obox
  refine ⟨hb, ?_, ?_, ?_, ⟨vo, ?_, ?_⟩, ?_, Nat.le_trans h.size hg.size⟩
  · rcases hv with ⟨j, hj⟩ | ⟨rfl, h0⟩
    · have hm := List.mem_of_getElem? hj
      have hMb : some M ≠ v.ownBlock := fun e => by have := own_base (hS.own _ hm) M e.symm; have := hS.low; omega
      have hmap := hS.map.same (hg.block M hS.map.lt hMb)
      refine ⟨ls.set j (p, v, T), hS.stored hj (v' := v) (xs' := T) ?_ hr (.inl rfl) hg.size (fun g hb hgs hne => hg.block g hgs (fun e => hne e.symm)), ?_⟩
      · have : (ls.map fun t => (encE t.1, t.2.1)).set j (encE p, v) = ls.map fun t => (encE t.1, t.2.1) := by
          apply List.ext_getElem?
          intro i
          rw [List.getElem?_set]
          split
          · rename_i e; subst e
            split
            · rw [List.getElem?_map, hj]; rfl
            · rename_i hlt; rw [List.getElem?_eq_none (by omega)]
          · rfl
        rw [this]
        exact hmap
      · intro t ht
        rcases List.mem_or_eq_of_mem_set ht with ht | rfl
        · exact hlt t ht
        · exact ⟨(hlt _ hm).1, fun k hk => (hvb k hk).2⟩
    · have hT0 : T = [] := by rw [h0] at hT; exact List.perm_nil.1 hT
      subst hT0
      rw [← h0, upd_same]
      exact ⟨ls, hS.move (hg.block M hS.map.lt (by simp [Value.ownBlock])) (fun g _ hgs => hg.block g hgs (by simp [Value.ownBlock])) hg.size, hlt⟩
  · intro q
    unfold upd
    split
    · rename_i e; rw [e]; exact hT.trans (h.perm p)
    · exact h.perm q
  · exact blk_grown h.mbox hg (fun e => by have := (hvb b3 e.symm).1; have := F.s2; omega)
  · exact blk_grown ho1 hg (fun e => own_ne hown ho1 (by decide) e)
  · exact Kd.R_grown (Kd.R_mono (ok' := fun k => B0 ≤ k) (Kd.R_bound ho2) (fun k hk => hk.2.1)) hg (fun k hk e => by have := (hvb k e.symm).2; omega) |> fun h => Kd.R_mono h (fun _ _ => trivial)
  · exact blk_grown h.tbox hg (fun e => own_ne hown h.tbox (by decide) e)
/-- One more number is told. -/
theorem Tw.push (F : Tfix w1 bt A ct n l M b3 base b6 b7 B0 kids par) (h : Tw w1 bt M b3 base b6 b7 B0 vals kids W st out) {vo v1 : Value} (hvo : W.heap[b6]? = some (.cells #[vo] 28 (0, 0))) (hro : KI.R 3 W B0 (fun _ => True) vo out)
    (k : Int) (hr : KI.R 3 W' B0 (fun _ => True) v1 (out ++ [k])) (hg : W.grownBy W' vo.ownBlock) : Tw w1 bt M b3 base b6 b7 B0 vals kids (W'.setCell ⟨b6, 0, none⟩ v1) st (out ++ [k]) := by
  obtain ⟨hs1, hs2, hs3⟩ := And.intro F.s1 (And.intro F.s2 F.s3)
  have hvb : ∀ k, vo.ownBlock = some k → B0 ≤ k := fun k hk => own_base (ki_own hro) k hk
  have g6 : W'.heap[b6]? = some (.cells #[vo] 28 (0, 0)) := blk_grown hvo hg (fun e => by have := hvb b6 e.symm; omega)
  have far : ∀ g, g ≠ b6 → (W'.setCell ⟨b6, 0, none⟩ v1).heap[g]? = W'.heap[g]? := fun g hne => Below.heap_setCell W' ⟨b6, 0, none⟩ v1 g hne
  have hsz : (W'.setCell ⟨b6, 0, none⟩ v1).heap.size = W'.heap.size := by simp
  obtain ⟨ls, hS, hlt⟩ := h.own
  refine ⟨(h.below.grown hg h.below.size (fun k hk => by have := hvb k hk; omega)).setCell (by show w1.heap.size ≤ b6; omega) _, ⟨ls, ?_, hlt⟩, h.perm, ?_, ⟨v1, by simpa using blk_set g6 0 v1, ?_⟩, ?_, ?_⟩
  · refine hS.keep ((far M (by omega)).trans (hg.block M hS.map.lt (fun e => by have := hvb M e.symm; omega))) (fun t ht k hk => ?_) (by rw [hsz]; exact Nat.le_trans (Nat.le_trans (by omega) h.size) hg.size)
    have h1 := (hlt t ht).2 k hk
    have h2 := own_lt (hS.own t ht) k hk
    rw [far k (fun e => own_ne (hS.own t ht) hvo (by decide) (by rw [hk, e]))]
    exact hg.block k h2 (fun e => by have := hvb k e.symm; omega)
  · rw [far _ (by omega)]; exact blk_grown h.mbox hg (fun e => by have := hvb b3 e.symm; omega)
  · exact Kd.R_mono (Kd.R_far (Kd.R_mono (ok' := fun k => B0 ≤ k) (Kd.R_bound hr) (fun k hk => hk.2.1)) (p := ⟨b6, 0, none⟩) (fun k hk e => by have : k = b6 := e; omega) v1) (fun _ _ => trivial)
  · rw [far _ (by omega)]; exact blk_grown h.tbox hg (fun e => by have := hvb b7 e.symm; omega)
  · rw [hsz]; exact Nat.le_trans h.size hg.size
end
end Go.Proofs.Ytnlnglfjehohpaa.Q
