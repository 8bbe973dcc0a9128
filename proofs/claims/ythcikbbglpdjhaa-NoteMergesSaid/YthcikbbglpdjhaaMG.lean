/- Merge's state: flat images that are laid together. No condition. -/
import Derived.Test.YthcikbbglpdjhaaIIQ
import Derived.Test.YthcikbbglpdjhaaIBS
import Derived.Test.YthcikbbglpdjhaaICL
import Derived.Test.YthcikbbglpdjhaaICC
import Derived.Test.YthcikbbglpdjhaaBC
import Derived.Test.YthcikbbglpdjhaaPM
import Derived.Test.YthcikbbglpdjhaaYC
namespace Go.Proofs.Ythcikbbglpdjhaa.Q
open Go.RowKit Go.Proofs.YthcikbbglpdjhaaW Go.Proofs.YthcikbbglpdjhaaW.PrintWords Go.Proofs.YthcikbbglpdjhaaW.PrintLast Go.Proofs.YthcikbbglpdjhaaW.PrintMore
set_option linter.unusedVariables false
set_option linter.unusedSimpArgs false
theorem srtB_iff (l : List GI) : SrtB l ↔ SrtS (l.map GI.x) := by
  unfold SrtB SrtS
  rw [List.pairwise_map]
  rfl
theorem posB_map (l : List GI) (t : Int) : posB l t = posS (l.map GI.x) t := by
  unfold posB posS
  rw [List.takeWhile_map, List.length_map]
  rfl
theorem hasB_map : ∀ (l : List GI) (t : Int), SrtB l → hasB l t = hasS (l.map GI.x) t
  | [], t, _ => rfl
  | x :: r, t, h => by
    unfold SrtB at h
    rw [List.pairwise_cons] at h
    have ih := hasB_map r t h.2
    by_cases hx : x.f0 < t
    · have hp : posB (x :: r) t = posB r t + 1 := by
        unfold posB
        rw [List.takeWhile_cons, if_pos (decide_eq_true hx), List.length_cons]
      have e : hasB (x :: r) t = hasB r t := by
        unfold hasB
        rw [hp, List.getElem?_cons_succ]
      rw [e, ih]
      unfold hasS
      rw [List.map_cons, List.any_cons, decide_eq_false (show ¬ x.x.f0 = t from fun e => by have : x.f0 = t := e; omega), Bool.false_or]
    · have hp : posB (x :: r) t = 0 := by
        unfold posB
        rw [List.takeWhile_cons, if_neg (by simpa using hx)]; rfl
      have e : hasB (x :: r) t = (cmpI x.f0 t == 0) := by
        unfold hasB
        rw [hp]; rfl
      rw [e]
      unfold hasS
      rw [List.map_cons, List.any_cons]
      by_cases hxt : x.f0 = t
      · rw [decide_eq_true (show x.x.f0 = t from hxt), Bool.true_or, (cmpI_eq x.f0 t).2 hxt]; rfl
      · rw [decide_eq_false (show ¬ x.x.f0 = t from hxt), Bool.false_or]
        have h1 : (cmpI x.f0 t == 0) = false := by rw [beq_eq_false_iff_ne]; exact fun e => hxt ((cmpI_eq _ _).1 e)
        rw [h1]
        symm
        rw [List.any_eq_false]
        intro y hy
        obtain ⟨g, hg, rfl⟩ := List.mem_map.1 hy
        have := h.1 g hg
        simp only [decide_eq_true_eq]
        show ¬ g.f0 = t
        omega
def insG (l : List GI) (g : GI) : List GI := l.take (posB l g.f0) ++ g :: l.drop (posB l g.f0)
theorem ins_map (l : List GI) (g : GI) (hs : SrtB l) (h : hasB l g.f0 = false) : (insG l g).map GI.x = insS (l.map GI.x) g.x := by
  have h2 : hasS (l.map GI.x) g.x.f0 = false := by rw [← hasB_map l _ hs]; exact h
  unfold insS
  rw [if_neg (by rw [h2]; decide), ← show posB l g.f0 = posS (l.map GI.x) g.x.f0 from posB_map l g.f0]
  unfold insG
  rw [List.map_append, List.map_cons, List.map_take, List.map_drop]
theorem has_map (l : List GI) (g : GI) (hs : SrtB l) (h : hasB l g.f0 = true) : l.map GI.x = insS (l.map GI.x) g.x := by
  have h2 : hasS (l.map GI.x) g.x.f0 = true := by rw [← hasB_map l _ hs]; exact h
  unfold insS
  rw [if_pos h2]
theorem ins_srtB (l : List GI) (g : GI) (hs : SrtB l) (h : hasB l g.f0 = false) : SrtB (insG l g) := by
  rw [srtB_iff, ins_map l g hs h]
  exact srt_ins ((srtB_iff l).1 hs) _
theorem posB_le (l : List GI) (t : Int) : posB l t ≤ l.length := by
  unfold posB
  exact (List.takeWhile_sublist _).length_le
theorem insG_mem {l : List GI} {g y : GI} (h : y ∈ insG l g) : y ∈ l ∨ y = g := by
  unfold insG at h
  rw [List.mem_append, List.mem_cons] at h
  rcases h with h | h | h
  · exact .inl (List.mem_of_mem_take h)
  · exact .inr h
  · exact .inl (List.mem_of_mem_drop h)
theorem insG_length (l : List GI) (g : GI) : (insG l g).length = l.length + 1 := by
  unfold insG
  have := posB_le l g.f0
  rw [List.length_append, List.length_cons, List.length_take, List.length_drop]
  omega
/-- One flat image in a block, as a row. -/
theorem one_row {W : World} {base vb : Nat} (x : GI) (h : W.heap[vb]? = some (.cells #[.int .i64 x.f0, .slice x.A x.d.length x.c] 44 (0, 0))) (hb : base ≤ vb) : kGI.R 44 W base (fun _ => True) (.slice (some ⟨vb, 0, none⟩) 1 1) [x] := by
  refine flatGI.2 ⟨fun _ _ => trivial, ⟨rfl, .inr ⟨vb, 1, _, rfl, hb, h, Nat.le_refl _, by decide, rfl, rfl⟩⟩⟩
theorem B4.kept {w : World} {b t : Nat} {c0 c1 c2 c3 : Value} {W W' : World} {S : Nat → Prop} (h : B4 w b t c0 c1 c2 c3 W) (hb : Below w.heap.size w W') (hk : Kept W W' S) (hn : ¬ S b) : B4 w b t c0 c1 c2 c3 W' := ⟨hb, (hk.2 b (blk_lt h.at_) hn).trans h.at_, h.ge⟩
/-- The rows of a note, with the blocks that they lie in. -/
structure NCF (W : World) (ok : Nat → Prop) (A2 : Option Addr) (c2 : Nat) (im : List S44) (A3 : Option Addr) (c3 : Nat) (os : List S46) : Prop where
  i : Kd.F k44 W ok A2 im.length im
  ic : im.length ≤ c2
  o : Kd.F k46 W ok A3 os.length os
  oc : os.length ≤ c3
theorem NCF.nc {W : World} {ok : Nat → Prop} {A2 A3 : Option Addr} {c2 c3 : Nat} {im : List S44} {os : List S46} (h : NCF W ok A2 c2 im A3 c3 os) : NC W A2 c2 im A3 c3 os := ⟨Kd.F_now h.i, h.ic, Kd.F_now h.o, h.oc⟩
theorem NC.ncf {W : World} {A2 A3 : Option Addr} {c2 c3 : Nat} {im : List S44} {os : List S46} (h : NC W A2 c2 im A3 c3 os) : NCF W (fun k => k < W.heap.size) A2 c2 im A3 c3 os := ⟨Kd.C_F k44_heap h.i, h.ic, Kd.C_F k46_heap h.o, h.oc⟩
theorem NCF.step {W W' : World} {ok : Nat → Prop} {A2 A3 : Option Addr} {c2 c3 : Nat} {im : List S44} {os : List S46} (h : NCF W ok A2 c2 im A3 c3 os) (hm : ∀ k, ok k → k < W.heap.size → W'.heap[k]? = W.heap[k]?) : NCF W' ok A2 c2 im A3 c3 os := ⟨Kd.F_step h.i hm, h.ic, Kd.F_step h.o hm, h.oc⟩
theorem NCF.below {W W' : World} {ok : Nat → Prop} {A2 A3 : Option Addr} {c2 c3 : Nat} {im : List S44} {os : List S46} (h : NCF W ok A2 c2 im A3 c3 os) (hb : Below W.heap.size W W') : NCF W' ok A2 c2 im A3 c3 os := ⟨Kd.F_below h.i hb, h.ic, Kd.F_below h.o hb, h.oc⟩
theorem NCF.bound {W : World} {ok : Nat → Prop} {A2 A3 : Option Addr} {c2 c3 : Nat} {im : List S44} {os : List S46} (h : NCF W ok A2 c2 im A3 c3 os) : NCF W (fun k => ok k ∧ k < W.heap.size) A2 c2 im A3 c3 os := ⟨Kd.F_bound h.i, h.ic, Kd.F_bound h.o, h.oc⟩
theorem NCF.mono {W : World} {ok ok' : Nat → Prop} {A2 A3 : Option Addr} {c2 c3 : Nat} {im : List S44} {os : List S46} (h : NCF W ok A2 c2 im A3 c3 os) (hk : ∀ k, ok k → ok' k) : NCF W ok' A2 c2 im A3 c3 os := ⟨Kd.F_mono h.i hk, h.ic, Kd.F_mono h.o hk, h.oc⟩
theorem NCF.nil (W : World) (ok : Nat → Prop) : NCF W ok none 0 [] none 0 [] := ⟨Kd.F_nil _ _ _, Nat.le_refl _, Kd.F_nil _ _ _, Nat.le_refl _⟩
/-- The state of the laying together: the result's box b4, the new note's b6. -/
structure MS (P : Nat → Prop) (w : World) (b4 b6 : Nat) (z0 z1 z2 z3 : Value) (bs : Int) (v v3 : Value) (acc : List GI) (os : List S46) (W : World) : Prop where
  br : B4 w b4 27 z0 z1 z2 z3 W
  bo : B4 w b6 27 (.int .i64 1) (.int .i64 bs) v v3 W
  ne : b4 ≠ b6
  ro : kGI.R 44 W w.heap.size (fun _ => True) v acc
  rp : Kd.R k46 46 W w.heap.size (fun _ => True) v3 os
  dt : ∀ g ∈ acc, Dt W (fun k => some k ≠ v.ownBlock ∧ k ≠ b6 ∧ k ≠ b4 ∧ P k) g
section
variable {P : Nat → Prop} {w : World} {b4 b6 : Nat} {z0 z1 z2 z3 : Value} {bs : Int} {v v3 : Value} {acc : List GI} {os : List S46} {W W' : World}
theorem MS.next (h : MS P w b4 b6 z0 z1 z2 z3 bs v v3 acc os W) (hb : Below W.heap.size W W') : MS P w b4 b6 z0 z1 z2 z3 bs v v3 acc os W' :=
  ⟨h.br.next hb, h.bo.next hb, h.ne, Kd.R_below h.ro hb, Kd.R_below h.rp hb, fun g hg => (h.dt g hg).below hb⟩
theorem MS.lt6 (h : MS P w b4 b6 z0 z1 z2 z3 bs v v3 acc os W) : b6 < W.heap.size := blk_lt h.bo.at_
/-- Behind an insertion and the store of what it gave. -/
theorem MS.ins {v' : Value} {g : GI} {W2 : World} (h : MS P w b4 b6 z0 z1 z2 z3 bs v v3 acc os W) (hr : kGI.R 44 W2 w.heap.size (fun _ => True) v' (insG acc g)) (hb : Below w.heap.size w W2) (hk : Kept W W2 (fun k => v.ownBlock = some k)) (hv : v'.ownBlock = v.ownBlock ∨ ∃ n, v'.ownBlock = some n ∧ W.heap.size ≤ n)
    (hd : Dt W (fun k => some k ≠ v.ownBlock ∧ k ≠ b6 ∧ k ≠ b4 ∧ P k) g) : MS P w b4 b6 z0 z1 z2 z3 bs v' v3 (insG acc g) os (W2.setCell ⟨b6, 2, none⟩ v') := by
  have n6 := Kd.R_ne h.ro h.bo.at_ (by decide)
  have n4 := Kd.R_ne h.ro h.br.at_ (by decide)
  have bo2 := h.bo.kept hb hk (fun e => n6 e.symm)
  have br2 := h.br.kept hb hk (fun e => n4 e.symm)
  have hb3 : Below w.heap.size w (W2.setCell ⟨b6, 2, none⟩ v') := hb.setCell (p := ⟨b6, 2, none⟩) h.bo.ge v'
  have hrp : Kd.R k46 46 W2 w.heap.size (fun _ => True) v3 os := Kd.R_mono (Kd.R_step (Kd.R_apart' (v := v) h.rp (Kd.R_typed h.ro) (by decide)) (fun k hk2 hlt => hk.2 k hlt (fun e => hk2.2 e.symm))) (fun _ _ => trivial)
  have step : ∀ y : GI, Dt W (fun k => some k ≠ v.ownBlock ∧ k ≠ b6 ∧ k ≠ b4 ∧ P k) y → Dt (W2.setCell ⟨b6, 2, none⟩ v') (fun k => some k ≠ v'.ownBlock ∧ k ≠ b6 ∧ k ≠ b4 ∧ P k) y := fun y hy => by
    have h1 : Dt W2 (fun k => (some k ≠ v.ownBlock ∧ k ≠ b6 ∧ k ≠ b4 ∧ P k) ∧ k < W.heap.size) y := hy.bound.step (fun k hk2 hlt => hk.2 k hlt (fun e => hk2.1.1 e.symm))
    have h2 : Dt W2 (fun k => some k ≠ v'.ownBlock ∧ k ≠ b6 ∧ k ≠ b4 ∧ P k) y := h1.mono (fun k hk2 => ⟨fun e => by
      rcases hv with hv | ⟨n, hv, hn⟩
      · rw [hv] at e; exact hk2.1.1 e
      · rw [hv] at e; injection e with e; have := hk2.2; omega, hk2.1.2⟩)
    exact h2.step (fun k hk2 _ => Below.heap_setCell W2 ⟨b6, 2, none⟩ v' k hk2.2.1)
  refine ⟨⟨hb3, (Below.heap_setCell W2 ⟨b6, 2, none⟩ v' b4 h.ne).trans br2.at_, h.br.ge⟩, ⟨hb3, by simpa using blk_set bo2.at_ 2 v', h.bo.ge⟩, h.ne, Kd.R_set hr bo2.at_ (by decide) 2 v', Kd.R_set hrp bo2.at_ (by decide) 2 v', fun y hy => ?_⟩
  rcases insG_mem hy with hy | rfl
  · exact step y (h.dt y hy)
  · exact step y hd
theorem MS.lt4 (h : MS P w b4 b6 z0 z1 z2 z3 bs v v3 acc os W) : b4 < W.heap.size := blk_lt h.br.at_
theorem MS.nc {A2 A3 : Option Addr} {n c2 m c3 : Nat} {im : List S44} (h : MS P w b4 b6 z0 z1 z2 z3 bs (.slice A2 n c2) (.slice A3 m c3) acc os W) (hm : acc.map GI.x = im) : NC W A2 c2 im A3 c3 os := by
  obtain ⟨e1, l1, r1⟩ := Kd.R_reads' h.ro
  obtain ⟨e2, l2, r2⟩ := Kd.R_reads' h.rp
  have r3 := of_flat r1 h.dt
  subst hm
  exact ⟨by rw [List.length_map]; exact r3, by rw [List.length_map]; omega, r2, by omega⟩
/-- Behind stores to the result's box. -/
theorem MS.nc4 {A2 A3 : Option Addr} {n c2 m c3 : Nat} {im : List S44} (h : MS P w b4 b6 z0 z1 z2 z3 bs (.slice A2 n c2) (.slice A3 m c3) acc os W) (hm : acc.map GI.x = im) (u0 u1 u2 u3 : Value) (hP : ∀ k, w.heap.size ≤ k → P k) :
    NCF ((((W.setCell ⟨b4, 0, none⟩ u0).setCell ⟨b4, 1, none⟩ u1).setCell ⟨b4, 2, none⟩ u2).setCell ⟨b4, 3, none⟩ u3) P A2 c2 im A3 c3 os := by
  have far : ∀ k, k ≠ b4 → ((((W.setCell ⟨b4, 0, none⟩ u0).setCell ⟨b4, 1, none⟩ u1).setCell ⟨b4, 2, none⟩ u2).setCell ⟨b4, 3, none⟩ u3).heap[k]? = W.heap[k]? := fun k hk => far4 hk
  have q1 := Kd.R_step (Kd.R_types h.ro h.br.at_ (by decide)) (fun k hk _ => far k hk.2)
  have q2 := Kd.R_step (Kd.R_types h.rp h.br.at_ (by decide)) (fun k hk _ => far k hk.2)
  obtain ⟨e1, l1, _⟩ := Kd.R_reads' q1
  obtain ⟨e2, l2, _⟩ := Kd.R_reads' q2
  have f1 := Kd.F_mono (Kd.R_F (Kd.R_bound q1)) (fun k hk => hP k hk.2.1)
  have f2 := Kd.F_mono (Kd.R_F (Kd.R_bound q2)) (fun k hk => hP k hk.2.1)
  have f3 := of_flatF f1 (fun g hg => ((h.dt g hg).step (fun k hk _ => far k hk.2.2.1)).mono (fun k hk => hk.2.2.2))
  subst hm
  rw [e1] at f3
  rw [e2] at f2
  exact ⟨by rw [List.length_map]; exact f3, by rw [List.length_map]; omega, f2, by omega⟩
end
end Go.Proofs.Ythcikbbglpdjhaa.Q
