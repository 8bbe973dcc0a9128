/- Images as flat elements: a number and a slice's head as cells; what the slice leads to is told apart. No condition. -/
import Derived.Test.YthcikbbglpdjhaaQ0
import Derived.Test.YthcikbbglpdjhaaQA
import Derived.Lib.Hide
import Derived.Shelf.GgClosure.Gives
import Derived.Lib.SliceRun
namespace Go.Proofs.Ythcikbbglpdjhaa.Q
open Go.RowKit Go.Proofs.YthcikbbglpdjhaaW Go.Proofs.YthcikbbglpdjhaaW.PrintWords Go.Proofs.YthcikbbglpdjhaaW.PrintLast Go.Proofs.YthcikbbglpdjhaaW.PrintMore
set_option linter.unusedVariables false
set_option linter.unusedSimpArgs false
structure GI where
  f0 : Int
  A : Option Addr
  c : Nat
  d : List Int
def GI.x (g : GI) : S44 := ⟨g.f0, g.d⟩
def kGI : Kd GI := Kd.iso (Kd.pair (Kd.int .i64) (Kd.scalar (fun g : Option Addr × Nat × Nat => .slice g.1 g.2.1 g.2.2) (fun _ => rfl))) (fun x : GI => (x.f0, (x.A, x.d.length, x.c)))
theorem kGI_openM {w : World} {base : Nat} {ok : Nat → Prop} {x : GI} {cs : List Value} (h : kGI.M w base ok x cs) : cs = [.int .i64 x.f0, .slice x.A x.d.length x.c] := by
  obtain ⟨c0, c1, rfl, h0, h1⟩ := h
  have h0 : c0 = [.int .i64 x.f0] := h0
  have h1 : c1 = [.slice x.A x.d.length x.c] := h1
  rw [h0, h1]; rfl
theorem kGI_open {w : World} {x : GI} {cs : List Value} (h : kGI.K w x cs) : cs = [.int .i64 x.f0, .slice x.A x.d.length x.c] := by
  obtain ⟨c0, c1, rfl, h0, h1⟩ := h
  have h0 : c0 = [.int .i64 x.f0] := h0
  have h1 : c1 = [.slice x.A x.d.length x.c] := h1
  rw [h0, h1]; rfl
theorem kGI_mkM (w : World) (base : Nat) (ok : Nat → Prop) (x : GI) : kGI.M w base ok x [.int .i64 x.f0, .slice x.A x.d.length x.c] := ⟨[.int .i64 x.f0], [.slice x.A x.d.length x.c], rfl, rfl, rfl⟩
theorem kGI_mk (w : World) (x : GI) : kGI.K w x [.int .i64 x.f0, .slice x.A x.d.length x.c] := ⟨[.int .i64 x.f0], [.slice x.A x.d.length x.c], rfl, rfl, rfl⟩
/-- What the element's slice leads to is read, and lies in ok. -/
def Dt (W : World) (ok : Nat → Prop) (g : GI) : Prop := g.d.length ≤ g.c ∧ Kd.F (Kd.int .u8) W ok g.A g.d.length g.d
theorem Dt.mono {W : World} {ok ok' : Nat → Prop} {g : GI} (h : Dt W ok g) (hok : ∀ k, ok k → ok' k) : Dt W ok' g := ⟨h.1, Kd.F_mono h.2 hok⟩
theorem Dt.step {W W1 : World} {ok : Nat → Prop} {g : GI} (h : Dt W ok g) (hm : ∀ k, ok k → k < W.heap.size → W1.heap[k]? = W.heap[k]?) : Dt W1 ok g := ⟨h.1, Kd.F_step h.2 hm⟩
theorem Dt.below {W W1 : World} {ok : Nat → Prop} {g : GI} (h : Dt W ok g) (hb : Below W.heap.size W W1) : Dt W1 ok g := ⟨h.1, Kd.F_below h.2 hb⟩
theorem Dt.bound {W : World} {ok : Nat → Prop} {g : GI} (h : Dt W ok g) : Dt W (fun k => ok k ∧ k < W.heap.size) g := ⟨h.1, Kd.F_bound h.2⟩
/-- A row that is read, as flat elements. -/
theorem to_flat {w : World} {A : Option Addr} {n : Nat} {xs : List S44} (h : Kd.C k44 w A n xs) : ∃ gl : List GI, gl.map GI.x = xs ∧ Kd.C kGI w A n gl ∧ ∀ g ∈ gl, Dt w (fun k => k < w.heap.size) g := by
  obtain ⟨h1, h2, h3⟩ := h
  by_cases hn : 0 < n
  · obtain ⟨ad, hA, hc⟩ := h3 hn
    have key : ∀ x ∈ xs.zipIdx, ∃ g : GI, g.x = x.1 ∧ Dt w (fun k => k < w.heap.size) g ∧ ∀ i u, ([.int .i64 g.f0, .slice g.A g.d.length g.c] : List Value)[i]? = some u → w.cell? (ad.add (x.2 * 2 + i)) = some u := by
      rintro ⟨x, j⟩ hx
      rw [List.mem_zipIdx_iff_getElem?] at hx
      obtain ⟨c, hs, hK, hcc⟩ := hc j x hx
      obtain ⟨A1, c1, rfl, l1, g1⟩ := k44_open hK
      exact ⟨⟨x.f0, A1, c1, x.f1⟩, rfl, ⟨l1, Kd.C_F (Kd.heap_int .u8) g1⟩, hcc⟩
    have build : ∀ l : List (S44 × Nat), (∀ x ∈ l, x ∈ xs.zipIdx) → ∃ gl : List GI, gl.length = l.length ∧ ∀ j (h1 : j < gl.length) (h2 : j < l.length), gl[j].x = l[j].1 ∧ Dt w (fun k => k < w.heap.size) gl[j] ∧ ∀ i u, ([.int .i64 gl[j].f0, .slice gl[j].A gl[j].d.length gl[j].c] : List Value)[i]? = some u → w.cell? (ad.add (l[j].2 * 2 + i)) = some u := by
      intro l
      induction l with
      | nil => exact fun _ => ⟨[], rfl, fun j h1 => absurd h1 (Nat.not_lt_zero _)⟩
      | cons y l ih =>
        intro hl
        obtain ⟨gl, hgl, hg⟩ := ih (fun x hx => hl x (List.mem_cons_of_mem _ hx))
        obtain ⟨g, hy⟩ := key y (hl y List.mem_cons_self)
        refine ⟨g :: gl, by rw [List.length_cons, List.length_cons, hgl], fun j h1 h2 => ?_⟩
        cases j with
        | zero => exact hy
        | succ j => exact hg j (by simpa using h1) (by simpa using h2)
    obtain ⟨gl, hgl, hg⟩ := build xs.zipIdx (fun x hx => hx)
    rw [List.length_zipIdx] at hgl
    have hx : gl.map GI.x = xs := by
      apply List.ext_getElem
      · rw [List.length_map, hgl]
      · intro j hj1 hj2
        rw [List.getElem_map, (hg j (by rw [List.length_map] at hj1; exact hj1) (by rw [List.length_zipIdx]; exact hj2)).1, List.getElem_zipIdx]
    refine ⟨gl, hx, ⟨by rw [hgl, h1], h2, fun _ => ⟨ad, hA, fun j p hp => ?_⟩⟩, fun g hgm => ?_⟩
    · obtain ⟨hj, rfl⟩ := List.getElem?_eq_some_iff.1 hp
      have := hg j hj (by rw [List.length_zipIdx]; omega)
      rw [List.getElem_zipIdx, Nat.zero_add] at this
      exact ⟨[.int .i64 gl[j].f0, .slice gl[j].A gl[j].d.length gl[j].c], rfl, kGI_mk w _, this.2.2⟩
    · obtain ⟨j, hj, rfl⟩ := List.mem_iff_getElem.1 hgm
      exact (hg j hj (by rw [List.length_zipIdx]; omega)).2.1
  · have : xs = [] := List.eq_nil_of_length_eq_zero (by omega)
    subst this
    exact ⟨[], rfl, ⟨h1, h2, fun hh => absurd hh hn⟩, fun g hg => by cases hg⟩
theorem of_flat {w : World} {A : Option Addr} {n : Nat} {ok : Nat → Prop} {gl : List GI} (h : Kd.C kGI w A n gl) (hd : ∀ g ∈ gl, Dt w ok g) : Kd.C k44 w A n (gl.map GI.x) := by
  obtain ⟨h1, h2, h3⟩ := h
  refine ⟨by rw [List.length_map, h1], h2, fun hn => ?_⟩
  obtain ⟨ad, hA, hc⟩ := h3 hn
  refine ⟨ad, hA, fun j p hp => ?_⟩
  rw [List.getElem?_map] at hp
  obtain ⟨g, hg, rfl⟩ := Option.map_eq_some_iff.1 hp
  obtain ⟨c, hs, hK, hcc⟩ := hc j g hg
  obtain ⟨hl, hf⟩ := hd g (List.mem_of_getElem? hg)
  have hcs := kGI_open hK
  subst hcs
  exact ⟨_, hs, k44_mk w g.x hl (Kd.F_now hf), hcc⟩
/-- The same, with the blocks that it lies in. -/
theorem to_flatF {w : World} {ok : Nat → Prop} {A : Option Addr} {n : Nat} {xs : List S44} (h : Kd.F k44 w ok A n xs) : ∃ gl : List GI, gl.map GI.x = xs ∧ Kd.C kGI w A n gl ∧ ∀ g ∈ gl, Dt w ok g := by
  obtain ⟨h1, h2, h3⟩ := Kd.F_rows h
  by_cases hn : 0 < n
  · obtain ⟨ad, hA, hc⟩ := h3 hn
    have key : ∀ x ∈ xs.zipIdx, ∃ g : GI, g.x = x.1 ∧ Dt w ok g ∧ ∀ i u, ([.int .i64 g.f0, .slice g.A g.d.length g.c] : List Value)[i]? = some u → w.cell? (ad.add (x.2 * 2 + i)) = some u := by
      rintro ⟨x, j⟩ hx
      rw [List.mem_zipIdx_iff_getElem?] at hx
      obtain ⟨c, hs, hK, hcc⟩ := hc j x hx
      obtain ⟨A1, c1, rfl, l1, g1⟩ := k44_openF hK
      exact ⟨⟨x.f0, A1, c1, x.f1⟩, rfl, ⟨l1, g1⟩, hcc⟩
    have build : ∀ l : List (S44 × Nat), (∀ x ∈ l, x ∈ xs.zipIdx) → ∃ gl : List GI, gl.length = l.length ∧ ∀ j (h1 : j < gl.length) (h2 : j < l.length), gl[j].x = l[j].1 ∧ Dt w ok gl[j] ∧ ∀ i u, ([.int .i64 gl[j].f0, .slice gl[j].A gl[j].d.length gl[j].c] : List Value)[i]? = some u → w.cell? (ad.add (l[j].2 * 2 + i)) = some u := by
      intro l
      induction l with
      | nil => exact fun _ => ⟨[], rfl, fun j h1 => absurd h1 (Nat.not_lt_zero _)⟩
      | cons y l ih =>
        intro hl
        obtain ⟨gl, hgl, hg⟩ := ih (fun x hx => hl x (List.mem_cons_of_mem _ hx))
        obtain ⟨g, hy⟩ := key y (hl y List.mem_cons_self)
        refine ⟨g :: gl, by rw [List.length_cons, List.length_cons, hgl], fun j h1 h2 => ?_⟩
        cases j with
        | zero => exact hy
        | succ j => exact hg j (by simpa using h1) (by simpa using h2)
    obtain ⟨gl, hgl, hg⟩ := build xs.zipIdx (fun x hx => hx)
    rw [List.length_zipIdx] at hgl
    have hx : gl.map GI.x = xs := by
      apply List.ext_getElem
      · rw [List.length_map, hgl]
      · intro j hj1 hj2
        rw [List.getElem_map, (hg j (by rw [List.length_map] at hj1; exact hj1) (by rw [List.length_zipIdx]; exact hj2)).1, List.getElem_zipIdx]
    refine ⟨gl, hx, ⟨by rw [hgl, h1], h2, fun _ => ⟨ad, hA, fun j p hp => ?_⟩⟩, fun g hgm => ?_⟩
    · obtain ⟨hj, rfl⟩ := List.getElem?_eq_some_iff.1 hp
      have := hg j hj (by rw [List.length_zipIdx]; omega)
      rw [List.getElem_zipIdx, Nat.zero_add] at this
      exact ⟨[.int .i64 gl[j].f0, .slice gl[j].A gl[j].d.length gl[j].c], rfl, kGI_mk w _, this.2.2⟩
    · obtain ⟨j, hj, rfl⟩ := List.mem_iff_getElem.1 hgm
      exact (hg j hj (by rw [List.length_zipIdx]; omega)).2.1
  · have : xs = [] := List.eq_nil_of_length_eq_zero (by omega)
    subst this
    exact ⟨[], rfl, ⟨h1, h2, fun hh => absurd hh hn⟩, fun g hg => by cases hg⟩
theorem of_flatF {w : World} {A : Option Addr} {n : Nat} {ok : Nat → Prop} {gl : List GI} (h : Kd.F kGI w ok A n gl) (hd : ∀ g ∈ gl, Dt w ok g) : Kd.F k44 w ok A n (gl.map GI.x) := fun W' hW =>
  of_flat (h W' hW) (fun g hg => (hd g hg).step hW)
theorem at_GI {w : World} {A : Option Addr} {n : Nat} {gl : List GI} (h : Kd.C kGI w A n gl) (j : Nat) (hj : j < gl.length) : ∃ ad, A = some ad ∧ w.cell? (ad.add (j * 2)) = some (.int .i64 gl[j].f0) ∧ w.cell? ⟨(ad.add (j * 2)).block, (ad.add (j * 2)).off + 1, none⟩ = some (.slice gl[j].A gl[j].d.length gl[j].c) := by
  obtain ⟨h1, h2, h3⟩ := h
  obtain ⟨ad, hA, hc⟩ := h3 (by omega)
  obtain ⟨c, hs, hK, hcc⟩ := hc j _ (List.getElem?_eq_getElem hj)
  have hcs := kGI_open hK
  subst hcs
  have hc0 : ∀ i u, ([.int .i64 gl[j].f0, .slice gl[j].A gl[j].d.length gl[j].c] : List Value)[i]? = some u → w.cell? (ad.add (j * 2 + i)) = some u := hcc
  exact ⟨ad, hA, hc0 0 _ rfl, by rw [← add_field _ _ 1 (by omega)]; exact hc0 1 _ rfl⟩
theorem zc_len (cs : Array Value) (m : Nat) : (Builtin.zeroCells cs m).toList.length = m * cs.size := by unfold Builtin.zeroCells; simp
end Go.Proofs.Ythcikbbglpdjhaa.Q
