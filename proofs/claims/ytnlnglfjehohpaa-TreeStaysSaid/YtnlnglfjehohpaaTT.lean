import Derived.Test.YtnlnglfjehohpaaTV
namespace Go.Proofs.Ytnlnglfjehohpaa.Q
open Go.RowKit Go.Shelf Go.Proofs.YtnlnglfjehohpaaW Go.Proofs.YtnlnglfjehohpaaW.PrintWords Go.Proofs.YtnlnglfjehohpaaW.PrintLast Go.Proofs.YtnlnglfjehohpaaW.PrintMore
open RU
attribute [local go_sem] Oper.semAt_some
set_option linter.unusedVariables false
set_option linter.unusedSimpArgs false

/-- the first one without a parent -/
def isTop (l : List S35) (x : Int) : Bool := (rd_T35 l x).f0 == -1
def topOf (l : List S35) (id : Int) : Int := ((chain l id).find? (isTop l)).getD (-1)
theorem chn_in (l : List S35) : ∀ (n : Nat) (id : Int), ∀ x ∈ chn l n id, 0 ≤ x ∧ x < (l.length : Int)
  | 0, _, x, hx => by simp [chn] at hx
  | n + 1, id, x, hx => by
    rw [chn_succ] at hx
    by_cases h : isB l id = true
    · rw [if_pos h] at hx
      rcases List.mem_cons.1 hx with rfl | hx
      · unfold isB at h; simpa using h
      · exact chn_in l n _ x hx
    · rw [if_neg h] at hx; cases hx
theorem chain_in (l : List S35) (id x : Int) (h : x ∈ chain l id) : 0 ≤ x ∧ x < (l.length : Int) := chn_in l _ _ x h
theorem find_none_of {p : Int → Bool} {l : List Int} (h : ∀ y ∈ l, p y = false) : l.find? p = none := List.find?_eq_none.2 (fun x hx => by simp [h x hx])
theorem find_some_of {p : Int → Bool} {pre post : List Int} {x : Int} (h : ∀ y ∈ pre, p y = false) (hx : p x = true) : (pre ++ x :: post).find? p = some x := by
  rw [List.find?_append, find_none_of h]; simp [hx]
def tree_Top.f (l0 : List S35) (a0 : Int) (a1 : Int) : Option Int := some (topOf l0 a1)
set_option maxRecDepth 100000 in
set_option maxHeartbeats 2000000 in
theorem tree_Top.calls (A0 : Option Addr) (c0 : Nat) (l0 : List S35) (a0 : Int) (a1 : Int) (r : Int) (w : World) (hr0 : Kd.C k35 w A0 l0.length l0) (hc0 : l0.length ≤ c0) (h : tree_Top.f l0 a0 a1 = some r) :
    Calls Try.prog 14 #[.agg #[.slice A0 l0.length c0, .int .i64 a0], .int .i64 a1] w fun e w' => e = .returned (.int .i64 r) ∧ Below w.heap.size w w' := by
  have h := Option.some.inj h
  refine (callsIn_wide (n := 8)).1 ?_
  have hu := Try.underlying26
  have HR := Aside0.mk hr0
  have HU := Aside0.mk (up_any A0 c0 l0 a0 a1)
  have HH := Aside0.mk h
  clear hr0 h
  obtain ⟨w3, hw3⟩ : ∃ w3, (w.alloc (.cells #[.slice A0 l0.length c0, .int .i64 a0] 26)).alloc (.cells #[.int .i64 0] 3) = w3 := ⟨_, rfl⟩
  have hs3 : w3.heap.size = w.heap.size + 2 := by rw [← hw3]; simp
  have b0 : w3.heap[w.heap.size]? = some (.cells #[.slice A0 l0.length c0, .int .i64 a0] 26 (0, 0)) := by rw [← hw3]; exact blk_alloc (blk_new w _) _
  have b1 : w3.heap[w.heap.size + 1]? = some (.cells #[.int .i64 0] 3 (0, 0)) := by rw [← hw3]; simpa using blk_new (w.alloc (.cells #[.slice A0 l0.length c0, .int .i64 a0] 26)) (.cells #[.int .i64 0] 3)
  have hb3 : Below w.heap.size w w3 := by rw [← hw3]; exact ((Below.refl _ w).alloc (Nat.le_refl _) _).alloc (by simp) _
  have HW3 := Aside0.mk hw3
  refine callsIn_of_wp_marks Try.func14 rfl trivial ?_ rfl
  simp only [Try.ntmps14, List.size_toArray, List.length_cons, List.length_nil, Nat.reduceAdd, Nat.reduceSub, Array.replicate_succ, Array.replicate_zero, List.push_toArray, List.append_toArray, List.nil_append, List.cons_append]
  clear hw3
  gi_wp2_with (refine ⟨trivial, ?_⟩; gi_at_call 26; refine (callsIn_wide.2 (HU.out _)).mono ?_; rintro e w' ⟨rfl, rfl⟩)
  rw [HW3.out]
  obtain ⟨w5, hw5⟩ : ∃ w5, (w3.alloc (.cells #[.slice A0 l0.length c0, .int .i64 a0] 26)).alloc (.cells #[.int .i64 a1] 3) = w5 := ⟨_, rfl⟩
  rw [hw5]
  have hs5 : w5.heap.size = w.heap.size + 4 := by rw [← hw5]; simp [hs3]
  have bT : w5.heap[w.heap.size + 1 + 1]? = some (.cells #[.slice A0 l0.length c0, .int .i64 a0] 26 (0, 0)) := by rw [← hw5]; have := blk_alloc (blk_new w3 (.cells #[.slice A0 l0.length c0, .int .i64 a0] 26)) (.cells #[.int .i64 a1] 3); rwa [hs3] at this
  have bB : w5.heap[w.heap.size + 1 + 1 + 1]? = some (.cells #[.int .i64 a1] 3 (0, 0)) := by rw [← hw5]; have := blk_new (w3.alloc (.cells #[.slice A0 l0.length c0, .int .i64 a0] 26)) (.cells #[.int .i64 a1] 3); rwa [World.size_alloc, hs3] at this
  have b0' : w5.heap[w.heap.size]? = some (.cells #[.slice A0 l0.length c0, .int .i64 a0] 26 (0, 0)) := by rw [← hw5]; exact blk_alloc (blk_alloc b0 _) _
  have b1' : w5.heap[w.heap.size + 1]? = some (.cells #[.int .i64 0] 3 (0, 0)) := by rw [← hw5]; exact blk_alloc (blk_alloc b1 _) _
  have hb5 : Below w.heap.size w w5 := by rw [← hw5]; exact (hb3.alloc (by omega) _).alloc (by simp; omega) _
  clear hw5 b0 b1 hb3
  have hOB : ¬ ((w.heap.size + 1 + 1 + 1 < w.heap.size + 3) ∨ w.heap.size + 1 + 1 + 1 = w5.heap.size ∨ w.heap.size + 1 + 1 + 1 = w5.heap.size + 1) := by omega
  refine range_over (Own := fun k => k < w.heap.size + 3) rfl (by omega) (gf := 38) (lb := #[.pointer (some ⟨w.heap.size + 1 + 1, 0, none⟩), .pointer (some ⟨w.heap.size + 1 + 1 + 1, 0, none⟩)]) (encs := fun x : Int => #[Value.int .i64 x]) rfl trivial (enters_of Try.func38 (by kernel_rfl) rfl)
    (up_gives 7 (by omega) A0 c0 l0 a0 (w.heap.size + 1 + 1) (w.heap.size + 1 + 1 + 1) a1 _ hOB w5 bB) (fun k hk => by omega) (fun h1 h2 => h2.trans h1) (fun W l o hl => World.putObj_heap_other (by omega)) (fun _ => rfl)
    (fun pre W => ((∀ y ∈ pre, isTop l0 y = false) ∧ W.heap[w.heap.size]? = some (.cells #[.slice A0 l0.length c0, .int .i64 a0] 26 (0, 0)) ∧ W.heap[w.heap.size + 1]? = some (.cells #[.int .i64 0] 3 (0, 0)) ∧ W.heap[w.heap.size + 1 + 1]? = some (.cells #[.slice A0 l0.length c0, .int .i64 a0] 26 (0, 0))) ∧ Below w.heap.size w W)
    (fun c pre W => (c = .ret ∧ ∃ pre0 x, pre = pre0 ++ [x] ∧ (∀ y ∈ pre0, isTop l0 y = false) ∧ isTop l0 x = true ∧ W.heap[w.heap.size + 1]? = some (.cells #[.int .i64 x] 3 (0, 0))) ∧ Below w.heap.size w W)
    (fun s A C h hst => ⟨⟨h.1.1, stays_blk hst (by show _ < _; omega) h.1.2.1, stays_blk hst (by show _ < _; omega) h.1.2.2.1, stays_blk hst (by show _ < _; omega) h.1.2.2.2⟩, stays_below h.2 hst (fun k hk => by show _ < _; omega)⟩)
    (fun c s A C h hst => by
      obtain ⟨⟨e1, p0, x, e2, e3, e4, e5⟩, e6⟩ := h
      exact ⟨⟨e1, p0, x, e2, e3, e4, stays_blk hst (by show _ < _; omega) e5⟩, stays_below e6 hst (fun k hk => by show _ < _; omega)⟩)
    (fun s A h => ⟨h.1.2.2.2, Kd.C_below HR.out h.2⟩)
    ⟨⟨by simp, b0', b1', bT⟩, hb5⟩
    (fun x => { tmps := #[.agg #[.slice A0 l0.length c0, .int .i64 a0], .int .i64 a1, .pointer (some ⟨w.heap.size, 0, none⟩), undef, .pointer (some ⟨w.heap.size + 1, 0, none⟩), .int .i64 x, .agg #[.slice A0 l0.length c0, .int .i64 a0], .int .i64 a1, .func (.func 38) #[] #[.pointer (some ⟨w.heap.size + 1 + 1, 0, none⟩), .pointer (some ⟨w.heap.size + 1 + 1 + 1, 0, none⟩)], .int .i64 x, undef, undef, undef, undef, undef, undef, undef, undef], defers := [] }) ?assign ?body ?done ?stop
  case assign =>
    intro l x W K hK
    gi_wp2
    exact hK
  case body =>
    rintro l pre x W ⟨⟨hp, h1, h2, h3⟩, hB⟩ ⟨post, hpost⟩ hlt
    obtain ⟨i1, i2⟩ := chain_in l0 a1 x (by rw [hpost]; simp)
    obtain ⟨ad, rfl, e1, _⟩ := at_T35 (Kd.C_below HR.out hB) x i1 (by omega)
    have c0' : W.cell? ⟨w.heap.size, 0, none⟩ = some (.slice (some ad) l0.length c0) := blk_cell h1 0
    have c1 : W.cell? ⟨w.heap.size + 1, 0, none⟩ = some (.int .i64 0) := blk_cell h2 0
    have f1 := blk_frozen h2 0
    have hu35 := Try.underlying35
    have HP := Aside0.mk hp
    have H1 := Aside0.mk h1
    have H2 := Aside0.mk h2
    have H3 := Aside0.mk h3
    have HBW := Aside0.mk hB
    have hq : isTop l0 x = ((rd_T35 l0 x).f0 == -1) := rfl
    have HQ := Aside0.mk hq
    clear hp h1 h2 h3 hB hpost hq
    obtain ⟨q, hq⟩ : ∃ q, (rd_T35 l0 x).f0 = q := ⟨_, rfl⟩
    rw [hq] at HQ e1
    clear hq
    by_cases hx : q = -1
    · have hx1 : (q == -1) = true := by simp [hx]
      have HX := Aside0.mk (HQ.out.trans hx1)
      clear hx HQ
      gi_wp2
      exact ⟨Stays.setCell (by show ¬ (_ ∨ _); simp; omega) _ _, ⟨rfl, pre, x, rfl, HP.out, HX.out, blk_set H2.out 0 _⟩, HBW.out.setCell (by show w.heap.size ≤ w.heap.size + 1; omega) _⟩
    · have hx1 : (q == -1) = false := by simp [hx]
      have HX := Aside0.mk (HQ.out.trans hx1)
      clear hx HQ
      gi_wp2
      exact ⟨Stays.refl _ _, rfl, ⟨fun y hy => (List.mem_append.1 hy).elim (HP.out y) (fun e => by simp at e; subst e; exact HX.out), H1.out, H2.out, H3.out⟩, HBW.out⟩
  case done =>
    rintro W ⟨⟨hp, h1, h2, h3⟩, hB⟩ hK
    have hr : r = -1 := by rw [← HH.out]; unfold topOf; rw [find_none_of hp]; rfl
    have c2 : W.cell? ⟨w.heap.size + 1, 0, none⟩ = some (.int .i64 0) := blk_cell h2 0
    have f2 := blk_frozen h2 0
    have H2 := Aside0.mk h2
    have HK := Aside0.mk hK
    have HBW := Aside0.mk hB
    have HHR := Aside0.mk hr
    clear hp h1 h2 h3 hK hB hr
    gi_wp2
    have hK' : (W.setCell ⟨w.heap.size + 1, 0, none⟩ (.int .i64 (-1))).heap[w5.heap.size]? = some (.deferred (some [])) := (Below.heap_setCell W ⟨w.heap.size + 1, 0, none⟩ (.int .i64 (-1)) w5.heap.size (by simp; omega)).trans HK.out
    refine ⟨by simp, .inl ⟨_, _, rfl, run_takeDeferred hK', ?_⟩⟩
    have hc5 : (((W.setCell ⟨w.heap.size + 1, 0, none⟩ (.int .i64 (-1))).putObj w5.heap.size (.deferred none))).cell? ⟨w.heap.size + 1, 0, none⟩ = some (.int .i64 (-1)) := blk_cell ((World.putObj_heap_other (by omega)).trans (blk_set H2.out 0 _)) 0
    refine ⟨.int .i64 (-1), ?_, by rw [HHR.out], below_shut (HBW.out.setCell (by show w.heap.size ≤ w.heap.size + 1; omega) _) (by omega) _⟩
    simp [results, Try.f14, go_sem, hc5]
  case stop =>
    rintro c pre post W hx ⟨⟨rfl, p0, x, rfl, e3, e4, h2⟩, hB⟩ hK
    have hr : r = x := by rw [← HH.out]; unfold topOf; rw [hx, List.append_assoc]; show Option.getD (List.find? _ (p0 ++ x :: post)) _ = _; rw [find_some_of e3 e4]; rfl
    have H2 := Aside0.mk h2
    have HK := Aside0.mk hK
    have HBW := Aside0.mk hB
    have HHR := Aside0.mk hr
    clear h2 hK hB hr hx e3 e4
    gi_wp2
    refine ⟨by simp, .inl ⟨_, _, rfl, run_takeDeferred HK.out, ?_⟩⟩
    have hc5 : (W.putObj w5.heap.size (.deferred none)).cell? ⟨w.heap.size + 1, 0, none⟩ = some (.int .i64 x) := blk_cell ((World.putObj_heap_other (by omega)).trans H2.out) 0
    refine ⟨.int .i64 x, ?_, by rw [HHR.out], below_shut HBW.out (by omega) _⟩
    simp [results, Try.f14, go_sem, hc5]
end Go.Proofs.Ytnlnglfjehohpaa.Q
