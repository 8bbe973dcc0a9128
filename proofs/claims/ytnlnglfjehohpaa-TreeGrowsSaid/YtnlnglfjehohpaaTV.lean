import Derived.Test.YtnlnglfjehohpaaTU
namespace Go.Proofs.Ytnlnglfjehohpaa.Q
open Go.RowKit Go.Shelf Go.Proofs.YtnlnglfjehohpaaW Go.Proofs.YtnlnglfjehohpaaW.PrintWords Go.Proofs.YtnlnglfjehohpaaW.PrintLast Go.Proofs.YtnlnglfjehohpaaW.PrintMore
open RU
attribute [local go_sem] Oper.semAt_some
set_option linter.unusedVariables false
set_option linter.unusedSimpArgs false

theorem up_gives (n : Nat) (hn : 1 ≤ n) (A0 : Option Addr) (c0 : Nat) (l : List S35) (ck : Int) (T B : Nat) (id0 : Int) (Own : Nat → Prop) (hOB : ¬ Own B) (w : World) (hB : w.heap[B]? = some (.cells #[.int .i64 id0] 3 (0, 0))) :
    GivesTo Fence.wide n Try.prog 38 #[.pointer (some ⟨T, 0, none⟩), .pointer (some ⟨B, 0, none⟩)] (fun x : Int => #[Value.int .i64 x]) Own (fun A C => C.heap[B]? = A.heap[B]?)
      (fun _ A => A.heap[T]? = some (.cells #[.slice A0 l.length c0, .int .i64 ck] 26 (0, 0)) ∧ Kd.C k35 A A0 l.length l) (chain l id0) w := by
  intro lp J Jx W hW hJ hG hY h0
  exact up1_in n hn A0 c0 l ck T B lp id0 Own J Jx hJ hOB hG hY W h0 ((hW.block B (blk_lt hB) (blk_lt hB)).trans hB)

theorem stays_blk {Own : Nat → Prop} {A C : World} {k : Nat} {o : Obj} (h : Stays Own A C) (hk : Own k) (hb : A.heap[k]? = some o) : C.heap[k]? = some o := (h.block k hk (blk_lt hb)).trans hb
theorem stays_below {Own : Nat → Prop} {w A C : World} (hb : Below w.heap.size w A) (h : Stays Own A C) (ho : ∀ k, k < w.heap.size → Own k) : Below w.heap.size w C :=
  ⟨h.os.trans hb.os, h.tape.trans hb.tape, h.output.trans hb.output, Nat.le_trans hb.size h.size, fun k hk => (h.block k (ho k hk) (Nat.lt_of_lt_of_le hk hb.size)).trans (hb.block k hk)⟩
/-- The loop's own two blocks, shut behind it. -/
theorem below_shut {w W : World} (hb : Below w.heap.size w W) {D : Nat} (hD : w.heap.size ≤ D) (o : Obj) : Below w.heap.size w (W.putObj D o) :=
  ⟨hb.os, hb.tape, hb.output, by have := hb.size; simpa [World.putObj] using this, fun k hk => (World.putObj_heap_other (by omega)).trans (hb.block k hk)⟩

def tree_Within.f (l0 : List S35) (a0 : Int) (a1 : Int) (a2 : Int) : Option Bool := some (decide (a2 ∈ chain l0 a1))
set_option maxRecDepth 100000 in
set_option maxHeartbeats 2000000 in
theorem tree_Within.calls (A0 : Option Addr) (c0 : Nat) (l0 : List S35) (a0 : Int) (a1 : Int) (a2 : Int) (r : Bool) (w : World) (hr0 : Kd.C k35 w A0 l0.length l0) (hc0 : l0.length ≤ c0) (h : tree_Within.f l0 a0 a1 a2 = some r) :
    Calls Try.prog 12 #[.agg #[.slice A0 l0.length c0, .int .i64 a0], .int .i64 a1, .int .i64 a2] w fun e w' => e = .returned (.bool r) ∧ Below w.heap.size w w' := by
  have h := Option.some.inj h
  refine (callsIn_wide (n := 8)).1 ?_
  have hu := Try.underlying26
  have HR := Aside0.mk hr0
  have HU := Aside0.mk (up_any A0 c0 l0 a0 a1)
  have HH := Aside0.mk h
  clear hr0 h
  obtain ⟨w3, hw3⟩ : ∃ w3, ((w.alloc (.cells #[.slice A0 l0.length c0, .int .i64 a0] 26)).alloc (.cells #[.int .i64 a2] 3)).alloc (.cells #[.bool false] 4) = w3 := ⟨_, rfl⟩
  have hs3 : w3.heap.size = w.heap.size + 3 := by rw [← hw3]; simp
  have b0 : w3.heap[w.heap.size]? = some (.cells #[.slice A0 l0.length c0, .int .i64 a0] 26 (0, 0)) := by rw [← hw3]; exact blk_alloc (blk_alloc (blk_new w _) _) _
  have b1 : w3.heap[w.heap.size + 1]? = some (.cells #[.int .i64 a2] 3 (0, 0)) := by rw [← hw3]; simpa using blk_alloc (blk_new (w.alloc (.cells #[.slice A0 l0.length c0, .int .i64 a0] 26)) _) _
  have b2 : w3.heap[w.heap.size + 2]? = some (.cells #[.bool false] 4 (0, 0)) := by rw [← hw3]; simpa using blk_new ((w.alloc (.cells #[.slice A0 l0.length c0, .int .i64 a0] 26)).alloc (.cells #[.int .i64 a2] 3)) (.cells #[.bool false] 4)
  have hb3 : Below w.heap.size w w3 := by rw [← hw3]; exact (((Below.refl _ w).alloc (Nat.le_refl _) _).alloc (by simp) _).alloc (by simp; omega) _
  have HW3 := Aside0.mk hw3
  refine callsIn_of_wp_marks Try.func12 rfl trivial ?_ rfl
  simp only [Try.ntmps12, List.size_toArray, List.length_cons, List.length_nil, Nat.reduceAdd, Nat.reduceSub, Array.replicate_succ, Array.replicate_zero, List.push_toArray, List.append_toArray, List.nil_append, List.cons_append]
  clear hw3
  gi_wp2_with (refine ⟨trivial, ?_⟩; gi_at_call 26; refine (callsIn_wide.2 (HU.out _)).mono ?_; rintro e w' ⟨rfl, rfl⟩)
  rw [HW3.out]
  obtain ⟨w5, hw5⟩ : ∃ w5, (w3.alloc (.cells #[.slice A0 l0.length c0, .int .i64 a0] 26)).alloc (.cells #[.int .i64 a1] 3) = w5 := ⟨_, rfl⟩
  rw [hw5]
  have hs5 : w5.heap.size = w.heap.size + 5 := by rw [← hw5]; simp [hs3]
  have bT : w5.heap[w.heap.size + 1 + 1 + 1]? = some (.cells #[.slice A0 l0.length c0, .int .i64 a0] 26 (0, 0)) := by rw [← hw5]; have := blk_alloc (blk_new w3 (.cells #[.slice A0 l0.length c0, .int .i64 a0] 26)) (.cells #[.int .i64 a1] 3); rwa [hs3] at this
  have bB : w5.heap[w.heap.size + 1 + 1 + 1 + 1]? = some (.cells #[.int .i64 a1] 3 (0, 0)) := by rw [← hw5]; have := blk_new (w3.alloc (.cells #[.slice A0 l0.length c0, .int .i64 a0] 26)) (.cells #[.int .i64 a1] 3); rwa [World.size_alloc, hs3] at this
  have b1' : w5.heap[w.heap.size + 1]? = some (.cells #[.int .i64 a2] 3 (0, 0)) := by rw [← hw5]; exact blk_alloc (blk_alloc b1 _) _
  have b2' : w5.heap[w.heap.size + 1 + 1]? = some (.cells #[.bool false] 4 (0, 0)) := by rw [← hw5]; exact blk_alloc (blk_alloc b2 _) _
  have hb5 : Below w.heap.size w w5 := by rw [← hw5]; exact (hb3.alloc (by omega) _).alloc (by simp; omega) _
  clear hw5 b0 b1 b2 hb3
  have hOB : ¬ ((w.heap.size + 1 + 1 + 1 + 1 < w.heap.size + 4) ∨ w.heap.size + 1 + 1 + 1 + 1 = w5.heap.size ∨ w.heap.size + 1 + 1 + 1 + 1 = w5.heap.size + 1) := by omega
  refine range_over (Own := fun k => k < w.heap.size + 4) rfl (by omega) (gf := 38) (lb := #[.pointer (some ⟨w.heap.size + 1 + 1 + 1, 0, none⟩), .pointer (some ⟨w.heap.size + 1 + 1 + 1 + 1, 0, none⟩)]) (encs := fun x : Int => #[Value.int .i64 x]) rfl trivial (enters_of Try.func38 (by kernel_rfl) rfl)
    (up_gives 7 (by omega) A0 c0 l0 a0 (w.heap.size + 1 + 1 + 1) (w.heap.size + 1 + 1 + 1 + 1) a1 _ hOB w5 bB) (fun k hk => by omega) (fun h1 h2 => h2.trans h1) (fun W l o hl => World.putObj_heap_other (by omega)) (fun _ => rfl)
    (fun pre W => ((∀ y ∈ pre, y ≠ a2) ∧ W.heap[w.heap.size + 1]? = some (.cells #[.int .i64 a2] 3 (0, 0)) ∧ W.heap[w.heap.size + 1 + 1]? = some (.cells #[.bool false] 4 (0, 0)) ∧ W.heap[w.heap.size + 1 + 1 + 1]? = some (.cells #[.slice A0 l0.length c0, .int .i64 a0] 26 (0, 0))) ∧ Below w.heap.size w W)
    (fun c pre W => (c = .ret ∧ a2 ∈ pre ∧ W.heap[w.heap.size + 1 + 1]? = some (.cells #[.bool true] 4 (0, 0))) ∧ Below w.heap.size w W)
    (fun s A C h hst => ⟨⟨h.1.1, stays_blk hst (by show _ < _; omega) h.1.2.1, stays_blk hst (by show _ < _; omega) h.1.2.2.1, stays_blk hst (by show _ < _; omega) h.1.2.2.2⟩, stays_below h.2 hst (fun k hk => by show _ < _; omega)⟩)
    (fun c s A C h hst => ⟨⟨h.1.1, h.1.2.1, stays_blk hst (by show _ < _; omega) h.1.2.2⟩, stays_below h.2 hst (fun k hk => by show _ < _; omega)⟩)
    (fun s A h => ⟨h.1.2.2.2, Kd.C_below HR.out h.2⟩)
    ⟨⟨by simp, b1', b2', bT⟩, hb5⟩
    (fun x => { tmps := #[.agg #[.slice A0 l0.length c0, .int .i64 a0], .int .i64 a1, .int .i64 a2, .pointer (some ⟨w.heap.size, 0, none⟩), undef, .pointer (some ⟨w.heap.size + 1, 0, none⟩), .pointer (some ⟨w.heap.size + 1 + 1, 0, none⟩), .int .i64 x, .agg #[.slice A0 l0.length c0, .int .i64 a0], .int .i64 a1, .func (.func 38) #[] #[.pointer (some ⟨w.heap.size + 1 + 1 + 1, 0, none⟩), .pointer (some ⟨w.heap.size + 1 + 1 + 1 + 1, 0, none⟩)], .int .i64 x, undef, undef, undef], defers := [] }) ?assign ?body ?done ?stop
  case assign =>
    intro l x W K hK
    gi_wp2
    exact hK
  case body =>
    rintro l pre x W ⟨⟨hp, h1, h2, h3⟩, hB⟩ hpost hlt
    have c1 : W.cell? ⟨w.heap.size + 1, 0, none⟩ = some (.int .i64 a2) := blk_cell h1 0
    have c2 : W.cell? ⟨w.heap.size + 1 + 1, 0, none⟩ = some (.bool false) := blk_cell h2 0
    have f2 := blk_frozen h2 0
    have HP := Aside0.mk hp
    have H1 := Aside0.mk h1
    have H2 := Aside0.mk h2
    have H3 := Aside0.mk h3
    have HBW := Aside0.mk hB
    clear hp h1 h2 h3 hB hpost
    by_cases hx : x = a2
    · have hx1 : (x == a2) = true := by simp [hx]
      have HX := Aside0.mk hx
      clear hx
      gi_wp2
      exact ⟨Stays.setCell (by show ¬ (_ ∨ _); simp; omega) _ _, ⟨rfl, List.mem_append.2 (.inr (by rw [HX.out]; simp)), blk_set H2.out 0 _⟩, HBW.out.setCell (by show w.heap.size ≤ w.heap.size + 1 + 1; omega) _⟩
    · have hx1 : (x == a2) = false := by simp [hx]
      have HX := Aside0.mk hx
      clear hx
      gi_wp2
      exact ⟨Stays.refl _ _, rfl, ⟨fun y hy => (List.mem_append.1 hy).elim (HP.out y) (fun e => by simp at e; subst e; exact HX.out), H1.out, H2.out, H3.out⟩, HBW.out⟩
  case done =>
    rintro W ⟨⟨hp, h1, h2, h3⟩, hB⟩ hK
    have hr : r = false := by rw [← HH.out, decide_eq_false]; exact fun hm => hp _ hm rfl
    have c2 : W.cell? ⟨w.heap.size + 1 + 1, 0, none⟩ = some (.bool false) := blk_cell h2 0
    have f2 := blk_frozen h2 0
    have H2 := Aside0.mk h2
    have HK := Aside0.mk hK
    have HBW := Aside0.mk hB
    have HHR := Aside0.mk hr
    clear hp h1 h2 h3 hK hB hr
    gi_wp2
    have hK' : (W.setCell ⟨w.heap.size + 1 + 1, 0, none⟩ (.bool false)).heap[w5.heap.size]? = some (.deferred (some [])) := (Below.heap_setCell W ⟨w.heap.size + 1 + 1, 0, none⟩ (.bool false) w5.heap.size (by simp; omega)).trans HK.out
    refine ⟨by simp, .inl ⟨_, _, rfl, run_takeDeferred hK', ?_⟩⟩
    have hc5 : (((W.setCell ⟨w.heap.size + 1 + 1, 0, none⟩ (.bool false)).putObj w5.heap.size (.deferred none))).cell? ⟨w.heap.size + 1 + 1, 0, none⟩ = some (.bool false) := blk_cell ((World.putObj_heap_other (by omega)).trans (blk_set H2.out 0 _)) 0
    refine ⟨.bool false, ?_, by rw [HHR.out], below_shut (HBW.out.setCell (by show w.heap.size ≤ w.heap.size + 1 + 1; omega) _) (by omega) _⟩
    simp [results, Try.f12, go_sem, hc5]
  case stop =>
    rintro c pre post W hx ⟨⟨rfl, hin, h2⟩, hB⟩ hK
    have hr : r = true := by rw [← HH.out, decide_eq_true]; rw [hx]; exact List.mem_append.2 (.inl hin)
    have H2 := Aside0.mk h2
    have HK := Aside0.mk hK
    have HBW := Aside0.mk hB
    have HHR := Aside0.mk hr
    clear h2 hK hB hr hin hx
    gi_wp2
    refine ⟨by simp, .inl ⟨_, _, rfl, run_takeDeferred HK.out, ?_⟩⟩
    have hc5 : (W.putObj w5.heap.size (.deferred none)).cell? ⟨w.heap.size + 1 + 1, 0, none⟩ = some (.bool true) := blk_cell ((World.putObj_heap_other (by omega)).trans H2.out) 0
    refine ⟨.bool true, ?_, by rw [HHR.out], below_shut HBW.out (by omega) _⟩
    simp [results, Try.f12, go_sem, hc5]
end Go.Proofs.Ytnlnglfjehohpaa.Q
