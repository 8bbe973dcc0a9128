import Derived.Test.YtnlnglfjehohpaaTT
import Derived.Shelf.AbstractIn
namespace Go.Proofs.Ytnlnglfjehohpaa.Q
open Go.RowKit Go.Shelf Go.Proofs.YtnlnglfjehohpaaW Go.Proofs.YtnlnglfjehohpaaW.PrintWords Go.Proofs.YtnlnglfjehohpaaW.PrintLast Go.Proofs.YtnlnglfjehohpaaW.PrintMore
open RU
attribute [local go_sem] Oper.semAt_some
set_option linter.unusedVariables false
set_option linter.unusedSimpArgs false

/-- What a function on a transaction tells. -/
def Tells (g : Nat) (p : S35 → Bool) : Prop := ∀ (x : S35) (W : World), Calls Try.prog g #[.agg #[.int .i64 x.f0, .int .i64 x.f1, .int .i64 x.f2, .int .i64 x.f3]] W fun e w' => e = .returned (.bool (p x)) ∧ Below W.heap.size W w'
def anyUp (p : S35 → Bool) (l : List S35) (id : Int) : Bool := (chain l id).any (fun x => p (rd_T35 l x))
set_option maxRecDepth 100000 in
set_option maxHeartbeats 2000000 in
theorem any_any (g : Nat) (p : S35 → Bool) (eg : ∀ args w, (callFunc g args).run Try.prog w = .ok (.enter g args) w) (hg : Tells g p) (A0 : Option Addr) (c0 : Nat) (l0 : List S35) (a0 : Int) (a1 : Int) (r : Bool) (w : World) (hr0 : Kd.C k35 w A0 l0.length l0) (hc0 : l0.length ≤ c0) (h : some (anyUp p l0 a1) = some r) :
    Calls Try.prog 28 #[.agg #[.slice A0 l0.length c0, .int .i64 a0], .int .i64 a1, .func (.func g) #[] #[]] w fun e w' => e = .returned (.bool r) ∧ Below w.heap.size w w' := by
  have h := Option.some.inj h
  refine (callsIn_wide (n := 8)).1 ?_
  have hu := Try.underlying26
  have HR := Aside0.mk hr0
  have HU := Aside0.mk (up_any A0 c0 l0 a0 a1)
  have HH := Aside0.mk h
  have HG := Aside0.mk hg
  clear hr0 h hg
  obtain ⟨w3, hw3⟩ : ∃ w3, ((w.alloc (.cells #[.slice A0 l0.length c0, .int .i64 a0] 26)).alloc (.cells #[.func (.func g) #[] #[]] 50)).alloc (.cells #[.bool false] 4) = w3 := ⟨_, rfl⟩
  have hs3 : w3.heap.size = w.heap.size + 3 := by rw [← hw3]; simp
  have b0 : w3.heap[w.heap.size]? = some (.cells #[.slice A0 l0.length c0, .int .i64 a0] 26 (0, 0)) := by rw [← hw3]; exact blk_alloc (blk_alloc (blk_new w _) _) _
  have b1 : w3.heap[w.heap.size + 1]? = some (.cells #[.func (.func g) #[] #[]] 50 (0, 0)) := by rw [← hw3]; simpa using blk_alloc (blk_new (w.alloc (.cells #[.slice A0 l0.length c0, .int .i64 a0] 26)) _) _
  have b2 : w3.heap[w.heap.size + 2]? = some (.cells #[.bool false] 4 (0, 0)) := by rw [← hw3]; simpa using blk_new ((w.alloc (.cells #[.slice A0 l0.length c0, .int .i64 a0] 26)).alloc (.cells #[.func (.func g) #[] #[]] 50)) (.cells #[.bool false] 4)
  have hb3 : Below w.heap.size w w3 := by rw [← hw3]; exact (((Below.refl _ w).alloc (Nat.le_refl _) _).alloc (by simp) _).alloc (by simp; omega) _
  have HW3 := Aside0.mk hw3
  refine callsIn_of_wp_marks Try.func28 rfl trivial ?_ rfl
  simp only [Try.ntmps28, List.size_toArray, List.length_cons, List.length_nil, Nat.reduceAdd, Nat.reduceSub, Array.replicate_succ, Array.replicate_zero, List.push_toArray, List.append_toArray, List.nil_append, List.cons_append]
  clear hw3
  gi_wp2_with (refine ⟨trivial, ?_⟩; gi_at_call 26; refine (callsIn_wide.2 (HU.out _)).mono ?_; rintro e w' ⟨rfl, rfl⟩)
  rw [HW3.out]
  obtain ⟨w5, hw5⟩ : ∃ w5, (w3.alloc (.cells #[.slice A0 l0.length c0, .int .i64 a0] 26)).alloc (.cells #[.int .i64 a1] 3) = w5 := ⟨_, rfl⟩
  rw [hw5]
  have hs5 : w5.heap.size = w.heap.size + 5 := by rw [← hw5]; simp [hs3]
  have bT : w5.heap[w.heap.size + 1 + 1 + 1]? = some (.cells #[.slice A0 l0.length c0, .int .i64 a0] 26 (0, 0)) := by rw [← hw5]; have := blk_alloc (blk_new w3 (.cells #[.slice A0 l0.length c0, .int .i64 a0] 26)) (.cells #[.int .i64 a1] 3); rwa [hs3] at this
  have bB : w5.heap[w.heap.size + 1 + 1 + 1 + 1]? = some (.cells #[.int .i64 a1] 3 (0, 0)) := by rw [← hw5]; have := blk_new (w3.alloc (.cells #[.slice A0 l0.length c0, .int .i64 a0] 26)) (.cells #[.int .i64 a1] 3); rwa [World.size_alloc, hs3] at this
  have b0' : w5.heap[w.heap.size]? = some (.cells #[.slice A0 l0.length c0, .int .i64 a0] 26 (0, 0)) := by rw [← hw5]; exact blk_alloc (blk_alloc b0 _) _
  have b1' : w5.heap[w.heap.size + 1]? = some (.cells #[.func (.func g) #[] #[]] 50 (0, 0)) := by rw [← hw5]; exact blk_alloc (blk_alloc b1 _) _
  have b2' : w5.heap[w.heap.size + 1 + 1]? = some (.cells #[.bool false] 4 (0, 0)) := by rw [← hw5]; exact blk_alloc (blk_alloc b2 _) _
  have hb5 : Below w.heap.size w w5 := by rw [← hw5]; exact (hb3.alloc (by omega) _).alloc (by simp; omega) _
  clear hw5 b0 b1 b2 hb3
  have hOB : ¬ ((w.heap.size + 1 + 1 + 1 + 1 < w.heap.size + 4) ∨ w.heap.size + 1 + 1 + 1 + 1 = w5.heap.size ∨ w.heap.size + 1 + 1 + 1 + 1 = w5.heap.size + 1) := by omega
  refine range_over (Own := fun k => k < w.heap.size + 4) rfl (by omega) (gf := 38) (lb := #[.pointer (some ⟨w.heap.size + 1 + 1 + 1, 0, none⟩), .pointer (some ⟨w.heap.size + 1 + 1 + 1 + 1, 0, none⟩)]) (encs := fun x : Int => #[Value.int .i64 x]) rfl trivial (enters_of Try.func38 (by kernel_rfl) rfl)
    (up_gives 7 (by omega) A0 c0 l0 a0 (w.heap.size + 1 + 1 + 1) (w.heap.size + 1 + 1 + 1 + 1) a1 _ hOB w5 bB) (fun k hk => by omega) (fun h1 h2 => h2.trans h1) (fun W l o hl => World.putObj_heap_other (by omega)) (fun _ => rfl)
    (fun pre W => ((∀ y ∈ pre, p (rd_T35 l0 y) = false) ∧ (W.heap[w.heap.size]? = some (.cells #[.slice A0 l0.length c0, .int .i64 a0] 26 (0, 0)) ∧ W.heap[w.heap.size + 1]? = some (.cells #[.func (.func g) #[] #[]] 50 (0, 0))) ∧ W.heap[w.heap.size + 1 + 1]? = some (.cells #[.bool false] 4 (0, 0)) ∧ W.heap[w.heap.size + 1 + 1 + 1]? = some (.cells #[.slice A0 l0.length c0, .int .i64 a0] 26 (0, 0))) ∧ Below w.heap.size w W)
    (fun c pre W => (c = .ret ∧ (∃ y ∈ pre, p (rd_T35 l0 y) = true) ∧ W.heap[w.heap.size + 1 + 1]? = some (.cells #[.bool true] 4 (0, 0))) ∧ Below w.heap.size w W)
    (fun s A C h hst => ⟨⟨h.1.1, ⟨stays_blk hst (by show _ < _; omega) h.1.2.1.1, stays_blk hst (by show _ < _; omega) h.1.2.1.2⟩, stays_blk hst (by show _ < _; omega) h.1.2.2.1, stays_blk hst (by show _ < _; omega) h.1.2.2.2⟩, stays_below h.2 hst (fun k hk => by show _ < _; omega)⟩)
    (fun c s A C h hst => ⟨⟨h.1.1, h.1.2.1, stays_blk hst (by show _ < _; omega) h.1.2.2⟩, stays_below h.2 hst (fun k hk => by show _ < _; omega)⟩)
    (fun s A h => ⟨h.1.2.2.2, Kd.C_below HR.out h.2⟩)
    ⟨⟨by simp, ⟨b0', b1'⟩, b2', bT⟩, hb5⟩
    (fun x => { tmps := #[.agg #[.slice A0 l0.length c0, .int .i64 a0], .int .i64 a1, .func (.func g) #[] #[], .pointer (some ⟨w.heap.size, 0, none⟩), undef, .pointer (some ⟨w.heap.size + 1, 0, none⟩), .pointer (some ⟨w.heap.size + 1 + 1, 0, none⟩), .int .i64 x, .agg #[.slice A0 l0.length c0, .int .i64 a0], .int .i64 a1, .func (.func 38) #[] #[.pointer (some ⟨w.heap.size + 1 + 1 + 1, 0, none⟩), .pointer (some ⟨w.heap.size + 1 + 1 + 1 + 1, 0, none⟩)], .int .i64 x, undef, undef, undef, undef, undef, undef, undef], defers := [] }) ?assign ?body ?done ?stop
  case assign =>
    intro l x W K hK
    gi_wp2
    exact hK
  case body =>
    rintro l pre x W ⟨⟨hp, ⟨h0, h1⟩, h2, h3⟩, hB⟩ ⟨post, hpost⟩ hlt
    obtain ⟨i1, i2⟩ := chain_in l0 a1 x (by rw [hpost]; simp)
    obtain ⟨ad, rfl, e0, e1, e2, e3⟩ := at_T35 (Kd.C_below HR.out hB) x i1 (by omega)
    have c0' : W.cell? ⟨w.heap.size, 0, none⟩ = some (.slice (some ad) l0.length c0) := blk_cell h0 0
    have c1 : W.cell? ⟨w.heap.size + 1, 0, none⟩ = some (.func (.func g) #[] #[]) := blk_cell h1 0
    have c2 : W.cell? ⟨w.heap.size + 1 + 1, 0, none⟩ = some (.bool false) := blk_cell h2 0
    have f2 := blk_frozen h2 0
    have hu35 := Try.underlying35
    have HP := Aside0.mk hp
    have H0 := Aside0.mk h0
    have H1 := Aside0.mk h1
    have H2 := Aside0.mk h2
    have H3 := Aside0.mk h3
    have HBW := Aside0.mk hB
    clear hp h0 h1 h2 h3 hB hpost
    obtain ⟨y, hy⟩ : ∃ y, rd_T35 l0 x = y := ⟨_, rfl⟩
    have HY := Aside0.mk hy
    rw [hy] at e0 e1 e2 e3
    have HGG := Aside0.mk (HG.out y)
    clear hy
    obtain ⟨bb, hpy⟩ : ∃ bb, p y = bb := ⟨_, rfl⟩
    rw [hpy] at HGG
    have HPY := Aside0.mk hpy
    clear hpy
    have HNB := Aside0.mk hlt
    have hmx : Try.prog.follows .mixedOrders = true := by kernel_rfl
    gi_wp2
    gi_region_with_o (refine ⟨trivial, ?_⟩; gi_at_fn g; refine (CallsIn.inRound l (callsIn_wide.2 (HGG.out _))).mono ?_; rintro e w2 ⟨rfl, hb⟩; have G0 := Aside0.mk (blk_below (blk_drew H0.out) hb); have G1 := Aside0.mk (blk_below (blk_drew H1.out) hb); have G2 := Aside0.mk (blk_below (blk_drew H2.out) hb); have G3 := Aside0.mk (blk_below (blk_drew H3.out) hb); have d2 := blk_cell G2.out 0; have g2 := blk_frozen G2.out 0; have GB := Aside0.mk (below_then (below_drew1 HBW.out) (below_drew1 HBW.out).size hb); have GS := Aside0.mk ((Stays.below (below_drew1 (Below.refl _ W))).trans (Stays.below (Own := fun k => k = w5.heap.size ∨ k = w5.heap.size + 1) hb)); have GK := Aside0.mk (hb.block (w.heap.size + 1 + 1 + 1 + 1) (by show _ < W.heap.size; omega)); clear hb)
    all_goals
      cases bb with
      | true =>
        gi_wp2
        exact ⟨GS.out.trans (Stays.setCell (by show ¬ (_ ∨ _); simp; omega) _ _), ⟨rfl, ⟨x, by simp, by rw [HY.out]; exact HPY.out⟩, blk_set G2.out 0 _⟩, GB.out.setCell (by show w.heap.size ≤ w.heap.size + 1 + 1; omega) _⟩
      | false =>
        gi_wp2
        exact ⟨GS.out, GK.out, ⟨fun z hz => (List.mem_append.1 hz).elim (HP.out z) (fun e => by simp at e; subst e; rw [HY.out]; exact HPY.out), ⟨G0.out, G1.out⟩, G2.out, G3.out⟩, GB.out⟩
  case done =>
    rintro W ⟨⟨hp, h1, h2, h3⟩, hB⟩ hK
    have hr : r = false := by rw [← HH.out]; unfold anyUp; rw [List.any_eq_false]; intro y hy; simp [hp y hy]
    have c2 : W.cell? ⟨w.heap.size + 1 + 1, 0, none⟩ = some (.bool false) := blk_cell h2 0
    have f2 := blk_frozen h2 0
    have H2 := Aside0.mk h2
    have HK := Aside0.mk hK
    have HBW := Aside0.mk hB
    have HHR := Aside0.mk hr
    clear hp h1 h2 h3 hK hB hr
    gi_wp2
    have hK' : (W.setCell ⟨w.heap.size + 1 + 1, 0, none⟩ (.bool false)).heap[w5.heap.size]? = some (.deferred (some [])) := (Below.heap_setCell W ⟨w.heap.size + 1 + 1, 0, none⟩ (.bool false) w5.heap.size (by simp; omega)).trans HK.out
    refine ⟨by simp, .inl ⟨_, _, rfl, run_takeDeferred hK', ?_⟩⟩
    have hc5 : (((W.setCell ⟨w.heap.size + 1 + 1, 0, none⟩ (.bool false)).putObj w5.heap.size (.deferred none))).cell? ⟨w.heap.size + 1 + 1, 0, none⟩ = some (.bool false) := blk_cell ((World.putObj_heap_other (by omega)).trans (blk_set H2.out 0 _)) 0
    refine ⟨.bool false, ?_, by rw [HHR.out], below_shut (HBW.out.setCell (by show w.heap.size ≤ w.heap.size + 1 + 1; omega) _) (by omega) _⟩
    simp [results, Try.f28, go_sem, hc5]
  case stop =>
    rintro c pre post W hx ⟨⟨rfl, hin, h2⟩, hB⟩ hK
    have hr : r = true := by rw [← HH.out]; unfold anyUp; rw [List.any_eq_true]; obtain ⟨y, hy, hpy⟩ := hin; exact ⟨y, by rw [hx]; exact List.mem_append.2 (.inl hy), hpy⟩
    have H2 := Aside0.mk h2
    have HK := Aside0.mk hK
    have HBW := Aside0.mk hB
    have HHR := Aside0.mk hr
    clear h2 hK hB hr hin hx
    gi_wp2
    refine ⟨by simp, .inl ⟨_, _, rfl, run_takeDeferred HK.out, ?_⟩⟩
    have hc5 : (W.putObj w5.heap.size (.deferred none)).cell? ⟨w.heap.size + 1 + 1, 0, none⟩ = some (.bool true) := blk_cell ((World.putObj_heap_other (by omega)).trans H2.out) 0
    refine ⟨.bool true, ?_, by rw [HHR.out], below_shut HBW.out (by omega) _⟩
    simp [results, Try.f28, go_sem, hc5]
end Go.Proofs.Ytnlnglfjehohpaa.Q
