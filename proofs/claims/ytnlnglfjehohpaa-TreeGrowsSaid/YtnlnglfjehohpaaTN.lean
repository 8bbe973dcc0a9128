import Derived.Test.YtnlnglfjehohpaaTT
import Derived.Test.YtnlnglfjehohpaaTD
import Derived.Shelf.AbstractIn
namespace Go.Proofs.Ytnlnglfjehohpaa.Q
open Go.RowKit Go.Shelf Go.Proofs.YtnlnglfjehohpaaW Go.Proofs.YtnlnglfjehohpaaW.PrintWords Go.Proofs.YtnlnglfjehohpaaW.PrintLast Go.Proofs.YtnlnglfjehohpaaW.PrintMore
open RU
attribute [local go_sem] Oper.semAt_some
set_option linter.unusedVariables false
set_option linter.unusedSimpArgs false

def badS (s o : Int) : Bool := (s == 1 && o != 1) || (s == 2 && o == 3)
def nestedB (l : List S35) (id : Int) : Bool := !(chain l id).any (fun x => badS (rd_T35 l id).f1 (rd_T35 l x).f1) && decide ((chain l id).length ≤ 8)
/-- May one's state be, in those that it stands in? -/
def tree_Tree_nested.f (l0 : List S35) (a0 : Int) (a1 : Int) : Option Bool := if isB l0 a1 = true ∧ (chain l0 a1).Nodup then some (nestedB l0 a1) else none
set_option maxRecDepth 100000 in
set_option maxHeartbeats 4000000 in
theorem tree_Tree_nested.calls (A0 : Option Addr) (c0 : Nat) (l0 : List S35) (a0 : Int) (a1 : Int) (r : Bool) (w : World) (hr0 : Kd.C k35 w A0 l0.length l0) (hc0 : l0.length ≤ c0) (h : tree_Tree_nested.f l0 a0 a1 = some r) :
    Calls Try.prog 32 #[.agg #[.slice A0 l0.length c0, .int .i64 a0], .int .i64 a1] w fun e w' => e = .returned (.bool r) ∧ Below w.heap.size w w' := by
  unfold tree_Tree_nested.f at h
  by_cases hin : isB l0 a1 = true ∧ (chain l0 a1).Nodup
  case neg => rw [if_neg hin] at h; cases h
  rw [if_pos hin] at h
  obtain ⟨hib, hnd⟩ := hin
  have h := Option.some.inj h
  obtain ⟨g1, g2⟩ : 0 ≤ a1 ∧ a1 < (l0.length : Int) := by unfold isB at hib; simpa using hib
  refine (callsIn_wide (n := 8)).1 ?_
  have hu := Try.underlying26
  have hu35 := Try.underlying35
  have HD := Aside0.mk (fun W (hW : Below w.heap.size w W) => tree_Deep.calls A0 c0 l0 a0 a1 ((chain l0 a1).length : Int) W (Kd.C_below hr0 hW) hc0 (by unfold tree_Deep.f; rw [if_pos hnd]))
  have HR := Aside0.mk hr0
  have HU := Aside0.mk (up_any A0 c0 l0 a0 a1)
  have HH := Aside0.mk h
  obtain ⟨ad, rfl, _, es, _⟩ := at_T35 hr0 a1 g1 (by omega)
  obtain ⟨ad2, had2, _, es2, _⟩ := at_T35 (Kd.C_below hr0 (((Below.refl w.heap.size w).alloc (Nat.le_refl _) (.cells #[.slice (some ad) l0.length c0, .int .i64 a0] 26)).alloc (by simp) (.cells #[.bool false] 4))) a1 g1 (by omega)
  obtain rfl := Option.some.inj had2
  clear hr0 h hib hnd had2
  obtain ⟨s, hs⟩ : ∃ s, (rd_T35 l0 a1).f1 = s := ⟨_, rfl⟩
  rw [hs] at es es2
  have HS := Aside0.mk hs
  clear hs
  obtain ⟨w3, hw3⟩ : ∃ w3, ((w.alloc (.cells #[.slice (some ad) l0.length c0, .int .i64 a0] 26)).alloc (.cells #[.bool false] 4)).alloc (.cells #[.int .i64 s] 3) = w3 := ⟨_, rfl⟩
  have hs3 : w3.heap.size = w.heap.size + 3 := by rw [← hw3]; simp
  have b0 : w3.heap[w.heap.size]? = some (.cells #[.slice (some ad) l0.length c0, .int .i64 a0] 26 (0, 0)) := by rw [← hw3]; exact blk_alloc (blk_alloc (blk_new w _) _) _
  have b1 : w3.heap[w.heap.size + 1]? = some (.cells #[.bool false] 4 (0, 0)) := by rw [← hw3]; simpa using blk_alloc (blk_new (w.alloc (.cells #[.slice (some ad) l0.length c0, .int .i64 a0] 26)) (.cells #[.bool false] 4)) (.cells #[.int .i64 s] 3)
  have b2 : w3.heap[w.heap.size + 2]? = some (.cells #[.int .i64 s] 3 (0, 0)) := by rw [← hw3]; simpa using blk_new ((w.alloc (.cells #[.slice (some ad) l0.length c0, .int .i64 a0] 26)).alloc (.cells #[.bool false] 4)) (.cells #[.int .i64 s] 3)
  have hb3 : Below w.heap.size w w3 := by rw [← hw3]; exact (((Below.refl _ w).alloc (Nat.le_refl _) _).alloc (by simp) _).alloc (by simp; omega) _
  have HW3 := Aside0.mk hw3
  refine callsIn_of_wp_marks Try.func32 rfl trivial ?_ rfl
  simp only [Try.ntmps32, List.size_toArray, List.length_cons, List.length_nil, Nat.reduceAdd, Nat.reduceSub, Array.replicate_succ, Array.replicate_zero, List.push_toArray, List.append_toArray, List.nil_append, List.cons_append]
  clear hw3
  gi_wp2_with (refine ⟨trivial, ?_⟩; gi_at_call 26; refine (callsIn_wide.2 (HU.out _)).mono ?_; rintro e w' ⟨rfl, rfl⟩)
  rw [HW3.out]
  obtain ⟨w5, hw5⟩ : ∃ w5, (w3.alloc (.cells #[.slice (some ad) l0.length c0, .int .i64 a0] 26)).alloc (.cells #[.int .i64 a1] 3) = w5 := ⟨_, rfl⟩
  rw [hw5]
  have hs5 : w5.heap.size = w.heap.size + 5 := by rw [← hw5]; simp [hs3]
  have bT : w5.heap[w.heap.size + 1 + 1 + 1]? = some (.cells #[.slice (some ad) l0.length c0, .int .i64 a0] 26 (0, 0)) := by rw [← hw5]; have := blk_alloc (blk_new w3 (.cells #[.slice (some ad) l0.length c0, .int .i64 a0] 26)) (.cells #[.int .i64 a1] 3); rwa [hs3] at this
  have bB : w5.heap[w.heap.size + 1 + 1 + 1 + 1]? = some (.cells #[.int .i64 a1] 3 (0, 0)) := by rw [← hw5]; have := blk_new (w3.alloc (.cells #[.slice (some ad) l0.length c0, .int .i64 a0] 26)) (.cells #[.int .i64 a1] 3); rwa [World.size_alloc, hs3] at this
  have b0' : w5.heap[w.heap.size]? = some (.cells #[.slice (some ad) l0.length c0, .int .i64 a0] 26 (0, 0)) := by rw [← hw5]; exact blk_alloc (blk_alloc b0 _) _
  have b1' : w5.heap[w.heap.size + 1]? = some (.cells #[.bool false] 4 (0, 0)) := by rw [← hw5]; exact blk_alloc (blk_alloc b1 _) _
  have b2' : w5.heap[w.heap.size + 1 + 1]? = some (.cells #[.int .i64 s] 3 (0, 0)) := by rw [← hw5]; exact blk_alloc (blk_alloc b2 _) _
  have hb5 : Below w.heap.size w w5 := by rw [← hw5]; exact (hb3.alloc (by omega) _).alloc (by simp; omega) _
  clear hw5 b0 b1 b2 hb3
  have hOB : ¬ ((w.heap.size + 1 + 1 + 1 + 1 < w.heap.size + 4) ∨ w.heap.size + 1 + 1 + 1 + 1 = w5.heap.size ∨ w.heap.size + 1 + 1 + 1 + 1 = w5.heap.size + 1) := by omega
  refine range_over (Own := fun k => k < w.heap.size + 4) rfl (by omega) (gf := 38) (lb := #[.pointer (some ⟨w.heap.size + 1 + 1 + 1, 0, none⟩), .pointer (some ⟨w.heap.size + 1 + 1 + 1 + 1, 0, none⟩)]) (encs := fun x : Int => #[Value.int .i64 x]) rfl trivial (enters_of Try.func38 (by kernel_rfl) rfl)
    (up_gives 7 (by omega) (some ad) c0 l0 a0 (w.heap.size + 1 + 1 + 1) (w.heap.size + 1 + 1 + 1 + 1) a1 _ hOB w5 bB) (fun k hk => by omega) (fun h1 h2 => h2.trans h1) (fun W l o hl => World.putObj_heap_other (by omega)) (fun _ => rfl)
    (fun pre W => ((∀ y ∈ pre, badS s (rd_T35 l0 y).f1 = false) ∧ (W.heap[w.heap.size]? = some (.cells #[.slice (some ad) l0.length c0, .int .i64 a0] 26 (0, 0)) ∧ W.heap[w.heap.size + 1]? = some (.cells #[.bool false] 4 (0, 0))) ∧ W.heap[w.heap.size + 1 + 1]? = some (.cells #[.int .i64 s] 3 (0, 0)) ∧ W.heap[w.heap.size + 1 + 1 + 1]? = some (.cells #[.slice (some ad) l0.length c0, .int .i64 a0] 26 (0, 0))) ∧ Below w.heap.size w W)
    (fun c pre W => (c = .ret ∧ (∃ y ∈ pre, badS s (rd_T35 l0 y).f1 = true) ∧ W.heap[w.heap.size + 1]? = some (.cells #[.bool false] 4 (0, 0))) ∧ Below w.heap.size w W)
    (fun s' A C h hst => ⟨⟨h.1.1, ⟨stays_blk hst (by show _ < _; omega) h.1.2.1.1, stays_blk hst (by show _ < _; omega) h.1.2.1.2⟩, stays_blk hst (by show _ < _; omega) h.1.2.2.1, stays_blk hst (by show _ < _; omega) h.1.2.2.2⟩, stays_below h.2 hst (fun k hk => by show _ < _; omega)⟩)
    (fun c s' A C h hst => ⟨⟨h.1.1, h.1.2.1, stays_blk hst (by show _ < _; omega) h.1.2.2⟩, stays_below h.2 hst (fun k hk => by show _ < _; omega)⟩)
    (fun s' A h => ⟨h.1.2.2.2, Kd.C_below HR.out h.2⟩)
    ⟨⟨by simp, ⟨b0', b1'⟩, b2', bT⟩, hb5⟩
    (fun x => { tmps := #[.agg #[.slice (some ad) l0.length c0, .int .i64 a0], .int .i64 a1, .pointer (some ⟨w.heap.size, 0, none⟩), undef, .pointer (some ⟨w.heap.size + 1, 0, none⟩), .pointer (some ⟨w.heap.size + 1 + 1, 0, none⟩), .int .i64 x, undef, .pointer (some ⟨w.heap.size, 0, none⟩), .slice (some ad) l0.length c0, .int .i64 a1, .pointer (some (ad.add (a1.toNat * 4))), .pointer (some ⟨(ad.add (a1.toNat * 4)).block, (ad.add (a1.toNat * 4)).off + 1, none⟩), .int .i64 s, .agg #[.slice (some ad) l0.length c0, .int .i64 a0], .int .i64 a1, .func (.func 38) #[] #[.pointer (some ⟨w.heap.size + 1 + 1 + 1, 0, none⟩), .pointer (some ⟨w.heap.size + 1 + 1 + 1 + 1, 0, none⟩)], .int .i64 x, undef, undef, undef, undef, undef, undef, undef, undef, undef, undef, undef, undef, undef, undef, undef, undef, undef, undef, undef, undef, undef, undef, undef, undef], defers := [] }) ?assign ?body ?done ?stop
  case assign =>
    intro l x W K hK
    gi_wp2
    exact hK
  case body =>
    rintro l pre x W ⟨⟨hp, ⟨h0, h1⟩, h2, h3⟩, hB⟩ ⟨post, hpost⟩ hlt
    obtain ⟨i1, i2⟩ := chain_in l0 a1 x (by rw [hpost]; simp)
    obtain ⟨ad', had, _, e1, _⟩ := at_T35 (Kd.C_below HR.out hB) x i1 (by omega)
    obtain rfl := Option.some.inj had
    have c0' : W.cell? ⟨w.heap.size, 0, none⟩ = some (.slice (some ad) l0.length c0) := blk_cell h0 0
    have c1 : W.cell? ⟨w.heap.size + 1, 0, none⟩ = some (.bool false) := blk_cell h1 0
    have f1 := blk_frozen h1 0
    have c2 : W.cell? ⟨w.heap.size + 1 + 1, 0, none⟩ = some (.int .i64 s) := blk_cell h2 0
    have HP := Aside0.mk hp
    have H0 := Aside0.mk h0
    have H1 := Aside0.mk h1
    have H2 := Aside0.mk h2
    have H3 := Aside0.mk h3
    have HBW := Aside0.mk hB
    clear hp h0 h1 h2 h3 hB hpost had es es2
    obtain ⟨o, ho⟩ : ∃ o, (rd_T35 l0 x).f1 = o := ⟨_, rfl⟩
    have HO := Aside0.mk ho
    rw [ho] at e1
    clear ho
    obtain ⟨q1, hq1⟩ : ∃ q : Bool, (s == 1) = q := ⟨_, rfl⟩
    obtain ⟨q2, hq2⟩ : ∃ q : Bool, (o != 1) = q := ⟨_, rfl⟩
    obtain ⟨q3, hq3⟩ : ∃ q : Bool, (s == 2) = q := ⟨_, rfl⟩
    obtain ⟨q4, hq4⟩ : ∃ q : Bool, (o == 3) = q := ⟨_, rfl⟩
    have hbad : badS s o = (q1 && q2 || q3 && q4) := by unfold badS; rw [hq1, hq2, hq3, hq4]
    have HBAD := Aside0.mk hbad
    clear hbad
    have HXX := Aside0.mk (show badS s (rd_T35 l0 x).f1 = badS s o by rw [HO.out])
    cases q1 <;> cases q2 <;> cases q3 <;> cases q4 <;> (gi_wp2; first | exact ⟨Stays.setCell (by show ¬ (_ ∨ _); simp; omega) _ _, ⟨rfl, ⟨x, by simp, by rw [HXX.out, HBAD.out]; rfl⟩, blk_set H1.out 0 _⟩, HBW.out.setCell (by show w.heap.size ≤ w.heap.size + 1; omega) _⟩ | exact ⟨Stays.refl _ _, rfl, ⟨fun y hy => (List.mem_append.1 hy).elim (HP.out y) (fun e => by simp at e; subst e; rw [HXX.out, HBAD.out]; rfl), ⟨H0.out, H1.out⟩, H2.out, H3.out⟩, HBW.out⟩)
  case done =>
    rintro W ⟨⟨hp, ⟨h0, h1⟩, h2, h3⟩, hB⟩ hK
    have hr : decide (((chain l0 a1).length : Int) ≤ 8) = r := by
      rw [← HH.out]; unfold nestedB; rw [HS.out]
      have : (chain l0 a1).any (fun x => badS s (rd_T35 l0 x).f1) = false := by rw [List.any_eq_false]; intro y hy; simp [hp y hy]
      rw [this]
      simp; omega
    have c0' : W.cell? ⟨w.heap.size, 0, none⟩ = some (.slice (some ad) l0.length c0) := blk_cell h0 0
    have c01 : W.cell? ⟨w.heap.size, 1, none⟩ = some (.int .i64 a0) := blk_cell h0 1
    have H1 := Aside0.mk h1
    have HK := Aside0.mk hK
    have HBW := Aside0.mk hB
    have HHR := Aside0.mk hr
    have HDD := Aside0.mk (HD.out W hB)
    clear hp h0 h1 h2 h3 hK hB hr es es2
    generalize ((chain l0 a1).length : Int) = dd at *
    gi_wp2_with (refine ⟨trivial, ?_⟩; gi_at_call 13; refine (callsIn_wide.2 HDD.out).mono ?_; rintro e w7 ⟨rfl, hb7⟩; have K1 := Aside0.mk (blk_below H1.out hb7); have KK := Aside0.mk (blk_below HK.out hb7); have KB := Aside0.mk (below_then HBW.out HBW.out.size hb7); have d1 := blk_cell K1.out 0; have f1 := blk_frozen K1.out 0; clear hb7)
    have hK' : ∀ v, (w7.setCell ⟨w.heap.size + 1, 0, none⟩ v).heap[w.heap.size + 5]? = some (.deferred (some [])) := fun v => (Below.heap_setCell w7 ⟨w.heap.size + 1, 0, none⟩ v (w.heap.size + 5) (by simp)).trans (by have := KK.out; rwa [hs5] at this)
    refine ⟨by simp, .inl ⟨_, _, rfl, run_takeDeferred (hK' _), ?_⟩⟩
    have hc5 : ∀ v, (((w7.setCell ⟨w.heap.size + 1, 0, none⟩ v).putObj (w.heap.size + 5) (.deferred none))).cell? ⟨w.heap.size + 1, 0, none⟩ = some v := fun v => blk_cell ((World.putObj_heap_other (by omega)).trans (blk_set K1.out 0 v)) 0
    refine ⟨.bool (decide (dd ≤ 8)), ?_, by rw [HHR.out], below_shut (KB.out.setCell (by show w.heap.size ≤ w.heap.size + 1; omega) _) (by omega) _⟩
    simp [results, Try.f32, go_sem, hc5]
  case stop =>
    rintro c pre post W hx ⟨⟨rfl, hin, h2⟩, hB⟩ hK
    have hr : false = r := by
      rw [← HH.out]; unfold nestedB; rw [HS.out]
      have : (chain l0 a1).any (fun x => badS s (rd_T35 l0 x).f1) = true := by rw [List.any_eq_true]; obtain ⟨y, hy, hpy⟩ := hin; exact ⟨y, by rw [hx]; exact List.mem_append.2 (.inl hy), hpy⟩
      rw [this]
      rfl
    have H2 := Aside0.mk h2
    have HK := Aside0.mk hK
    have HBW := Aside0.mk hB
    have HHR := Aside0.mk hr
    clear h2 hK hB hr hin hx es es2
    gi_wp2
    refine ⟨by simp, .inl ⟨_, _, rfl, run_takeDeferred HK.out, ?_⟩⟩
    have hc5 : (W.putObj w5.heap.size (.deferred none)).cell? ⟨w.heap.size + 1, 0, none⟩ = some (.bool false) := blk_cell ((World.putObj_heap_other (by omega)).trans H2.out) 0
    refine ⟨.bool false, ?_, by rw [HHR.out], below_shut HBW.out (by omega) _⟩
    simp [results, Try.f32, go_sem, hc5]
end Go.Proofs.Ytnlnglfjehohpaa.Q
