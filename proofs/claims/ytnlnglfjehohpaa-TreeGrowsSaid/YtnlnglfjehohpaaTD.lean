import Derived.Test.YtnlnglfjehohpaaTV
import Derived.Test.YtnlnglfjehohpaaMU
namespace Go.Proofs.Ytnlnglfjehohpaa.Q
open Go.RowKit Go.Shelf Go.Proofs.YtnlnglfjehohpaaW Go.Proofs.YtnlnglfjehohpaaW.PrintWords Go.Proofs.YtnlnglfjehohpaaW.PrintLast Go.Proofs.YtnlnglfjehohpaaW.PrintMore
open RU
attribute [local go_sem] Oper.semAt_some
set_option linter.unusedVariables false
set_option linter.unusedSimpArgs false

def seenKV (l : List Int) : List (Int × Value) := l.map (fun x => (x, Value.bool true))
/-- How many one stands in (where none of them comes again). -/
def tree_Deep.f (l0 : List S35) (a0 : Int) (a1 : Int) : Option Int := if (chain l0 a1).Nodup then some ((chain l0 a1).length : Int) else none
set_option maxRecDepth 100000 in
set_option maxHeartbeats 2000000 in
theorem tree_Deep.calls (A0 : Option Addr) (c0 : Nat) (l0 : List S35) (a0 : Int) (a1 : Int) (r : Int) (w : World) (hr0 : Kd.C k35 w A0 l0.length l0) (hc0 : l0.length ≤ c0) (h : tree_Deep.f l0 a0 a1 = some r) :
    Calls Try.prog 13 #[.agg #[.slice A0 l0.length c0, .int .i64 a0], .int .i64 a1] w fun e w' => e = .returned (.int .i64 r) ∧ Below w.heap.size w w' := by
  unfold tree_Deep.f at h
  by_cases hnd : (chain l0 a1).Nodup
  case neg => rw [if_neg hnd] at h; cases h
  rw [if_pos hnd] at h
  have h := Option.some.inj h
  refine (callsIn_wide (n := 8)).1 ?_
  have hu := Try.underlying26
  have HR := Aside0.mk hr0
  have HU := Aside0.mk (up_any A0 c0 l0 a0 a1)
  have HH := Aside0.mk h
  have HND := Aside0.mk hnd
  clear hr0 h hnd
  have hmm := @run_makeMap Try.prog
  obtain ⟨w3, hw3⟩ : ∃ w3, ((w.alloc (.cells #[.slice A0 l0.length c0, .int .i64 a0] 26)).alloc (.map #[] 0)).alloc (.cells #[.map (some (w.heap.size + 1))] 56) = w3 := ⟨_, rfl⟩
  have hs3 : w3.heap.size = w.heap.size + 3 := by rw [← hw3]; simp
  have b1 : w3.heap[w.heap.size + 1]? = some (.map #[] 0) := by
    rw [← hw3]; simpa using blk_alloc (blk_new (w.alloc (.cells #[.slice A0 l0.length c0, .int .i64 a0] 26)) (.map #[] 0)) (.cells #[.map (some (w.heap.size + 1))] 56)
  have b2 : w3.heap[w.heap.size + 2]? = some (.cells #[.map (some (w.heap.size + 1))] 56 (0, 0)) := by
    rw [← hw3]; simpa using blk_new ((w.alloc (.cells #[.slice A0 l0.length c0, .int .i64 a0] 26)).alloc (.map #[] 0)) (.cells #[.map (some (w.heap.size + 1))] 56)
  have hb3 : Below w.heap.size w w3 := by rw [← hw3]; exact (((Below.refl _ w).alloc (Nat.le_refl _) _).alloc (by simp) _).alloc (by simp; omega) _
  have HW3 := Aside0.mk hw3
  refine callsIn_of_wp_marks Try.func13 rfl trivial ?_ rfl
  simp only [Try.ntmps13, List.size_toArray, List.length_cons, List.length_nil, Nat.reduceAdd, Nat.reduceSub, Array.replicate_succ, Array.replicate_zero, List.push_toArray, List.append_toArray, List.nil_append, List.cons_append]
  clear hw3
  gi_wp2_with (refine ⟨trivial, ?_⟩; gi_at_call 26; refine (callsIn_wide.2 (HU.out _)).mono ?_; rintro e w' ⟨rfl, rfl⟩)
  rw [HW3.out]
  obtain ⟨w5, hw5⟩ : ∃ w5, (w3.alloc (.cells #[.slice A0 l0.length c0, .int .i64 a0] 26)).alloc (.cells #[.int .i64 a1] 3) = w5 := ⟨_, rfl⟩
  rw [hw5]
  have hs5 : w5.heap.size = w.heap.size + 5 := by rw [← hw5]; simp [hs3]
  have bT : w5.heap[w.heap.size + 1 + 1 + 1]? = some (.cells #[.slice A0 l0.length c0, .int .i64 a0] 26 (0, 0)) := by rw [← hw5]; have := blk_alloc (blk_new w3 (.cells #[.slice A0 l0.length c0, .int .i64 a0] 26)) (.cells #[.int .i64 a1] 3); rwa [hs3] at this
  have bB : w5.heap[w.heap.size + 1 + 1 + 1 + 1]? = some (.cells #[.int .i64 a1] 3 (0, 0)) := by rw [← hw5]; have := blk_new (w3.alloc (.cells #[.slice A0 l0.length c0, .int .i64 a0] 26)) (.cells #[.int .i64 a1] 3); rwa [World.size_alloc, hs3] at this
  have b1' : w5.heap[w.heap.size + 1]? = some (.map #[] 0) := by rw [← hw5]; exact blk_alloc (blk_alloc b1 _) _
  have b2' : w5.heap[w.heap.size + 1 + 1]? = some (.cells #[.map (some (w.heap.size + 1))] 56 (0, 0)) := by rw [← hw5]; exact blk_alloc (blk_alloc b2 _) _
  have hb5 : Below w.heap.size w w5 := by rw [← hw5]; exact (hb3.alloc (by omega) _).alloc (by simp; omega) _
  clear hw5 b1 b2 hb3 hmm
  have hOB : ¬ ((w.heap.size + 1 + 1 + 1 + 1 < w.heap.size + 4) ∨ w.heap.size + 1 + 1 + 1 + 1 = w5.heap.size ∨ w.heap.size + 1 + 1 + 1 + 1 = w5.heap.size + 1) := by omega
  refine range_over (Own := fun k => k < w.heap.size + 4) rfl (by omega) (gf := 38) (lb := #[.pointer (some ⟨w.heap.size + 1 + 1 + 1, 0, none⟩), .pointer (some ⟨w.heap.size + 1 + 1 + 1 + 1, 0, none⟩)]) (encs := fun x : Int => #[Value.int .i64 x]) rfl trivial (enters_of Try.func38 (by kernel_rfl) rfl)
    (up_gives 7 (by omega) A0 c0 l0 a0 (w.heap.size + 1 + 1 + 1) (w.heap.size + 1 + 1 + 1 + 1) a1 _ hOB w5 bB) (fun k hk => by omega) (fun h1 h2 => h2.trans h1) (fun W l o hl => World.putObj_heap_other (by omega)) (fun _ => rfl)
    (fun pre W => (MU.IsM W (w.heap.size + 1) (seenKV pre) ∧ W.heap[w.heap.size + 1 + 1]? = some (.cells #[.map (some (w.heap.size + 1))] 56 (0, 0)) ∧ W.heap[w.heap.size + 1 + 1 + 1]? = some (.cells #[.slice A0 l0.length c0, .int .i64 a0] 26 (0, 0))) ∧ Below w.heap.size w W)
    (fun c pre W => False)
    (fun s A C h hst => ⟨⟨h.1.1.same (hst.block _ (by show _ < _; omega) h.1.1.lt), stays_blk hst (by show _ < _; omega) h.1.2.1, stays_blk hst (by show _ < _; omega) h.1.2.2⟩, stays_below h.2 hst (fun k hk => by show _ < _; omega)⟩)
    (fun c s A C h hst => h)
    (fun s A h => ⟨h.1.2.2, Kd.C_below HR.out h.2⟩)
    ⟨⟨MU.IsM.made b1', b2', bT⟩, hb5⟩
    (fun x => { tmps := #[.agg #[.slice A0 l0.length c0, .int .i64 a0], .int .i64 a1, .pointer (some ⟨w.heap.size, 0, none⟩), undef, .int .i64 0, .pointer (some ⟨w.heap.size + 1 + 1, 0, none⟩), .int .i64 x, .map (some (w.heap.size + 1)), .agg #[.slice A0 l0.length c0, .int .i64 a0], .int .i64 a1, .func (.func 38) #[] #[.pointer (some ⟨w.heap.size + 1 + 1 + 1, 0, none⟩), .pointer (some ⟨w.heap.size + 1 + 1 + 1 + 1, 0, none⟩)], .int .i64 x, undef, undef, undef, undef], defers := [] }) ?assign ?body ?done ?stop
  case assign =>
    intro l x W K hK
    gi_wp2
    exact hK
  case body =>
    rintro l pre x W ⟨⟨h1, h2, h3⟩, hB⟩ ⟨post, hpost⟩ hlt
    have hnew : ∀ p ∈ seenKV pre, p.1 ≠ x := by
      intro p hp
      unfold seenKV at hp
      obtain ⟨y, hy, rfl⟩ := List.mem_map.1 hp
      have hn := HND.out
      rw [hpost] at hn
      intro he
      have he : y = x := he
      subst he
      exact (List.nodup_append.1 hn).2.2 y hy y List.mem_cons_self rfl
    have c2 : W.cell? ⟨w.heap.size + 1 + 1, 0, none⟩ = some (.map (some (w.heap.size + 1))) := blk_cell h2 0
    have H1 := Aside0.mk h1
    have H2 := Aside0.mk h2
    have H3 := Aside0.mk h3
    have HBW := Aside0.mk hB
    have HN := Aside0.mk hnew
    clear h1 h2 h3 hB hpost hnew
    gi_wp2_with (gi_at_mapUpdate; refine MU.at_update_in rfl _ _ _ 56 3 4 rfl Try.underlying56 Try.underlying3 (w.heap.size + 1) (seenKV pre) x (.bool true) rfl rfl rfl H1.out HN.out ?_; intro o' hm')
    exact ⟨Stays.putObj (by show ¬ (_ ∨ _); omega) _ _, World.putObj_heap_other (by omega), ⟨by unfold seenKV at hm' ⊢; rw [List.map_append]; exact hm', (World.putObj_heap_other (by omega)).trans H2.out, (World.putObj_heap_other (by omega)).trans H3.out⟩, below_shut HBW.out (by omega) _⟩
  case done =>
    rintro W ⟨⟨h1, h2, h3⟩, hB⟩ hK
    have hlen := fun ty => MU.run_len (P := Try.prog) h1 Try.underlying56 ty
    have hl2 : ((seenKV (chain l0 a1)).length : Int) = r := by unfold seenKV; rw [List.length_map]; exact HH.out
    have c2 : W.cell? ⟨w.heap.size + 1 + 1, 0, none⟩ = some (.map (some (w.heap.size + 1))) := blk_cell h2 0
    have HK := Aside0.mk hK
    have HBW := Aside0.mk hB
    rw [hl2] at hlen
    clear h1 h2 h3 hK hB hl2
    gi_wp2
    refine ⟨by simp, .inl ⟨_, _, rfl, run_takeDeferred HK.out, ?_⟩⟩
    exact ⟨_, results_tmp rfl _ _ _, rfl, below_shut HBW.out (by omega) _⟩
  case stop =>
    rintro c pre post W hx h hK
    exact h.elim
end Go.Proofs.Ytnlnglfjehohpaa.Q
