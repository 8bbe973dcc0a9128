/- (List).open: what it answers. No condition beyond the entries' ranges and how many they are. -/
import Derived.Test.YtjpoepiidmoegaaOA
import Derived.Deep.RegionLaw
import Derived.WideMake
namespace Go.Proofs.Ytjpoepiidmoegaa.Q
open Go.RowKit Go.Proofs.YtjpoepiidmoegaaW Go.Proofs.YtjpoepiidmoegaaW.PrintWords Go.Proofs.YtjpoepiidmoegaaW.PrintLast Go.Proofs.YtjpoepiidmoegaaW.PrintMore
set_option linter.unusedVariables false
set_option linter.unusedSimpArgs false

set_option maxRecDepth 100000 in
set_option maxHeartbeats 1600000 in
theorem opp_any (x : S33) (w : World) : Calls Try.prog 37 #[encE x] w fun e w' => e = .returned (encE (opp x)) ∧ Below w.heap.size w w' := by
  have hu := Try.underlying33
  unfold encE opp
  obtain ⟨x0, x1, x2, x3⟩ := x
  go_enter Try.func37, Try.ntmps37
  go_wp2
  refine bodyPost_ret (results_cell_row rfl _ _ (w.heap.size + 1) 33 #[.int .i64 x0, .int .i64 x1, .int .i64 (wrap64 (-x2)), .bool true] (0, 0) _ rfl (by simpa using blk_new (w.alloc (.cells #[.int .i64 x0, .int .i64 x1, .int .i64 x2, .bool x3] 33)) (.cells #[.int .i64 x0, .int .i64 x1, .int .i64 (wrap64 (-x2)), .bool true] 33)) Try.underlying33 rfl (by kernel_rfl)) rfl ?_
  exact ⟨rfl, ((Below.refl _ w).alloc (Nat.le_refl _) _).alloc (by simp) _⟩
def goneKV (gone : List Int) : List (Int × Value) := gone.map (fun p => (p, Value.bool true))
set_option maxRecDepth 100000 in
theorem gone_look {W : World} {M : Nat} {gone : List Int} (h : MU.IsM W M (goneKV gone)) (k : Int) : (Instr.lookup 113 (.map (some M)) (.int .i64 k) false).run Try.prog W = .ok (.bool (decide (k ∈ gone))) W := by
  by_cases hk : k ∈ gone
  · have hf : (goneKV gone).find? (fun p => p.1 == k) = some (k, .bool true) := by
      unfold goneKV
      induction gone with
      | nil => cases hk
      | cons a l ih =>
        rw [List.map_cons, List.find?_cons]
        by_cases e : a = k
        · simp [e]
        · have : (a == k) = false := by simp [e]
          rw [this]
          refine (List.find?_map ..).trans ?_
          have hm : k ∈ l := by rcases List.mem_cons.1 hk with h' | h'; exact absurd h'.symm e; exact h'
          have : l.find? ((fun p => p.1 == k) ∘ fun p => (p, Value.bool true)) = some k := by
            clear ih hk h this
            induction l with
            | nil => cases hm
            | cons b l ih =>
              rw [List.find?_cons]
              by_cases e2 : b = k
              · simp [e2]
              · have h3 : ((fun p : Int × Value => p.1 == k) ∘ fun p => (p, Value.bool true)) b = false := by simp [e2]
                rw [h3]
                exact ih (by rcases List.mem_cons.1 hm with h' | h'; exact absurd h'.symm e2; exact h')
          rw [this]; rfl
    rw [MU.run_lookup_some (P := Try.prog) h Try.underlying113 Try.underlying3 k _ hf, decide_eq_true hk]
  · rw [MU.run_lookup_none (P := Try.prog) h Try.underlying113 Try.underlying3 (.bool false) (by rfl) k (fun p hp => by unfold goneKV at hp; obtain ⟨z, hz, rfl⟩ := List.mem_map.1 hp; exact fun e => hk (e ▸ hz)), decide_eq_false hk]
def oplist_List_open.f (l0 : List S33) : Option (List Int × Bool) := if l0.all inE = true ∧ l0.length < 1000000000 then some (openL l0) else none
set_option maxRecDepth 100000 in
set_option maxHeartbeats 4000000 in
theorem oplist_List_open.calls (A0 : Option Addr) (c0 : Nat) (l0 : List S33) (r1 : List Int) (r2 : Bool) (w : World) (hr0 : Kd.C k33 w A0 l0.length l0) (hc0 : l0.length ≤ c0) (h : oplist_List_open.f l0 = some (r1, r2)) :
    Calls Try.prog 40 #[.agg #[.slice A0 l0.length c0]] w fun e w' => ∃ v0_ : Value, e = .returned (.tuple #[v0_, .bool r2]) ∧ Kd.R (Kd.int .i64) 3 w' w.heap.size (fun _ => True) v0_ r1 ∧ Below w.heap.size w w' := by
  unfold oplist_List_open.f at h
  by_cases hin : l0.all inE = true ∧ l0.length < 1000000000
  case neg => rw [if_neg hin] at h; cases h
  rw [if_pos hin] at h
  have h := Option.some.inj h
  obtain ⟨hall, hlen⟩ := hin
  obtain ⟨i0, hi, hz0, hz1, hz2⟩ : ∃ i0, Try.prog.info? 3 = some i0 ∧ i0.zero = some (.int .i64 0) ∧ i0.size = 1 ∧ i0.bytes = 8 := ⟨_, rfl, rfl, rfl, rfl⟩
  have hu := Try.underlying26
  have hu33 := Try.underlying33
  have hmax : l0.length ≤ 9223372036854775807 := by omega
  have HR := Aside0.mk hr0
  have HH := Aside0.mk h
  have HI := Aside0.mk hall
  clear hr0 h hall
  have hmm := @run_makeMap Try.prog
  go_enter Try.func40, Try.ntmps40
  go_wp2
  obtain ⟨w2, hw2⟩ : ∃ w2, ((w.alloc (.cells #[.slice A0 l0.length c0] 26)).alloc (.map #[] 0)).alloc (.map #[] 0) = w2 := ⟨_, rfl⟩
  rw [hw2]
  have b0 : w2.heap[w.heap.size]? = some (.cells #[.slice A0 l0.length c0] 26 (0, 0)) := by rw [← hw2]; simpa using blk_alloc (blk_alloc (blk_new w (.cells #[.slice A0 l0.length c0] 26)) (.map #[] 0)) (.map #[] 0)
  have b1 : w2.heap[w.heap.size + 1]? = some (.map #[] 0) := by rw [← hw2]; simpa using blk_alloc (blk_new (w.alloc (.cells #[.slice A0 l0.length c0] 26)) (.map #[] 0)) (.map #[] 0)
  have b2 : w2.heap[w.heap.size + 1 + 1]? = some (.map #[] 0) := by rw [← hw2]; simpa using blk_new ((w.alloc (.cells #[.slice A0 l0.length c0] 26)).alloc (.map #[] 0)) (.map #[] 0)
  have hb2 : Below w.heap.size w w2 := by rw [← hw2]; exact (((Below.refl _ w).alloc (Nat.le_refl _) _).alloc (by simp) _).alloc (by simp; omega) _
  have hs2 : w2.heap.size = w.heap.size + 1 + 1 + 1 := by rw [← hw2]; simp
  have B0 := Aside0.mk b0
  have B1 := Aside0.mk b1
  have B2 := Aside0.mk b2
  have HB2 := Aside0.mk hb2
  have HS2 := Aside0.mk hs2
  clear b0 b1 b2 hb2 hw2 hmm hs2
  go_loopg [18] l0.length (fun gg s18 wr => ∃ (k : Nat) (st : S33 → List Int) (gone : List Int) (ls : List Ent), k ≤ l0.length ∧ l0.length - k ≤ gg ∧ s18 = .int .i64 k ∧ Aside0 (Good k st gone) ∧ Aside0 (openGo l0 0 (fun _ => []) [] = openGo (l0.drop k) k st gone) ∧ Aside0 (Stk wr (w.heap.size + 1 + 1 + 1) (w.heap.size + 1) ls st) ∧ Aside0 (MU.IsM wr (w.heap.size + 1 + 1) (goneKV gone)) ∧ Aside0 (wr.heap[w.heap.size]? = some (.cells #[.slice A0 l0.length c0] 26 (0, 0))) ∧ Aside0 (Below w.heap.size w wr))
  case atStart =>
    exact ⟨0, _, [], [], Nat.zero_le _, by omega, rfl, ⟨Good.start⟩, ⟨rfl⟩, ⟨Stk.start B1.out (by omega) (by have := HS2.out; omega)⟩, ⟨MU.IsM.made B2.out⟩, B0, HB2⟩
  case round =>
    obtain ⟨k, st, gone, ls, hk, hgk, rfl, HG, HA, HS, HU, HX, HB⟩ := hrel
    by_cases hlt : k < l0.length
    · obtain ⟨ad, rfl, e0, e1, e2, e3⟩ := at_T33 (Kd.C_below HR.out HB.out) (k : Int) (by omega) (by omega)
      have hx : rd_T33 l0 (k : Int) = l0[k] := by unfold rd_T33; simp [List.getD_eq_getElem?_getD, List.getElem?_eq_getElem hlt]
      rw [hx, Int.toNat_natCast] at e0 e1 e2 e3
      have hd : l0.drop k = l0[k] :: l0.drop (k + 1) := List.drop_eq_getElem_cons hlt
      have ha := HA.out
      rw [hd] at ha
      have hxi : inE l0[k] = true := List.all_eq_true.1 HI.out _ (List.getElem_mem hlt)
      generalize l0[k] = x at *
      have HA2 := Aside0.mk ha
      have HXI := Aside0.mk hxi
      clear ha hd hx hxi
      obtain ⟨x0, x1, x2, x3⟩ := x
      simp only at e0 e1 e2 e3
      cases x3 with
      | false =>
        go_wp2_with (go_at_call 37; refine (opp_any ⟨x0, x1, x2, false⟩ _).mono ?_; rintro e w3 ⟨rfl, hb3⟩; unfold encE)
        have hS3 : Stk w3 (w.heap.size + 1 + 1 + 1) (w.heap.size + 1) ls st := (HS.out.alloc _).move (hb3.block _ (HS.out.alloc _).map.lt) (fun g _ hg => hb3.block g hg) hb3.size
        have hB3 : Below w.heap.size w w3 := below_step (HB.out.alloc HB.out.size _) hb3
        have hU3 : MU.IsM w3 (w.heap.size + 1 + 1) (goneKV gone) := (HU.out.same (Below.heap_alloc _ _ _ HU.out.lt)).same (hb3.block _ (by have := HU.out.lt; simp; omega))
        have hX3 : w3.heap[w.heap.size]? = some (.cells #[.slice (some ad) l0.length c0] 26 (0, 0)) := blk_below (blk_alloc HX.out _) hb3
        clear hb3
        obtain ⟨y, hy⟩ : ∃ y, opp ⟨x0, x1, x2, false⟩ = y := ⟨_, rfl⟩
        have hyi : inE y = true := by rw [← hy]; exact inE_opp HXI.out
        rw [hy]
        obtain ⟨W4, hW4⟩ : ∃ W4, (w3.alloc (.cells #[.int .i64 y.f0, .int .i64 y.f1, .int .i64 y.f2, .bool y.f3] 33)).alloc (.cells #[.int .i64 k] 3) = W4 := ⟨_, rfl⟩
        rw [hW4]
        have hS4 : Stk W4 (w.heap.size + 1 + 1 + 1) (w.heap.size + 1) ls st := by rw [← hW4]; exact (hS3.alloc _).alloc _
        have hB4 : Below w.heap.size w W4 := by rw [← hW4]; exact (hB3.alloc hB3.size _).alloc (by have := hB3.size; simp; omega) _
        have hU4 : MU.IsM W4 (w.heap.size + 1 + 1) (goneKV gone) := by rw [← hW4]; exact (hU3.same (Below.heap_alloc _ _ _ hU3.lt)).same (Below.heap_alloc _ _ _ (by have := hU3.lt; simp; omega))
        have hX4 : W4.heap[w.heap.size]? = some (.cells #[.slice (some ad) l0.length c0] 26 (0, 0)) := by rw [← hW4]; exact blk_alloc (blk_alloc hX3 _) _
        have hA4 : W4.heap[w3.heap.size + 1]? = some (.cells #[.int .i64 k] 3 (0, 0)) := by rw [← hW4]; simpa using blk_new (w3.alloc (.cells #[.int .i64 y.f0, .int .i64 y.f1, .int .i64 y.f2, .bool y.f3] 33)) (.cells #[.int .i64 k] 3)
        have hn3 : w.heap.size + 1 < w3.heap.size := hS3.map.lt
        clear hW4 hS3 hB3 hU3 hX3
        obtain ⟨v0, n, o1, hrun, hown0, hstore⟩ := hS4.entry y hyi
        unfold encE at hrun
        rw [hrun]
        obtain ⟨W5, hW5⟩ : ∃ W5, W4.putObj (w.heap.size + 1) o1 = W5 := ⟨_, rfl⟩
        rw [hW5] at hown0 ⊢
        have hA5 : W5.heap[w3.heap.size + 1]? = some (.cells #[.int .i64 k] 3 (0, 0)) := by rw [← hW5]; exact (World.putObj_heap_other (by omega)).trans hA4
        have hsz : (st y).length + 1 ≤ 1000000001 := by have := HG.out.len y; omega
        have hc1 : ∀ j u, ([.int .i64 (k : Int)] : List Value)[j]? = some u → W5.cell? ((⟨w3.heap.size + 1, 0, none⟩ : Addr).add j) = some u := by
          intro j u hj
          cases j with
          | zero => simp at hj; subst hj; exact blk_cell hA5 0
          | succ j => simp at hj
        have hbs : w.heap.size + 1 + 1 + 1 ≤ W5.heap.size := by rw [← hW5]; simp; exact hS4.hi
        simp only [Result.andThen]
        rw [Oper.upon_value]
        go_wp2_with (at_builtin; refine wpList_append_own_at _ rfl _ _ 35 rfl (w.heap.size + 1 + 1 + 1) 3 i0 (.int .i64 0) 1 8 Try.underlying35 hi hz0 hz1 hz2 rfl (by decide) _ _ _ rfl hown0 ⟨w3.heap.size + 1, 0, none⟩ 1 1 [.int .i64 (k : Int)] rfl rfl hc1 (ints_oneCell .i64 [(k : Int)]) (by unfold maxLen; omega) (by omega) hbs ?_; intro v' w5 hown' hgrow hnil hloc)
        have hlow : ∀ g, v0.ownBlock = some g → w.heap.size + 1 + 1 + 1 ≤ g := fun g hg => (World.ownsRow.lt hown0 g hg).1
        have hgr : ∀ q, q < W5.heap.size → v0.ownBlock ≠ some q → w5.heap[q]? = W5.heap[q]? := fun q hq hne => hgrow.block q hq (fun e => hne e.symm)
        have hs45 : W5.heap.size = W4.heap.size := by rw [← hW5]; simp
        have hs5 : W5.heap.size ≤ w5.heap.size := hgrow.size
        have hM5 : w5.heap[w.heap.size + 1]? = some o1 := by
          rw [hgr _ (by omega) (fun e => by have := hlow _ e; omega), ← hW5]
          exact World.putObj_heap_same hS4.map.lt
        have hown6 : w5.ownsRow (w.heap.size + 1 + 1 + 1) 3 1 v' (st y ++ [(k : Int)]).length (iV (st y ++ [(k : Int)])) := by
          rw [List.length_append, List.length_singleton]
          unfold iV
          rw [List.map_append]
          exact hown'
        obtain ⟨o2, ls2, hrun2, hS6⟩ := hstore w5 v' (st y ++ [(k : Int)]) hM5 (fun g hb hgs hne => by rw [hgr g (by omega) hne, ← hW5, World.putObj_heap_other (by omega)]) (by omega) hown6 (by rw [← hs45]; exact hloc)
        obtain ⟨W6, hW6⟩ : ∃ W6, w5.putObj (w.heap.size + 1) o2 = W6 := ⟨_, rfl⟩
        have hfar : ∀ q, q < w.heap.size + 1 + 1 + 1 → q ≠ w.heap.size + 1 → W6.heap[q]? = W4.heap[q]? := by
          intro q hq hne
          rw [← hW6, World.putObj_heap_other hne, hgr q (by omega) (fun e => by have := hlow _ e; omega), ← hW5, World.putObj_heap_other hne]
        have hB6 : Below w.heap.size w W6 := by
          have e1 : W6.os = W4.os := by rw [← hW6]; exact hgrow.os.trans (by rw [← hW5]; rfl)
          have e2 : W6.tape = W4.tape := by rw [← hW6]; exact hgrow.tape.trans (by rw [← hW5]; rfl)
          have e3 : W6.output = W4.output := by rw [← hW6]; exact hgrow.output.trans (by rw [← hW5]; rfl)
          exact ⟨e1.trans hB4.os, e2.trans hB4.tape, e3.trans hB4.output, Nat.le_trans hB4.size (by rw [← hW6]; simp; omega), fun q hq => (hfar q (by omega) (by omega)).trans (hB4.block q hq)⟩
        have hU6 : MU.IsM W6 (w.heap.size + 1 + 1) (goneKV gone) := hU4.same (hfar _ (by omega) (by omega))
        have hX6 : W6.heap[w.heap.size]? = some (.cells #[.slice (some ad) l0.length c0] 26 (0, 0)) := (hfar _ (by omega) (by omega)).trans hX4
        have hG6 := HG.out.push y
        have hA6 : openGo l0 0 (fun _ => []) [] = openGo (l0.drop (k + 1)) (k + 1) (upd st y (st y ++ [(k : Int)])) gone := by
          rw [HA2.out, openGo, if_neg (show ¬ (false = true) by decide), hy]
        rw [hW6] at hrun2 hS6
        have hrun2' : Sem.run Try.prog (Instr.entryStore 112 (Value.map (some (w.heap.size + 1))) (Value.int IntKind.i64 (n : Int)) v') w5 = .ok () W6 := hrun2
        rw [hrun2']
        have Z1 := Aside0.mk hG6
        have Z2 := Aside0.mk hA6
        have Z3 := Aside0.mk hS6
        have Z4 := Aside0.mk hU6
        have Z5 := Aside0.mk hX6
        have Z6 := Aside0.mk hB6
        clear hG6 hA6 hS6 hU6 hX6 hB6 hfar hW6 hrun2 hrun2' hown6 hM5 hs5 hs45 hgr hlow hgrow hloc hnil hown' hbs hc1 hA5 hstore hW5 hown0 hrun hA4 hX4 hU4 hB4 hS4
        simp only [Result.andThen]
        rw [Oper.upon_skip]
        go_wp2
        go_roundg (l0.length - (k + 1))
        case measure => omega
        case rel => exact ⟨k + 1, _, _, _, by omega, by omega, by go_num, Z1, Z2, Z3, Z4, Z5, Z6⟩
      | true =>
        obtain ⟨v, hlk, hown, hin⟩ := (HS.out.alloc (.cells #[.int .i64 x0, .int .i64 x1, .int .i64 x2, .bool true] 33)).look ⟨x0, x1, x2, true⟩ HXI.out
        have hlk' := hlk
        unfold encE at hlk'
        simp only at hlk'
        by_cases h0 : (st ⟨x0, x1, x2, true⟩).length = 0
        · have hr : r1 = [] ∧ r2 = false := by
            have e : openGo l0 0 (fun _ => []) [] = none := by rw [HA2.out, openGo, if_pos rfl, if_pos h0]
            have := HH.out
            unfold openL at this
            rw [e] at this
            simp only [Prod.mk.injEq] at this
            exact ⟨this.1.symm, this.2.symm⟩
          obtain ⟨rfl, rfl⟩ := hr
          have hv : ∃ p c, v = .slice p 0 c := by
            rcases hown.2 with ⟨h1, _⟩ | ⟨g, cap, cur, h1, _⟩
            · exact ⟨none, 0, h1⟩
            · exact ⟨_, cap, by rw [h1, h0]⟩
          obtain ⟨p, c, rfl⟩ := hv
          clear hown hin hlk
          go_wp2
          go_ret2
          exact ⟨_, rfl, Kd.R_nil _ _ _ _ _, HB.out.alloc HB.out.size _⟩
        · obtain ⟨m, hm⟩ : ∃ m, (st ⟨x0, x1, x2, true⟩).length = m + 1 := ⟨(st ⟨x0, x1, x2, true⟩).length - 1, by omega⟩
          have hv : ∃ g cap, v = .slice (some ⟨g, 0, none⟩) (m + 1) cap ∧ m + 1 ≤ cap ∧ w.heap.size + 1 + 1 + 1 ≤ g := by
            rcases hown.2 with ⟨_, h1⟩ | ⟨g, cap, cur, h1, hb, _, hn, _⟩
            · omega
            · exact ⟨g, cap, by rw [h1, hm], by omega, hb⟩
          obtain ⟨g, cap, rfl, hcap, hgb⟩ := hv
          have hne : st ⟨x0, x1, x2, true⟩ ≠ [] := fun e => h0 (by rw [e]; rfl)
          obtain ⟨p, hp⟩ : ∃ p, (st ⟨x0, x1, x2, true⟩).getLast?.getD 0 = p := ⟨_, rfl⟩
          have hcell : (wr.alloc (.cells #[.int .i64 x0, .int .i64 x1, .int .i64 x2, .bool true] 33)).cell? ⟨g, m, none⟩ = some (.int .i64 p) := by
            have ho := hown
            rw [hm] at ho
            rw [World.ownsRow.cellAt ho m (by omega)]
            have hsp := last_split hne
            rw [hp] at hsp
            unfold iV
            rw [hsp, List.map_append, List.getElem?_append_right (by simp; omega)]
            simp [hm]
          have hm0 : m < 1000000000 := by have := HG.out.len ⟨x0, x1, x2, true⟩; omega
          have hw : wrap64 ((m : Int) + 1 - 1) = (m : Int) := by unfold wrap64; omega
          have hgp := (HG.out.pop ⟨x0, x1, x2, true⟩ hne)
          rw [hp] at hgp
          have hU1 : MU.IsM (wr.alloc (.cells #[.int .i64 x0, .int .i64 x1, .int .i64 x2, .bool true] 33)) (w.heap.size + 1 + 1) (goneKV gone) := HU.out.same (Below.heap_alloc _ _ _ HU.out.lt)
          obtain ⟨o1, u1, m1⟩ := MU.run_update (P := Try.prog) hU1 Try.underlying113 Try.underlying3 p (.bool true) (fun q hq => by unfold goneKV at hq; obtain ⟨z, hz, rfl⟩ := List.mem_map.1 hq; exact fun e => hgp.2 (e ▸ hz))
          have hS1 := (HS.out.alloc (.cells #[.int .i64 x0, .int .i64 x1, .int .i64 x2, .bool true] 33)).put (r := w.heap.size + 1 + 1) (by omega) (by omega) o1
          have hB1 : Below w.heap.size w (wr.alloc (.cells #[.int .i64 x0, .int .i64 x1, .int .i64 x2, .bool true] 33)) := HB.out.alloc HB.out.size _
          have hX1 : (wr.alloc (.cells #[.int .i64 x0, .int .i64 x1, .int .i64 x2, .bool true] 33)).heap[w.heap.size]? = some (.cells #[.slice (some ad) l0.length c0] 26 (0, 0)) := blk_alloc HX.out _
          have hY1 : (wr.alloc (.cells #[.int .i64 x0, .int .i64 x1, .int .i64 x2, .bool true] 33)).heap[wr.heap.size]? = some (.cells #[.int .i64 x0, .int .i64 x1, .int .i64 x2, .bool true] 33 (0, 0)) := blk_new _ _
          have hwl : w.heap.size + 1 + 1 < wr.heap.size := HU.out.lt
          go_wp2
          obtain ⟨D, hD⟩ : ∃ D, (wr.alloc (.cells #[.int .i64 x0, .int .i64 x1, .int .i64 x2, .bool true] 33)).putObj (w.heap.size + 1 + 1) o1 = D := ⟨_, rfl⟩
          rw [hD] at m1 hS1 ⊢
          have hBD : Below w.heap.size w D := by rw [← hD]; exact below_put hB1 (by omega) _
          have hXD : D.heap[w.heap.size]? = some (.cells #[.slice (some ad) l0.length c0] 26 (0, 0)) := by rw [← hD]; exact (World.putObj_heap_other (by omega)).trans hX1
          have hYD : D.heap[wr.heap.size]? = some (.cells #[.int .i64 x0, .int .i64 x1, .int .i64 x2, .bool true] 33 (0, 0)) := by rw [← hD]; exact (World.putObj_heap_other (by omega)).trans hY1
          have hS2 : Stk D.drew (w.heap.size + 1 + 1 + 1) (w.heap.size + 1) ls st := hS1.move rfl (fun _ _ _ => rfl) (Nat.le_refl _)
          have hown2 : D.drew.ownsRow (w.heap.size + 1 + 1 + 1) 3 1 (.slice (some ⟨g, 0, none⟩) (m + 1) cap) (st ⟨x0, x1, x2, true⟩).length (iV (st ⟨x0, x1, x2, true⟩)) := owns_move hown (fun q hq _ => by show D.heap[q]? = _; rw [← hD]; exact World.putObj_heap_other (by omega))
          obtain ⟨o2, ls2, u2, hS3⟩ := hS2.pop ⟨x0, x1, x2, true⟩ HXI.out hne (.slice (some ⟨g, 0, none⟩) (m + 1) cap) (hin hne) (by rw [hm]) hown2
          rw [hm, Nat.add_sub_cancel] at u2
          unfold encE at u2
          simp only at u2
          have z0 : D.drew.cell? ⟨wr.heap.size, 0, none⟩ = some (.int .i64 x0) := blk_cell (blk_drew hYD) 0
          have z1 : D.drew.cell? ⟨wr.heap.size, 1, none⟩ = some (.int .i64 x1) := blk_cell (blk_drew hYD) 1
          have z2 : D.drew.cell? ⟨wr.heap.size, 2, none⟩ = some (.int .i64 x2) := blk_cell (blk_drew hYD) 2
          have z3 : D.drew.cell? ⟨wr.heap.size, 3, none⟩ = some (.bool true) := blk_cell (blk_drew hYD) 3
          have Z1 := Aside0.mk hgp.1
          have Z2 : Aside0 (openGo l0 0 (fun _ => []) [] = openGo (l0.drop (k + 1)) (k + 1) (upd st ⟨x0, x1, x2, true⟩ (st ⟨x0, x1, x2, true⟩).dropLast) (gone ++ [p])) := ⟨by rw [HA2.out, openGo, if_pos rfl, if_neg h0, hp]⟩
          have Z3 := Aside0.mk hS3
          have Z4 : Aside0 (MU.IsM (D.drew.putObj (w.heap.size + 1) o2) (w.heap.size + 1 + 1) (goneKV (gone ++ [p]))) := ⟨by
            have e : goneKV (gone ++ [p]) = goneKV gone ++ [(p, Value.bool true)] := by unfold goneKV; rw [List.map_append]; rfl
            rw [e]
            exact m1.same (by rw [World.putObj_heap_other (by omega)]; rfl)⟩
          have Z5 : Aside0 ((D.drew.putObj (w.heap.size + 1) o2).heap[w.heap.size]? = some (.cells #[.slice (some ad) l0.length c0] 26 (0, 0))) := ⟨(World.putObj_heap_other (by omega)).trans (blk_drew hXD)⟩
          have Z6 : Aside0 (Below w.heap.size w (D.drew.putObj (w.heap.size + 1) o2)) := ⟨below_put (below_drew1 hBD) (by omega) _⟩
          clear hown2 hS3 hgp hS2 hYD hXD hBD hS1 m1 hD u1 hU1 hB1 hX1 hY1 hcell hown hin hlk hlk'
          go_region
          go_wp2
          go_roundg (l0.length - (k + 1))
          case measure => omega
          case rel => exact ⟨k + 1, _, _, _, by omega, by omega, by go_num, Z1, Z2, Z3, Z4, Z5, Z6⟩
    · have hkl : k = l0.length := by omega
      subst hkl
      have hgone : openGo l0 0 (fun _ => []) [] = some gone := by rw [HA.out, List.drop_length]; rfl
      have hr : r1 = outL l0 gone l0.length ∧ r2 = true := by
        have := HH.out
        unfold openL at this
        rw [hgone] at this
        simp only [Prod.mk.injEq] at this
        exact ⟨this.1.symm, this.2.symm⟩
      obtain ⟨rfl, rfl⟩ := hr
      have hz : wr.cell? ⟨w.heap.size, 0, none⟩ = some (.slice A0 l0.length c0) := blk_cell HX.out 0
      have hhi := HS.out.hi
      clear hgone
      go_wp2
      go_loopg [10, 60] l0.length (fun gg s10 s60 w' => ∃ (k : Nat), k ≤ l0.length ∧ l0.length - k ≤ gg ∧ s60 = .int .i64 k ∧ Aside0 (w'.ownsRow (w.heap.size + 1 + 1 + 1) 3 1 s10 (outL l0 gone k).length (iV (outL l0 gone k))) ∧ Aside0 (MU.IsM w' (w.heap.size + 1 + 1) (goneKV gone)) ∧ Aside0 (w.heap.size + 1 + 1 + 1 ≤ w'.heap.size) ∧ Aside0 (Below w.heap.size w w'))
      case atStart => exact ⟨0, Nat.zero_le _, by omega, rfl, ⟨World.ownsRow_nil _ _ _ _⟩, HU, ⟨hhi⟩, HB⟩
      case round =>
        obtain ⟨k, hk, hgk, rfl, HO, HU2, HHI, HB2⟩ := hrel
        by_cases hlt : k < l0.length
        · obtain ⟨ad, rfl, e0, e1, e2, e3⟩ := at_T33 (Kd.C_below HR.out HB2.out) (k : Int) (by omega) (by omega)
          have hsn := outL_snoc l0 gone k
          have hx : rd_T33 l0 (k : Int) = l0[k] := by unfold rd_T33; simp [List.getD_eq_getElem?_getD, List.getElem?_eq_getElem hlt]
          rw [hx] at hsn
          rw [hx, Int.toNat_natCast] at e0 e1 e2 e3
          generalize l0[k] = x at *
          obtain ⟨x0, x1, x2, x3⟩ := x
          simp only at e0 e1 e2 e3 hsn
          have hU1 : MU.IsM (wr.alloc (.cells #[.int .i64 x0, .int .i64 x1, .int .i64 x2, .bool x3] 33)) (w.heap.size + 1 + 1) (goneKV gone) := HU2.out.same (Below.heap_alloc _ _ _ HU2.out.lt)
          have hl := gone_look hU1 (k : Int)
          obtain ⟨b, hb⟩ : ∃ b, decide ((k : Int) ∈ gone) = b := ⟨_, rfl⟩
          rw [hb] at hl hsn
          have hB1 : Below w.heap.size w (wr.alloc (.cells #[.int .i64 x0, .int .i64 x1, .int .i64 x2, .bool x3] 33)) := HB2.out.alloc HB2.out.size _
          have hO1 := HO.out.alloc (.cells #[.int .i64 x0, .int .i64 x1, .int .i64 x2, .bool x3] 33)
          have hH1 : w.heap.size + 1 + 1 + 1 ≤ (wr.alloc (.cells #[.int .i64 x0, .int .i64 x1, .int .i64 x2, .bool x3] 33)).heap.size := by have := HHI.out; simp; omega
          have hk60 := outL_len l0 gone k
          clear hb
          cases x3 with
          | true =>
            have hsn' : outL l0 gone (k + 1) = outL l0 gone k := by rw [hsn]; simp
            rw [← hsn'] at hO1
            have Z1 := Aside0.mk hO1
            have Z2 := Aside0.mk hU1
            have Z3 := Aside0.mk hH1
            have Z4 := Aside0.mk hB1
            clear hO1 hU1 hH1 hB1 hsn hsn' hl
            go_wp2
            go_roundg (l0.length - (k + 1))
            case measure => omega
            case rel => exact ⟨k + 1, by omega, by omega, by go_num, Z1, Z2, Z3, Z4⟩
          | false =>
            cases b with
            | true =>
              have hsn' : outL l0 gone (k + 1) = outL l0 gone k := by rw [hsn]; simp
              rw [← hsn'] at hO1
              have Z1 := Aside0.mk hO1
              have Z2 := Aside0.mk hU1
              have Z3 := Aside0.mk hH1
              have Z4 := Aside0.mk hB1
              clear hO1 hU1 hH1 hB1 hsn hsn'
              go_wp2
              go_roundg (l0.length - (k + 1))
              case measure => omega
              case rel => exact ⟨k + 1, by omega, by omega, by go_num, Z1, Z2, Z3, Z4⟩
            | false =>
              have hsn' : outL l0 gone (k + 1) = outL l0 gone k ++ [(k : Int)] := by rw [hsn]; simp
              have hsz : (outL l0 gone k).length + 1 ≤ 1000000001 := by omega
              have hH2 : w.heap.size + 1 + 1 + 1 ≤ ((wr.alloc (.cells #[.int .i64 x0, .int .i64 x1, .int .i64 x2, .bool false] 33)).alloc (.cells #[.int .i64 k] 3)).heap.size := Nat.le_trans hH1 (by simp)
              have hc1 : ∀ j u, ([.int .i64 (k : Int)] : List Value)[j]? = some u → ((wr.alloc (.cells #[.int .i64 x0, .int .i64 x1, .int .i64 x2, .bool false] 33)).alloc (.cells #[.int .i64 k] 3)).cell? ((⟨wr.heap.size + 1, 0, none⟩ : Addr).add j) = some u := by
                intro j u hj
                have hA : ((wr.alloc (.cells #[.int .i64 x0, .int .i64 x1, .int .i64 x2, .bool false] 33)).alloc (.cells #[.int .i64 k] 3)).heap[wr.heap.size + 1]? = some (.cells #[.int .i64 k] 3 (0, 0)) := by simpa using blk_new (wr.alloc (.cells #[.int .i64 x0, .int .i64 x1, .int .i64 x2, .bool false] 33)) (.cells #[.int .i64 k] 3)
                cases j with
                | zero => simp at hj; subst hj; exact blk_cell hA 0
                | succ j => simp at hj
              have hlow := World.ownsRow.lt hO1
              go_wp2_with (at_builtin; refine wpList_append_own_at _ rfl _ _ 35 rfl (w.heap.size + 1 + 1 + 1) 3 i0 (.int .i64 0) 1 8 Try.underlying35 hi hz0 hz1 hz2 rfl (by decide) _ _ _ rfl (hO1.alloc _) ⟨wr.heap.size + 1, 0, none⟩ 1 1 [.int .i64 (k : Int)] rfl rfl hc1 (ints_oneCell .i64 [(k : Int)]) (by unfold maxLen; omega) (by omega) hH2 ?_; intro v' w5 hown' hgrow hnil hloc)
              have hfar : ∀ q, q < w.heap.size + 1 + 1 + 1 → w5.heap[q]? = (wr.alloc (.cells #[.int .i64 x0, .int .i64 x1, .int .i64 x2, .bool false] 33)).heap[q]? := fun q hq => (hgrow.block q (by omega) (fun e => by have := (hlow q e.symm).1; omega)).trans (Below.heap_alloc _ _ _ (by omega))
              have Z1 : Aside0 (w5.ownsRow (w.heap.size + 1 + 1 + 1) 3 1 v' (outL l0 gone (k + 1)).length (iV (outL l0 gone (k + 1)))) := ⟨by
                rw [hsn', List.length_append, List.length_singleton]
                unfold iV
                rw [List.map_append]
                exact hown'⟩
              have Z2 : Aside0 (MU.IsM w5 (w.heap.size + 1 + 1) (goneKV gone)) := ⟨hU1.same (hfar _ (by omega))⟩
              have Z3 : Aside0 (w.heap.size + 1 + 1 + 1 ≤ w5.heap.size) := ⟨Nat.le_trans hH2 hgrow.size⟩
              have Z4 : Aside0 (Below w.heap.size w w5) := ⟨⟨hgrow.os.trans hB1.os, hgrow.tape.trans hB1.tape, hgrow.output.trans hB1.output, Nat.le_trans (by omega) (Nat.le_trans hH2 hgrow.size), fun q hq => (hfar q (by omega)).trans (hB1.block q hq)⟩⟩
              clear hfar hown' hgrow hnil hloc hlow hc1 hH2 hO1 hU1 hH1 hB1 hsn hsn' hl
              go_roundg (l0.length - (k + 1))
              case measure => omega
              case rel => exact ⟨k + 1, by omega, by omega, by go_num, Z1, Z2, Z3, Z4⟩
        · have hkl : k = l0.length := by omega
          subst hkl
          go_wp2
          go_ret2
          refine ⟨_, rfl, ?_, HB2.out⟩
          exact Kd.R_lower (Kd.R_of_own (enc := Value.int .i64) (h1 := fun _ => rfl) HO.out (fun _ _ => trivial)) (by omega)
end Go.Proofs.Ytjpoepiidmoegaa.Q
