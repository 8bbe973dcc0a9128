/- (List).entries at a closure, and those who call it. No condition beyond the entries' ranges and how many they are. -/
import Derived.Test.YtjpoepiidmoegaaOE
import Derived.Test.YtjpoepiidmoegaaOL
import Derived.Test.YtjpoepiidmoegaaCI
import Derived.Test.YtjpoepiidmoegaaBW
import Derived.Test.YtjpoepiidmoegaaAI
namespace Go.Proofs.Ytjpoepiidmoegaa.Q
open Go.RowKit Go.Shelf Go.Proofs.YtjpoepiidmoegaaW Go.Proofs.YtjpoepiidmoegaaW.PrintWords Go.Proofs.YtjpoepiidmoegaaW.PrintLast Go.Proofs.YtjpoepiidmoegaaW.PrintMore
open RU
attribute [local go_sem] Oper.semAt_some
set_option linter.unusedVariables false
set_option linter.unusedSimpArgs false

set_option maxRecDepth 100000 in
set_option maxHeartbeats 4000000 in
theorem entries_35 (p : S33 → Bool) (cap : Value) (A0 : Option Addr) (c0 : Nat) (l0 : List S33) (w : World) (hr0 : Kd.C k33 w A0 l0.length l0) (hc0 : l0.length ≤ c0) (hin : l0.all inE = true) (hlen : l0.length < 1000000000) (hg : TellsE 35 cap p w) :
    Calls Try.prog 32 #[.agg #[.slice A0 l0.length c0], .func (.func 35) #[] #[cap]] w fun e w' => ∃ v0_ : Value, e = .returned v0_ ∧ Kd.R k33 33 w' w.heap.size (fun _ => True) v0_ ((opn l0).filter p) ∧ Below w.heap.size w w' := by
  have hmax : l0.length ≤ 9223372036854775807 := hr0.2.1
  have HR := Aside0.mk hr0
  have HG := Aside0.mk hg
  have HSP := Aside0.mk (openL_spec l0)
  have HPN := Aside0.mk (openL_len l0)
  have HOP := Aside0.mk (fun W (hW : Below w.heap.size w W) => oplist_List_open.calls A0 c0 l0 (openL l0).1 (openL l0).2 W (Kd.C_below hr0 hW) hc0 (by unfold oplist_List_open.f; rw [if_pos ⟨hin, hlen⟩]))
  have hpl : (openL l0).1.length ≤ 1000000000 := by
    unfold openL
    split
    · simp
    · exact Nat.le_trans (outL_len _ _ _) (by omega)
  have HPL := Aside0.mk hpl
  generalize openL l0 = PB at *
  obtain ⟨P, b⟩ := PB
  simp only at HSP HPN HOP HPL
  have hu26 := Try.underlying26
  have hu33 := Try.underlying33
  clear hr0 hc0 hin hg hlen hpl
  go_enter Try.func32, Try.ntmps32
  go_wp2_with (go_at_call 40; refine (HOP.out _ (by exact (Below.refl _ w).alloc (Nat.le_refl _) _)).mono ?_; rintro e w1 ⟨v0, rfl, hv0, hb1⟩; obtain ⟨Ap, cp, ep⟩ := Kd.R_slice hv0; subst ep; have HV := Aside0.mk (Kd.R_reads' hv0); have HB1 := Aside0.mk hb1; have HT1 := Aside0.mk (blk_below (blk_new w (.cells #[.slice A0 l0.length c0] 26)) hb1); clear hb1 hv0)
  have HBW := Aside0.mk (below_then ((Below.refl _ w).alloc (Nat.le_refl _) (.cells #[.slice A0 l0.length c0] 26)) (by simp) HB1.out)
  have hpn : P.length ≤ 1000000000 := HPL.out
  have hwl : w.heap.size < w1.heap.size := blk_lt HT1.out
  go_loopg [7, 17] P.length (fun gg s7 s17 wr => ∃ (j : Nat), j ≤ P.length ∧ P.length - j ≤ gg ∧ s17 = .int .i64 j ∧ Aside0 (Kd.R k33 33 wr w1.heap.size (fun _ => True) s7 (((P.take j).map (rd_T33 l0)).filter p)) ∧ Aside0 (Below w1.heap.size w1 wr))
  case atStart =>
    exact ⟨0, Nat.zero_le _, by omega, rfl, ⟨Kd.R_nil _ _ _ _ _⟩, ⟨Below.refl _ _⟩⟩
  case round =>
    obtain ⟨j, hj, hgj, rfl, HO, HB⟩ := hrel
    have hT : wr.heap[w.heap.size]? = some (.cells #[.slice A0 l0.length c0] 26 (0, 0)) := (HB.out.block _ hwl).trans HT1.out
    have ht0 : wr.cell? ⟨w.heap.size, 0, none⟩ = some (.slice A0 l0.length c0) := blk_cell hT 0
    have HTR := Aside0.mk hT
    clear hT
    by_cases hlt : j < P.length
    · obtain ⟨ap, rfl, hcell⟩ := Kd.at_int (Kd.C_below HV.out.2.2 HB.out) j (by omega) (by omega)
      have hpj : rd P j = P[j] := by simp [rd, List.getD_eq_getElem?_getD, List.getElem?_eq_getElem hlt]
      have htk : P.take (j + 1) = P.take j ++ [P[j]] := List.take_succ_eq_append_getElem hlt
      have hrange := HSP.out.2.2 P[j] (List.getElem_mem hlt)
      rw [hpj] at hcell
      have hlen : (((P.take j).map (rd_T33 l0)).filter p).length ≤ j := Nat.le_trans (List.length_filter_le _ _) (by simp; omega)
      generalize P[j] = q at *
      have hcell' : wr.cell? (ap.add j) = some (.int .i64 q) := by simpa using hcell
      clear hcell hpj
      have HBW2 := Aside0.mk (below_then HBW.out HBW.out.size HB.out)
      obtain ⟨q0, q1⟩ := hrange
      have hq0 : (0 : Int) ≤ q := q0
      obtain ⟨ad, rfl, e0, e1, e2, e3⟩ := at_T33 (Kd.C_below HR.out HBW2.out) q q0 q1
      have hsn : ((P.take (j + 1)).map (rd_T33 l0)).filter p = ((P.take j).map (rd_T33 l0)).filter p ++ (if p (rd_T33 l0 q) = true then [rd_T33 l0 q] else []) := by
        rw [htk, List.map_append, List.filter_append]
        congr 1
        by_cases h : p (rd_T33 l0 q) = true
        · rw [if_pos h]; simp [h]
        · rw [if_neg h]; simp [h]
      obtain ⟨x, hxq⟩ : ∃ x, rd_T33 l0 q = x := ⟨_, rfl⟩
      rw [hxq] at e0 e1 e2 e3 hsn
      have HXQ := Aside0.mk hxq
      clear hxq
      have HGX := Aside0.mk (HG.out x)
      have HLEN := Aside0.mk hlen
      clear htk hlen
      obtain ⟨x0, x1, x2, x3⟩ := x
      simp only at e0 e1 e2 e3
      obtain ⟨b1, hb1⟩ : ∃ b, p ⟨x0, x1, x2, x3⟩ = b := ⟨_, rfl⟩
      rw [hb1] at hsn HGX
      clear hb1
      have hjm : j < 9223372036854775807 := by omega
      cases b1 with
      | false =>
        simp only [if_neg (show ¬ (false = true) by decide), List.append_nil] at hsn
        have HSN := Aside0.mk hsn
        clear hsn
        go_wp2_with (go_at_call 35; refine (HGX.out _ HBW2.out).mono ?_; rintro e w2 ⟨rfl, hb⟩; have B2 := Aside0.mk (below_then HB.out HB.out.size hb); have O2 := Aside0.mk (Kd.R_below HO.out hb); clear hb)
        go_roundg (P.length - (j + 1))
        case measure => omega
        case rel => exact ⟨j + 1, by omega, by omega, by go_num, ⟨by rw [HSN.out]; exact O2.out⟩, B2⟩
      | true =>
        simp only [if_true] at hsn
        have HSN := Aside0.mk hsn
        clear hsn
        go_wp2_with (first | (go_at_call 35; refine (HGX.out _ HBW2.out).mono ?_; rintro e w2 ⟨rfl, hb⟩; have B2 := Aside0.mk (below_then HB.out HB.out.size hb); have O2 := Aside0.mk (Kd.R_below HO.out hb); have t20 : w2.cell? ⟨w.heap.size, 0, none⟩ = some (.slice (some ad) l0.length c0) := blk_cell (blk_below HTR.out hb) 0; have BX := Aside0.mk (below_then HBW2.out HBW2.out.size hb); obtain ⟨ad', ead', f0, f1, f2, f3⟩ := at_T33 (Kd.C_below HR.out BX.out) q q0 q1; cases ead'; rw [HXQ.out] at f0 f1 f2 f3; simp only at f0 f1 f2 f3; clear hb e0 e1 e2 e3) | ((with_reducible refine gate_builtin (b := .append) (xs := #[.tmp 28, .tmp 34]) rfl ?_); at_builtin; refine Kd.R_append k33 (w0 := w1) w1.heap.size rfl (.tmp 28) (.tmp 34) 24 33 (.agg #[(.int .i64 0), (.int .i64 0), (.int .i64 0), (.bool false)]) 32 rfl Try.underlying24 info33 rfl (by decide) (by omega) _ (((P.take j).map (rd_T33 l0)).filter p) (⟨x0, x1, x2, x3⟩ : S33) [.int .i64 x0, .int .i64 x1, .int .i64 x2, .bool x3] (fun _ => True) (fun _ => False) rfl (by first | (go_simp; done) | (go_simp; rfl)) ?aP (fun _ hk => hk.elim) (fun _ _ => trivial) O2.out B2.out B2.out.size ?aL ?_; (case aP => exact k33_mkM _ _ _ (⟨x0, x1, x2, x3⟩ : S33)); (case aL => have := HLEN.out; omega); intro v3 w3 ho hb hg hat; have O3 := Aside0.mk ho; have B3 := Aside0.mk hb; clear ho hb hg hat))
        go_roundg (P.length - (j + 1))
        case measure => omega
        case rel => exact ⟨j + 1, by omega, by omega, by go_num, ⟨by rw [HSN.out]; exact O3.out⟩, B3⟩
    · have : j = P.length := by omega
      subst this
      rw [List.take_length, HSP.out.1] at HO
      have HBW2 := Aside0.mk (below_then HBW.out HBW.out.size HB.out)
      go_wp2
      go_ret
      exact ⟨_, rfl, Kd.R_lower HO.out HBW.out.size, HBW2.out⟩

set_option maxRecDepth 100000 in
theorem tells35 (g : Nat) (A1 : Option Addr) (c1 : Nat) (txs : List Int) (w : World) (h : w.heap[g]? = some (.cells #[.slice A1 txs.length c1] 35 (0, 0))) (hr : Kd.C (Kd.int .i64) w A1 txs.length txs) : TellsE 35 (.pointer (some ⟨g, 0, none⟩)) (fun x => decide (x.f0 ∈ txs)) w := by
  intro x W hb
  have hu33 := Try.underlying33
  have hg : W.heap[g]? = some (.cells #[.slice A1 txs.length c1] 35 (0, 0)) := blk_below h hb
  have hc : W.cell? ⟨g, 0, none⟩ = some (.slice A1 txs.length c1) := blk_cell hg 0
  have hl := blk_lt hg
  obtain ⟨x0, x1, x2, x3⟩ := x
  have HCO := Aside0.mk (fun W' (hW : Below W.heap.size W W') => contains_int x0 A1 c1 txs W' (Kd.C_below (Kd.C_below hr hb) hW))
  clear hb h hr
  simp only
  obtain ⟨b, hb⟩ : ∃ b, decide (x0 ∈ txs) = b := ⟨_, rfl⟩
  rw [hb] at HCO ⊢
  go_enter Try.func35, Try.ntmps35
  go_wp2_with (go_at_call 36; refine (HCO.out _ (by exact (Below.refl _ _).alloc (Nat.le_refl _) _)).mono ?_; rintro e w1 ⟨rfl, hb1⟩; have HB1 := Aside0.mk hb1; clear hb1)
  go_ret
  exact ⟨rfl, below_then ((Below.refl _ _).alloc (Nat.le_refl _) _) (by simp) HB1.out⟩

theorem R_putObj {α : Type} {d : Kd α} {e : Nat} {w : World} {base : Nat} {ok : Nat → Prop} {v : Value} {xs : List α} (h : d.R e w base ok v xs) {l : Nat} {o o' : Obj} (hl : w.heap[l]? = some o) (ho : o.isCells = false) : d.R e (w.putObj l o') base ok v xs :=
  Kd.R_mono (Kd.R_step (Kd.R_bound h) (fun k hk hlt => World.putObj_heap_other (fun e => by
    obtain ⟨_, _, _, q, _, cells, hc⟩ := hk
    subst e
    rw [hl] at hc
    cases Option.some.inj hc
    cases ho))) (fun k hk => hk.1)
theorem stays_blk {Own : Nat → Prop} {A C : World} {k : Nat} {o : Obj} (h : Stays Own A C) (hk : Own k) (hb : A.heap[k]? = some o) : C.heap[k]? = some o := (h.block k hk (blk_lt hb)).trans hb
theorem stays_below {Own : Nat → Prop} {w A C : World} (hb : Below w.heap.size w A) (h : Stays Own A C) (ho : ∀ k, k < w.heap.size → Own k) : Below w.heap.size w C :=
  ⟨h.os.trans hb.os, h.tape.trans hb.tape, h.output.trans hb.output, Nat.le_trans hb.size h.size, fun k hk => (h.block k (ho k hk) (Nat.lt_of_lt_of_le hk hb.size)).trans (hb.block k hk)⟩
theorem stays_C {α : Type} {d : Kd α} {e : Nat} {A C : World} {base : Nat} {ok : Nat → Prop} {Own : Nat → Prop} {a : Option Addr} {n c : Nat} {xs : List α} (h : d.R e A base ok (.slice a n c) xs) (hst : Stays Own A C) (ho : ∀ k, base ≤ k → k < A.heap.size → Own k) : d.C C a n xs := by
  have h1 := Kd.R_step (w1 := C) (Kd.R_bound h) (fun k hk hlt => hst.block k (ho k hk.2.1 hlt) hlt)
  have h2 := Kd.R_reads' h1
  rw [h2.1]; exact h2.2.2

/-- Entries behind the first n undone. -/
def outU (l0 E : List S33) (pre : List Int) : List S33 := l0 ++ pre.map (fun i => opp (rd_T33 E i))
theorem outU_snoc (l0 E : List S33) (pre : List Int) (x : Int) : outU l0 E (pre ++ [x]) = outU l0 E pre ++ [opp (rd_T33 E x)] := by unfold outU; rw [List.map_append, ← List.append_assoc]; rfl
theorem outU_done (l0 E : List S33) : outU l0 E (downL E.length E.length) = l0 ++ E.reverse.map opp := by
  unfold outU
  rw [← downL_rd, List.map_map]; rfl
theorem opn_len (l : List S33) : (opn l).length ≤ l.length := by
  rw [← openL_len]
  unfold openL
  split
  · exact Nat.zero_le _
  · exact outL_len _ _ _
def oplist_Undo.f (l0 : List S33) (l1 : List Int) : Option (List S33) := if l0.all inE = true ∧ l0.length < 1000000000 then some (undL l0 (fun x => decide (x.f0 ∈ l1))) else none
set_option maxRecDepth 100000 in
set_option maxHeartbeats 4000000 in
theorem oplist_Undo.calls (A0 : Option Addr) (c0 : Nat) (l0 : List S33) (A1 : Option Addr) (c1 : Nat) (l1 : List Int) (r : List S33) (w : World) (hr0 : Kd.C k33 w A0 l0.length l0) (hc0 : l0.length ≤ c0) (hr1 : Kd.C (Kd.int .i64) w A1 l1.length l1) (hc1 : l1.length ≤ c1) (h : oplist_Undo.f l0 l1 = some r) :
    Calls Try.prog 12 #[.agg #[.slice A0 l0.length c0], .slice A1 l1.length c1] w fun e w' => ∃ v0_ : Value, e = .returned (.agg #[v0_]) ∧ Kd.R k33 33 w' w.heap.size (fun _ => True) v0_ r ∧ Below w.heap.size w w' := by
  unfold oplist_Undo.f at h
  by_cases hin : l0.all inE = true ∧ l0.length < 1000000000
  case neg => rw [if_neg hin] at h; cases h
  rw [if_pos hin] at h
  obtain rfl := Option.some.inj h
  clear h
  refine (callsIn_wide (n := 8)).1 ?_
  have hu26 := Try.underlying26
  have hu33 := Try.underlying33
  have hmx : Try.prog.follows .mixedOrders = true := by kernel_rfl
  have hlen := hin.2
  have hen : ((opn l0).filter (fun x => decide (x.f0 ∈ l1))).length ≤ l0.length := Nat.le_trans (List.length_filter_le _ _) (opn_len l0)
  have HE := Aside0.mk (fun g W (hW : Below w.heap.size w W) (hgc : W.heap[g]? = some (.cells #[.slice A1 l1.length c1] 35 (0, 0))) => entries_35 (fun x => decide (x.f0 ∈ l1)) (.pointer (some ⟨g, 0, none⟩)) A0 c0 l0 W (Kd.C_below hr0 hW) hc0 hin.1 hin.2 (tells35 g A1 c1 l1 W hgc (Kd.C_below hr1 hW)))
  have HC := Aside0.mk (fun W (hW : Below w.heap.size w W) => oplist_Entry_31.calls A0 c0 l0 l0 W (Kd.C_below hr0 hW) hc0 (by unfold oplist_Entry_31.f; rw [if_pos (by omega)]))
  have HR0 := Aside0.mk hr0
  clear hr0 hc0 hr1 hc1 hin
  unfold undL
  generalize (opn l0).filter (fun x => decide (x.f0 ∈ l1)) = E at *
  obtain ⟨w3, hw3⟩ : ∃ w3, ((w.alloc (.cells #[.slice A0 l0.length c0] 26)).alloc (.cells #[.slice A1 l1.length c1] 35)).alloc (.cells #[.slice none 0 0] 26) = w3 := ⟨_, rfl⟩
  have hs3 : w3.heap.size = w.heap.size + 3 := by rw [← hw3]; simp
  have b0 : w3.heap[w.heap.size]? = some (.cells #[.slice A0 l0.length c0] 26 (0, 0)) := by rw [← hw3]; exact blk_alloc (blk_alloc (blk_new w _) _) _
  have b1 : w3.heap[w.heap.size + 1]? = some (.cells #[.slice A1 l1.length c1] 35 (0, 0)) := by rw [← hw3]; simpa using blk_alloc (blk_new (w.alloc (.cells #[.slice A0 l0.length c0] 26)) _) _
  have b2 : w3.heap[w.heap.size + 2]? = some (.cells #[.slice none 0 0] 26 (0, 0)) := by rw [← hw3]; simpa using blk_new ((w.alloc (.cells #[.slice A0 l0.length c0] 26)).alloc (.cells #[.slice A1 l1.length c1] 35)) (.cells #[.slice none 0 0] 26)
  have hb3 : Below w.heap.size w w3 := by rw [← hw3]; exact (((Below.refl _ w).alloc (Nat.le_refl _) _).alloc (by simp) _).alloc (by simp; omega) _
  have HW3 := Aside0.mk hw3
  have c0_ : w3.cell? ⟨w.heap.size, 0, none⟩ = some (.slice A0 l0.length c0) := blk_cell b0 0
  refine callsIn_of_wp_marks Try.func12 rfl trivial ?_ rfl
  simp only [Try.ntmps12, List.size_toArray, List.length_cons, List.length_nil, Nat.reduceAdd, Nat.reduceSub, Array.replicate_succ, Array.replicate_zero, List.push_toArray, List.append_toArray, List.nil_append, List.cons_append]
  have HB3 := Aside0.mk hb3
  have B0 := Aside0.mk b0
  have B1 := Aside0.mk b1
  have B2 := Aside0.mk b2
  clear hw3 hb3 b0 b1 b2
  gi_wp2_with fail
  rw [HW3.out]
  refine ⟨trivial, (callsIn_wide.2 (HC.out w3 HB3.out)).mono ?_⟩
  rintro e w1 ⟨v0, rfl, hv0, hb1⟩
  obtain ⟨B5, hB5⟩ : ∃ B5, w1.heap.size = B5 := ⟨_, rfl⟩
  have hs1 : w3.heap.size ≤ B5 := by rw [← hB5]; exact hb1.size
  have K1 := Aside0.mk (below_then HB3.out HB3.out.size hb1)
  have B0 := Aside0.mk (blk_below B0.out hb1)
  have B1 := Aside0.mk (blk_below B1.out hb1)
  have B2 := Aside0.mk (blk_below B2.out hb1)
  obtain ⟨Av, cv, ev⟩ := Kd.R_slice hv0
  subst ev
  have V1 := Aside0.mk (Kd.R_bound hv0)
  have c1_ : (w1.alloc (.cells #[.slice Av l0.length cv] 26)).cell? ⟨w.heap.size, 0, none⟩ = some (.slice A0 l0.length c0) := blk_cell (blk_alloc B0.out _) 0
  clear hv0 hb1 c0_
  gi_wp2_with fail
  refine ⟨trivial, (callsIn_wide.2 (HE.out (w.heap.size + 1) _ (by exact K1.out.alloc K1.out.size _) (blk_alloc B1.out _))).mono ?_⟩
  rintro e w2 ⟨v2, rfl, hv2, hb2⟩
  obtain ⟨Ae, ce, ee⟩ := Kd.R_slice hv2
  subst ee
  have B0 := Aside0.mk (blk_below (blk_alloc B0.out _) hb2)
  have B1 := Aside0.mk (blk_below (blk_alloc B1.out _) hb2)
  have B2 := Aside0.mk (blk_below (blk_alloc B2.out (.cells #[.slice Av l0.length cv] 26)) hb2)
  have B5_ := Aside0.mk (blk_below (blk_new w1 (.cells #[.slice Av l0.length cv] 26)) hb2)
  have K2 := Aside0.mk (below_then (K1.out.alloc K1.out.size _) (K1.out.alloc K1.out.size _).size hb2)
  have V1 := Aside0.mk (Kd.R_below (Kd.R_alloc V1.out (.cells #[.slice Av l0.length cv] 26)) hb2)
  have V2 := Aside0.mk hv2
  have hs2 : B5 + 1 ≤ w2.heap.size := by have := hb2.size; simp [hB5] at this; exact this
  clear hv2 hb2 c1_
  have HBK := Aside0.mk (backward_any Ae ce E)
  gi_wp2_with fail
  refine ⟨trivial, (callsIn_wide.2 (HBK.out w2)).mono ?_⟩
  rintro e w' ⟨rfl, rfl⟩
  gi_wp2_with fail
  obtain ⟨WL, hWL⟩ : ∃ WL, w2.alloc (.cells #[.slice Ae E.length ce] 24) = WL := ⟨_, rfl⟩
  rw [hWL]
  obtain ⟨T, hT⟩ : ∃ T, w2.heap.size = T := ⟨_, rfl⟩
  rw [hT] at hs2 ⊢
  have hsL : WL.heap.size = T + 1 := by rw [← hWL]; simp [hT]
  have bT : WL.heap[T]? = some (.cells #[.slice Ae E.length ce] 24 (0, 0)) := by rw [← hWL, ← hT]; exact blk_new _ _
  have b2 : WL.heap[w.heap.size + 2]? = some (.cells #[.slice none 0 0] 26 (0, 0)) := by rw [← hWL]; exact blk_alloc B2.out _
  have b5 : WL.heap[B5]? = some (.cells #[.slice Av l0.length cv] 26 (0, 0)) := by rw [← hWL, ← hB5]; exact blk_alloc B5_.out _
  have v1 : Kd.R k33 33 WL (w.heap.size + 3) (fun k => (w.heap.size + 3 ≤ k ∧ k < B5) ∨ WL.heap.size + 2 ≤ k) (.slice Av l0.length cv) (outU l0 E []) := by
    have := Kd.R_alloc V1.out (.cells #[.slice Ae E.length ce] 24)
    rw [hWL, hs3, hB5] at this
    have e : outU l0 E [] = l0 := by unfold outU; simp
    rw [e]
    exact Kd.R_mono this (fun k hk => .inl ⟨hk.2.1, hk.2.2.1⟩)
  have v2 : Kd.R k33 33 WL (B5 + 1) (fun _ => True) (.slice Ae E.length ce) E := by
    have := Kd.R_alloc V2.out (.cells #[.slice Ae E.length ce] 24)
    rw [hWL, World.size_alloc, hB5] at this
    exact this
  have kL : Below w.heap.size w WL := by rw [← hWL]; exact K2.out.alloc K2.out.size _
  have BT := Aside0.mk bT
  have B2L := Aside0.mk b2
  have B5L := Aside0.mk b5
  have V1L := Aside0.mk v1
  have V2L := Aside0.mk v2
  have KL := Aside0.mk kL
  clear bT b2 b5 v1 v2 kL V1 V2 K2 B5_ B0 B1 B2 K1 HBK hWL hT HE HC
  have hIa : ∀ (pre : List Int) (W : World) (o : Obj), (Stays (fun k => k < w.heap.size + 3 ∨ (B5 + 1 ≤ k ∧ k < WL.heap.size)) WL W ∧ ∃ v, W.heap[B5]? = some (.cells #[v] 26 (0, 0)) ∧ Kd.R k33 33 W (w.heap.size + 3) (fun k => (w.heap.size + 3 ≤ k ∧ k < B5) ∨ WL.heap.size + 2 ≤ k) v (outU l0 E pre)) →
      (Stays (fun k => k < w.heap.size + 3 ∨ (B5 + 1 ≤ k ∧ k < WL.heap.size)) WL (W.alloc o) ∧ ∃ v, (W.alloc o).heap[B5]? = some (.cells #[v] 26 (0, 0)) ∧ Kd.R k33 33 (W.alloc o) (w.heap.size + 3) (fun k => (w.heap.size + 3 ≤ k ∧ k < B5) ∨ WL.heap.size + 2 ≤ k) v (outU l0 E pre)) :=
    fun pre W o ⟨h1, v, h2, h3⟩ => ⟨h1.trans (Stays.alloc _ _ _), v, blk_alloc h2 _, Kd.R_alloc h3 _⟩
  have HIA := Aside0.mk hIa
  clear hIa
  refine range_quiet rfl (by omega) (gf := 55) (lb := #[.pointer (some ⟨T, 0, none⟩)]) (encs := encB E) rfl trivial (enters_of Try.func55 (by kernel_rfl) rfl)
    (bwd_gives 7 (by omega) Ae ce E T) (fun _ => rfl)
    (fun pre W => Stays (fun k => k < w.heap.size + 3 ∨ (B5 + 1 ≤ k ∧ k < WL.heap.size)) WL W ∧ ∃ v, W.heap[B5]? = some (.cells #[v] 26 (0, 0)) ∧ Kd.R k33 33 W (w.heap.size + 3) (fun k => (w.heap.size + 3 ≤ k ∧ k < B5) ∨ WL.heap.size + 2 ≤ k) v (outU l0 E pre))
    (fun _ _ _ => False)
    (fun s A l o o' h hl hlo hc => ⟨h.1.trans (Stays.putObj (by show ¬ (_ ∨ _); omega) _ _), by
      obtain ⟨v, h1, h2⟩ := h.2
      exact ⟨v, (World.putObj_heap_other (by omega)).trans h1, R_putObj h2 hlo hc⟩⟩)
    (fun _ _ _ _ _ _ h _ _ _ => h)
    (fun s A h => ⟨stays_blk h.1 (.inr ⟨by omega, by omega⟩) BT.out, stays_C V2L.out h.1 (fun k h1 h2 => .inr ⟨h1, h2⟩)⟩)
    (fun o o' => HIA.out _ _ _ (HIA.out _ _ _ ⟨Stays.refl _ _, _, B5L.out, V1L.out⟩))
    (fun x a' W => ∃ Bx, WL.heap.size + 1 < Bx ∧ W.heap[Bx]? = some (.cells #[.int .i64 (rd_T33 E x).f0, .int .i64 (rd_T33 E x).f1, .int .i64 (rd_T33 E x).f2, .bool (rd_T33 E x).f3] 33 (0, 0)) ∧
      a' = { tmps := #[.agg #[.slice A0 l0.length c0], .slice A1 l1.length c1, .pointer (some ⟨w.heap.size, 0, none⟩), .pointer (some ⟨w.heap.size + 1, 0, none⟩), .pointer (some ⟨w.heap.size + 1 + 1, 0, none⟩), .pointer (some ⟨B5, 0, none⟩), undef, .pointer (some ⟨Bx, 0, none⟩),
        .pointer (some ⟨w.heap.size, 0, none⟩), .slice A0 l0.length c0, .slice Av l0.length cv, .agg #[.slice Av l0.length cv], .agg #[.slice A0 l0.length c0], .func (.func 35) #[] #[.pointer (some ⟨w.heap.size + 1, 0, none⟩)], .slice Ae E.length ce, .func (.func 55) #[] #[.pointer (some ⟨T, 0, none⟩)],
        .int .i64 x, .agg #[.int .i64 (rd_T33 E x).f0, .int .i64 (rd_T33 E x).f1, .int .i64 (rd_T33 E x).f2, .bool (rd_T33 E x).f3], undef, undef, undef, undef, undef, undef, undef, undef], defers := [] })
    (fun x a' A l o o' ⟨Bx, h1, h2, h3⟩ hl hlo hc => ⟨Bx, h1, (World.putObj_heap_other (by
      intro e
      subst e
      rw [hlo] at h2
      cases Option.some.inj h2
      cases hc)).trans h2, h3⟩)
    ?assign ?body ?done ?stop
  case assign =>
    intro l pre x W K hi hlt hK
    have HK := Aside0.mk hK
    clear hK
    have hi1 := HIA.out _ _ (.cells #[.int .i64 (rd_T33 E x).f0, .int .i64 (rd_T33 E x).f1, .int .i64 (rd_T33 E x).f2, .bool (rd_T33 E x).f3] 33) hi
    have HI1 := Aside0.mk hi1
    clear hi hi1
    unfold encB
    generalize rd_T33 E x = y at *
    obtain ⟨x0, x1, x2, x3⟩ := y
    gi_wp2
    exact HK.out _ _ HI1.out (Stays.alloc _ _ _) ⟨W.heap.size, hlt, blk_new _ _, rfl⟩
  case body =>
    rintro l pre x a' W ⟨Bx, hBx, hbx, rfl⟩ ⟨hst, v, hv5, hvR⟩ hpost hlt
    obtain ⟨post, hpost⟩ := hpost
    have hxm : x ∈ downL E.length E.length := by rw [hpost]; simp
    have hol : (outU l0 E pre).length ≤ 2000000000 := by
      have : pre.length ≤ E.length := by have := congrArg List.length hpost; rw [downL_len] at this; simp at this; omega
      unfold outU; rw [List.length_append, List.length_map]; omega
    clear hxm hpost
    have hsn := outU_snoc l0 E pre x
    generalize rd_T33 E x = y at *
    have HOP := Aside0.mk (opp_any y)
    have HSN := Aside0.mk hsn
    have HOL := Aside0.mk hol
    obtain ⟨Ax, cx, ex⟩ := Kd.R_slice hvR
    subst ex
    have D5 : W.drew.cell? ⟨B5, 0, none⟩ = some (.slice Ax (outU l0 E pre).length cx) := blk_cell (blk_drew hv5) 0
    have DX0 : W.drew.cell? ⟨Bx, 0, none⟩ = some (.int .i64 y.f0) := blk_cell (blk_drew hbx) 0
    have DX1 : W.drew.cell? ⟨Bx, 1, none⟩ = some (.int .i64 y.f1) := blk_cell (blk_drew hbx) 1
    have DX2 : W.drew.cell? ⟨Bx, 2, none⟩ = some (.int .i64 y.f2) := blk_cell (blk_drew hbx) 2
    have DX3 : W.drew.cell? ⟨Bx, 3, none⟩ = some (.bool y.f3) := blk_cell (blk_drew hbx) 3
    have HBX := Aside0.mk hbx
    have HV5 := Aside0.mk hv5
    have HVR := Aside0.mk hvR
    have HST := Aside0.mk hst
    clear hbx hv5 hvR hst hsn hol
    gi_wp2_with fail
    refine wpIn_region_any (by assumption) ?_
    try (change wpAnyIn _ _ _ _ _ _ _ _ _ (World.drew _))
    refine wpAnyIn_ready (rs := [0, 2]) (by kernel_rfl) (by simp) ?_
    refine AllReadyIn.cons rfl (fun K hK => ?_) ?_
    go_simp
    refine hK _ _ ?_
    clear hK K
    try simp only [Act.put, List.setIfInBounds_toArray, List.set_cons_zero, List.set_cons_succ]
    refine wpAnyIn_ready (rs := [1, 2]) (by kernel_rfl) (by simp) ?_
    refine AllReadyIn.cons rfl (fun K hK => ?_) ?_
    go_simp
    refine hK _ _ ?_
    clear hK K
    try simp only [Act.put, List.setIfInBounds_toArray, List.set_cons_zero, List.set_cons_succ]
    refine wpAnyIn_ready (rs := [2]) (by kernel_rfl) (by simp) ?_
    refine AllReadyIn.cons rfl (fun K hK => ?_) ?_
    go_simp
    refine hK _ _ ?_
    clear hK K
    try simp only [Act.put, List.setIfInBounds_toArray, List.set_cons_zero, List.set_cons_succ]
    refine wpAnyIn_ready (rs := [3]) (by kernel_rfl) (by simp) ?_
    refine AllReadyIn.cons rfl (fun K hK => ?_) ?_
    go_simp
    refine ⟨trivial, ?_⟩
    refine (CallsIn.inRound l (callsIn_wide.2 (HOP.out _))).mono ?_
    rintro e W2 ⟨rfl, hb⟩
    have E5 : W2.cell? ⟨B5, 0, none⟩ = some (.slice Ax (outU l0 E pre).length cx) := blk_cell (blk_below (blk_drew HV5.out) hb) 0
    have F5 : (W2.alloc (.cells #[.int .i64 (opp y).f0, .int .i64 (opp y).f1, .int .i64 (opp y).f2, .bool (opp y).f3] 33)).cell? ⟨B5, 0, none⟩ = some (.slice Ax (outU l0 E pre).length cx) := blk_cell (blk_alloc (blk_below (blk_drew HV5.out) hb) _) 0
    unfold encE
    refine hK _ _ ?_
    clear hK K
    try simp only [Act.put, List.setIfInBounds_toArray, List.set_cons_zero, List.set_cons_succ]
    refine wpAnyIn_ready (rs := [4]) (by kernel_rfl) (by simp) ?_
    refine AllReadyIn.cons rfl (fun K hK => ?_) ?_
    go_simp
    refine hK _ _ ?_
    clear hK K
    try simp only [Act.put, List.setIfInBounds_toArray, List.set_cons_zero, List.set_cons_succ]
    rotate_left
    exact AllReadyIn.nil
    exact AllReadyIn.nil
    exact AllReadyIn.nil
    refine AllReadyIn.cons rfl (fun K hK => ?_) ?_
    go_simp
    refine hK _ _ ?_
    clear hK K
    try simp only [Act.put, List.setIfInBounds_toArray, List.set_cons_zero, List.set_cons_succ]
    refine wpAnyIn_ready (rs := [1, 3]) (by kernel_rfl) (by simp) ?_
    refine AllReadyIn.cons rfl (fun K hK => ?_) ?_
    go_simp
    refine hK _ _ ?_
    clear hK K
    try simp only [Act.put, List.setIfInBounds_toArray, List.set_cons_zero, List.set_cons_succ]
    refine wpAnyIn_ready (rs := [3]) (by kernel_rfl) (by simp) ?_
    refine AllReadyIn.cons rfl (fun K hK => ?_) ?_
    go_simp
    refine ⟨trivial, ?_⟩
    refine (CallsIn.inRound l (callsIn_wide.2 (HOP.out _))).mono ?_
    rintro e W2 ⟨rfl, hb⟩
    have E5 : W2.cell? ⟨B5, 0, none⟩ = some (.slice Ax (outU l0 E pre).length cx) := blk_cell (blk_below (blk_drew HV5.out) hb) 0
    have F5 : (W2.alloc (.cells #[.int .i64 (opp y).f0, .int .i64 (opp y).f1, .int .i64 (opp y).f2, .bool (opp y).f3] 33)).cell? ⟨B5, 0, none⟩ = some (.slice Ax (outU l0 E pre).length cx) := blk_cell (blk_alloc (blk_below (blk_drew HV5.out) hb) _) 0
    unfold encE
    refine hK _ _ ?_
    clear hK K
    try simp only [Act.put, List.setIfInBounds_toArray, List.set_cons_zero, List.set_cons_succ]
    refine wpAnyIn_ready (rs := [4]) (by kernel_rfl) (by simp) ?_
    refine AllReadyIn.cons rfl (fun K hK => ?_) ?_
    go_simp
    refine hK _ _ ?_
    clear hK K
    try simp only [Act.put, List.setIfInBounds_toArray, List.set_cons_zero, List.set_cons_succ]
    rotate_left
    exact AllReadyIn.nil
    exact AllReadyIn.nil
    refine AllReadyIn.cons rfl (fun K hK => ?_) ?_
    go_simp
    refine ⟨trivial, ?_⟩
    refine (CallsIn.inRound l (callsIn_wide.2 (HOP.out _))).mono ?_
    rintro e W2 ⟨rfl, hb⟩
    have E5 : W2.cell? ⟨B5, 0, none⟩ = some (.slice Ax (outU l0 E pre).length cx) := blk_cell (blk_below (blk_drew HV5.out) hb) 0
    have F5 : (W2.alloc (.cells #[.int .i64 (opp y).f0, .int .i64 (opp y).f1, .int .i64 (opp y).f2, .bool (opp y).f3] 33)).cell? ⟨B5, 0, none⟩ = some (.slice Ax (outU l0 E pre).length cx) := blk_cell (blk_alloc (blk_below (blk_drew HV5.out) hb) _) 0
    unfold encE
    refine hK _ _ ?_
    clear hK K
    try simp only [Act.put, List.setIfInBounds_toArray, List.set_cons_zero, List.set_cons_succ]
    refine wpAnyIn_ready (rs := [1, 4]) (by kernel_rfl) (by simp) ?_
    refine AllReadyIn.cons rfl (fun K hK => ?_) ?_
    go_simp
    refine hK _ _ ?_
    clear hK K
    try simp only [Act.put, List.setIfInBounds_toArray, List.set_cons_zero, List.set_cons_succ]
    refine wpAnyIn_ready (rs := [4]) (by kernel_rfl) (by simp) ?_
    refine AllReadyIn.cons rfl (fun K hK => ?_) ?_
    go_simp
    refine hK _ _ ?_
    clear hK K
    try simp only [Act.put, List.setIfInBounds_toArray, List.set_cons_zero, List.set_cons_succ]
    rotate_left
    exact AllReadyIn.nil
    refine AllReadyIn.cons rfl (fun K hK => ?_) ?_
    go_simp
    refine hK _ _ ?_
    clear hK K
    try simp only [Act.put, List.setIfInBounds_toArray, List.set_cons_zero, List.set_cons_succ]
    refine wpAnyIn_ready (rs := [1]) (by kernel_rfl) (by simp) ?_
    refine AllReadyIn.cons rfl (fun K hK => ?_) ?_
    go_simp
    refine hK _ _ ?_
    clear hK K
    try simp only [Act.put, List.setIfInBounds_toArray, List.set_cons_zero, List.set_cons_succ]
    rotate_left
    exact AllReadyIn.nil
    exact AllReadyIn.nil
    exact AllReadyIn.nil
    exact AllReadyIn.nil
    refine AllReadyIn.cons rfl (fun K hK => ?_) ?_
    go_simp
    refine hK _ _ ?_
    clear hK K
    try simp only [Act.put, List.setIfInBounds_toArray, List.set_cons_zero, List.set_cons_succ]
    refine wpAnyIn_ready (rs := [0, 3]) (by kernel_rfl) (by simp) ?_
    refine AllReadyIn.cons rfl (fun K hK => ?_) ?_
    go_simp
    refine hK _ _ ?_
    clear hK K
    try simp only [Act.put, List.setIfInBounds_toArray, List.set_cons_zero, List.set_cons_succ]
    refine wpAnyIn_ready (rs := [1, 3]) (by kernel_rfl) (by simp) ?_
    refine AllReadyIn.cons rfl (fun K hK => ?_) ?_
    go_simp
    refine hK _ _ ?_
    clear hK K
    try simp only [Act.put, List.setIfInBounds_toArray, List.set_cons_zero, List.set_cons_succ]
    refine wpAnyIn_ready (rs := [3]) (by kernel_rfl) (by simp) ?_
    refine AllReadyIn.cons rfl (fun K hK => ?_) ?_
    go_simp
    refine ⟨trivial, ?_⟩
    refine (CallsIn.inRound l (callsIn_wide.2 (HOP.out _))).mono ?_
    rintro e W2 ⟨rfl, hb⟩
    have E5 : W2.cell? ⟨B5, 0, none⟩ = some (.slice Ax (outU l0 E pre).length cx) := blk_cell (blk_below (blk_drew HV5.out) hb) 0
    have F5 : (W2.alloc (.cells #[.int .i64 (opp y).f0, .int .i64 (opp y).f1, .int .i64 (opp y).f2, .bool (opp y).f3] 33)).cell? ⟨B5, 0, none⟩ = some (.slice Ax (outU l0 E pre).length cx) := blk_cell (blk_alloc (blk_below (blk_drew HV5.out) hb) _) 0
    unfold encE
    refine hK _ _ ?_
    clear hK K
    try simp only [Act.put, List.setIfInBounds_toArray, List.set_cons_zero, List.set_cons_succ]
    refine wpAnyIn_ready (rs := [4]) (by kernel_rfl) (by simp) ?_
    refine AllReadyIn.cons rfl (fun K hK => ?_) ?_
    go_simp
    refine hK _ _ ?_
    clear hK K
    try simp only [Act.put, List.setIfInBounds_toArray, List.set_cons_zero, List.set_cons_succ]
    rotate_left
    exact AllReadyIn.nil
    exact AllReadyIn.nil
    refine AllReadyIn.cons rfl (fun K hK => ?_) ?_
    go_simp
    refine ⟨trivial, ?_⟩
    refine (CallsIn.inRound l (callsIn_wide.2 (HOP.out _))).mono ?_
    rintro e W2 ⟨rfl, hb⟩
    have E5 : W2.cell? ⟨B5, 0, none⟩ = some (.slice Ax (outU l0 E pre).length cx) := blk_cell (blk_below (blk_drew HV5.out) hb) 0
    have F5 : (W2.alloc (.cells #[.int .i64 (opp y).f0, .int .i64 (opp y).f1, .int .i64 (opp y).f2, .bool (opp y).f3] 33)).cell? ⟨B5, 0, none⟩ = some (.slice Ax (outU l0 E pre).length cx) := blk_cell (blk_alloc (blk_below (blk_drew HV5.out) hb) _) 0
    unfold encE
    refine hK _ _ ?_
    clear hK K
    try simp only [Act.put, List.setIfInBounds_toArray, List.set_cons_zero, List.set_cons_succ]
    refine wpAnyIn_ready (rs := [1, 4]) (by kernel_rfl) (by simp) ?_
    refine AllReadyIn.cons rfl (fun K hK => ?_) ?_
    go_simp
    refine hK _ _ ?_
    clear hK K
    try simp only [Act.put, List.setIfInBounds_toArray, List.set_cons_zero, List.set_cons_succ]
    refine wpAnyIn_ready (rs := [4]) (by kernel_rfl) (by simp) ?_
    refine AllReadyIn.cons rfl (fun K hK => ?_) ?_
    go_simp
    refine hK _ _ ?_
    clear hK K
    try simp only [Act.put, List.setIfInBounds_toArray, List.set_cons_zero, List.set_cons_succ]
    rotate_left
    exact AllReadyIn.nil
    refine AllReadyIn.cons rfl (fun K hK => ?_) ?_
    go_simp
    refine hK _ _ ?_
    clear hK K
    try simp only [Act.put, List.setIfInBounds_toArray, List.set_cons_zero, List.set_cons_succ]
    refine wpAnyIn_ready (rs := [1]) (by kernel_rfl) (by simp) ?_
    refine AllReadyIn.cons rfl (fun K hK => ?_) ?_
    go_simp
    refine hK _ _ ?_
    clear hK K
    try simp only [Act.put, List.setIfInBounds_toArray, List.set_cons_zero, List.set_cons_succ]
    rotate_left
    exact AllReadyIn.nil
    exact AllReadyIn.nil
    exact AllReadyIn.nil
    refine AllReadyIn.cons rfl (fun K hK => ?_) ?_
    go_simp
    refine ⟨trivial, ?_⟩
    refine (CallsIn.inRound l (callsIn_wide.2 (HOP.out _))).mono ?_
    rintro e W2 ⟨rfl, hb⟩
    have E5 : W2.cell? ⟨B5, 0, none⟩ = some (.slice Ax (outU l0 E pre).length cx) := blk_cell (blk_below (blk_drew HV5.out) hb) 0
    have F5 : (W2.alloc (.cells #[.int .i64 (opp y).f0, .int .i64 (opp y).f1, .int .i64 (opp y).f2, .bool (opp y).f3] 33)).cell? ⟨B5, 0, none⟩ = some (.slice Ax (outU l0 E pre).length cx) := blk_cell (blk_alloc (blk_below (blk_drew HV5.out) hb) _) 0
    unfold encE
    refine hK _ _ ?_
    clear hK K
    try simp only [Act.put, List.setIfInBounds_toArray, List.set_cons_zero, List.set_cons_succ]
    refine wpAnyIn_ready (rs := [0, 4]) (by kernel_rfl) (by simp) ?_
    refine AllReadyIn.cons rfl (fun K hK => ?_) ?_
    go_simp
    refine hK _ _ ?_
    clear hK K
    try simp only [Act.put, List.setIfInBounds_toArray, List.set_cons_zero, List.set_cons_succ]
    refine wpAnyIn_ready (rs := [1, 4]) (by kernel_rfl) (by simp) ?_
    refine AllReadyIn.cons rfl (fun K hK => ?_) ?_
    go_simp
    refine hK _ _ ?_
    clear hK K
    try simp only [Act.put, List.setIfInBounds_toArray, List.set_cons_zero, List.set_cons_succ]
    refine wpAnyIn_ready (rs := [4]) (by kernel_rfl) (by simp) ?_
    refine AllReadyIn.cons rfl (fun K hK => ?_) ?_
    go_simp
    refine hK _ _ ?_
    clear hK K
    try simp only [Act.put, List.setIfInBounds_toArray, List.set_cons_zero, List.set_cons_succ]
    rotate_left
    exact AllReadyIn.nil
    refine AllReadyIn.cons rfl (fun K hK => ?_) ?_
    go_simp
    refine hK _ _ ?_
    clear hK K
    try simp only [Act.put, List.setIfInBounds_toArray, List.set_cons_zero, List.set_cons_succ]
    refine wpAnyIn_ready (rs := [1]) (by kernel_rfl) (by simp) ?_
    refine AllReadyIn.cons rfl (fun K hK => ?_) ?_
    go_simp
    refine hK _ _ ?_
    clear hK K
    try simp only [Act.put, List.setIfInBounds_toArray, List.set_cons_zero, List.set_cons_succ]
    rotate_left
    exact AllReadyIn.nil
    exact AllReadyIn.nil
    refine AllReadyIn.cons rfl (fun K hK => ?_) ?_
    go_simp
    refine hK _ _ ?_
    clear hK K
    try simp only [Act.put, List.setIfInBounds_toArray, List.set_cons_zero, List.set_cons_succ]
    refine wpAnyIn_ready (rs := [0]) (by kernel_rfl) (by simp) ?_
    refine AllReadyIn.cons rfl (fun K hK => ?_) ?_
    go_simp
    refine hK _ _ ?_
    clear hK K
    try simp only [Act.put, List.setIfInBounds_toArray, List.set_cons_zero, List.set_cons_succ]
    refine wpAnyIn_ready (rs := [1]) (by kernel_rfl) (by simp) ?_
    refine AllReadyIn.cons rfl (fun K hK => ?_) ?_
    go_simp
    refine hK _ _ ?_
    clear hK K
    try simp only [Act.put, List.setIfInBounds_toArray, List.set_cons_zero, List.set_cons_succ]
    rotate_left
    exact AllReadyIn.nil
    exact AllReadyIn.nil
    exact AllReadyIn.nil
    exact AllReadyIn.nil
    exact AllReadyIn.nil
    all_goals (
      refine wpAnyIn_ready (rs := [5]) (by kernel_rfl) (by simp) ?_
      refine AllReadyIn.cons rfl (fun K hK => ?_) AllReadyIn.nil
      refine R_append_stepIn k33 (w.heap.size + 3) rfl (.tmp 19) (.tmp 22) 24 33 (.agg #[(.int .i64 0), (.int .i64 0), (.int .i64 0), (.bool false)]) 32 rfl Try.underlying24 info33 rfl (by decide) (by omega) (.slice Ax (outU l0 E pre).length cx) (outU l0 E pre) (opp y) [.int .i64 (opp y).f0, .int .i64 (opp y).f1, .int .i64 (opp y).f2, .bool (opp y).f3] _ (fun _ => False) rfl rfl (k33_mkM _ _ _ (opp y)) (fun _ hk => hk.elim) (fun k hk => .inr (by have := hb.size; have : W.drew.heap.size = W.heap.size := rfl; omega)) (Kd.R_below (Kd.R_drew HVR.out) hb) (by have := hb.size; have : W.drew.heap.size = W.heap.size := rfl; omega) (by have := HOL.out; omega) ?_
      intro v1 w1 hr1 hg1
      have hv51 : w1.heap[B5]? = some (.cells #[.slice Ax (outU l0 E pre).length cx] 26 (0, 0)) := blk_grown (blk_below (blk_drew HV5.out) hb) hg1 (Kd.R_ne (Kd.R_below (Kd.R_drew HVR.out) hb) (blk_below (blk_drew HV5.out) hb) (by decide))
      have G5 : w1.cell? ⟨B5, 0, none⟩ = some (.slice Ax (outU l0 E pre).length cx) := blk_cell hv51 0
      have G5f := blk_frozen hv51 0
      obtain ⟨Ay, cy, ey⟩ := Kd.R_slice hr1
      rw [List.length_append, List.length_singleton] at ey
      subst ey
      refine hK _ _ ?_
      clear hK K
      try simp only [Act.put, List.setIfInBounds_toArray, List.set_cons_zero, List.set_cons_succ]
      refine wpAnyIn_ready (rs := [6]) (by kernel_rfl) (by simp) ?_
      refine AllReadyIn.cons rfl (fun K hK => ?_) AllReadyIn.nil
      go_simp
      refine hK _ _ ?_
      clear hK K
      try simp only [Act.put, List.setIfInBounds_toArray, List.set_cons_zero, List.set_cons_succ]
      refine wpAnyIn_ready (rs := [7]) (by kernel_rfl) (by simp) ?_
      refine AllReadyIn.cons rfl (fun K hK => ?_) AllReadyIn.nil
      go_simp
      refine hK _ _ ?_
      clear hK K
      try simp only [Act.put, List.setIfInBounds_toArray, List.set_cons_zero, List.set_cons_succ]
      refine wpAnyIn_done (by kernel_rfl) ?_ _
      gi_wp2
      have hS : ∀ Own : Nat → Prop, (∀ k, Own k → some k ≠ (Value.slice Ax (outU l0 E pre).length cx).ownBlock) → ¬ Own B5 → Stays Own W (w1.setCell ⟨B5, 0, none⟩ (.slice Ay ((outU l0 E pre).length + 1) cy)) := fun Own h1 h2 => ((((Stays.below (below_drew1 (Below.refl _ W))).trans (Stays.below hb)).trans ⟨hg1.os, hg1.tape, hg1.output, hg1.size, fun k hk hlt => hg1.block k hlt (h1 k hk)⟩)).trans (Stays.setCell h2 _ _)
      refine ⟨hS (fun k => k = WL.heap.size ∨ k = WL.heap.size + 1) ?_ (by omega), HST.out.trans (hS (fun k => k < w.heap.size + 3 ∨ (B5 + 1 ≤ k ∧ k < WL.heap.size)) ?_ (by omega)), .slice Ay ((outU l0 E pre).length + 1) cy, blk_set hv51 0 _, ?_⟩
      · intro k hk e; have := HVR.out.1 k e.symm; omega
      · intro k hk e; have := HVR.out.1 k e.symm; omega
      · rw [HSN.out]; exact Kd.R_far hr1 (p := ⟨B5, 0, none⟩) (fun k hk => by show k ≠ B5; omega) _)
  case done =>
    rintro W ⟨hst, v, hv5, hvR⟩ hK
    rw [outU_done] at hvR
    obtain ⟨An, cn, en⟩ := Kd.R_slice hvR
    subst en
    have c5 : W.cell? ⟨B5, 0, none⟩ = some (.slice An (l0 ++ E.reverse.map opp).length cn) := blk_cell hv5 0
    have h2 := stays_blk hst (.inl (by omega)) B2L.out
    have c2 : W.cell? ⟨w.heap.size + 1 + 1, 0, none⟩ = some (.slice none 0 0) := blk_cell h2 0
    have f2 := blk_frozen h2 0
    have H2 := Aside0.mk h2
    have HK := Aside0.mk hK
    have HST := Aside0.mk hst
    have HVR := Aside0.mk hvR
    obtain ⟨out, hout⟩ : ∃ out, l0 ++ E.reverse.map opp = out := ⟨_, rfl⟩
    rw [hout] at c5 HVR
    have HOUT := Aside0.mk hout
    clear h2 hK hst hvR hv5 hout
    gi_wp2
    have hK' : (W.setCell ⟨w.heap.size + 1 + 1, 0, none⟩ (.slice An out.length cn)).heap[WL.heap.size]? = some (.deferred (some [])) := (Below.heap_setCell W ⟨w.heap.size + 1 + 1, 0, none⟩ _ WL.heap.size (by simp; omega)).trans HK.out
    refine ⟨by simp, .inl ⟨_, _, rfl, run_takeDeferred hK', ?_⟩⟩
    have hblk : ((W.setCell ⟨w.heap.size + 1 + 1, 0, none⟩ (.slice An out.length cn)).putObj WL.heap.size (.deferred none)).heap[w.heap.size + 1 + 1]? = some (.cells #[.slice An out.length cn] 26 (0, 0)) := (World.putObj_heap_other (by omega)).trans (blk_set H2.out 0 _)
    refine ⟨.agg #[.slice An out.length cn], results_cell_row rfl _ _ (w.heap.size + 1 + 1) 26 #[.slice An out.length cn] (0, 0) _ rfl hblk Try.underlying26 rfl (by kernel_rfl), _, rfl, ?_, ?_⟩
    · rw [HOUT.out]
      exact Kd.R_mono (Kd.R_lower (R_putObj (Kd.R_far HVR.out (p := ⟨w.heap.size + 1 + 1, 0, none⟩) (fun k hk => by show k ≠ w.heap.size + 1 + 1; omega) _) hK' rfl) (by omega)) (fun _ _ => trivial)
    · exact below_put ((stays_below KL.out HST.out (fun k hk => .inl (by omega))).setCell (by show w.heap.size ≤ w.heap.size + 1 + 1; omega) _) (by omega) _
  case stop =>
    rintro c pre post W hx h hK
    exact h.elim
end Go.Proofs.Ytjpoepiidmoegaa.Q
