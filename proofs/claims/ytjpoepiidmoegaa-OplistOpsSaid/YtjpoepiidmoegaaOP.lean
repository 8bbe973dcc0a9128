/- (List).entries at a closure, and those who call it. No condition beyond the entries' ranges and how many they are. -/
import Derived.Test.YtjpoepiidmoegaaOE
import Derived.Test.YtjpoepiidmoegaaTV
namespace Go.Proofs.Ytjpoepiidmoegaa.Q
open Go.RowKit Go.Proofs.YtjpoepiidmoegaaW Go.Proofs.YtjpoepiidmoegaaW.PrintWords Go.Proofs.YtjpoepiidmoegaaW.PrintLast Go.Proofs.YtjpoepiidmoegaaW.PrintMore
set_option linter.unusedVariables false
set_option linter.unusedSimpArgs false

/-- What a closure with two captured boxes tells of an entry. -/
def TellsE2 (g : Nat) (cap cap2 : Value) (p : S33 → Bool) (w : World) : Prop := ∀ (x : S33) (W : World), Below w.heap.size w W →
  Calls Try.prog g #[.agg #[.int .i64 x.f0, .int .i64 x.f1, .int .i64 x.f2, .bool x.f3], cap, cap2] W fun e w' => e = .returned (.bool (p x)) ∧ Below W.heap.size W w'

set_option maxRecDepth 100000 in
set_option maxHeartbeats 4000000 in
theorem entries_47 (p : S33 → Bool) (cap cap2 : Value) (A0 : Option Addr) (c0 : Nat) (l0 : List S33) (w : World) (hr0 : Kd.C k33 w A0 l0.length l0) (hc0 : l0.length ≤ c0) (hin : l0.all inE = true) (hlen : l0.length < 1000000000) (hg : TellsE2 47 cap cap2 p w) :
    Calls Try.prog 32 #[.agg #[.slice A0 l0.length c0], .func (.func 47) #[] #[cap, cap2]] w fun e w' => ∃ v0_ : Value, e = .returned v0_ ∧ Kd.R k33 33 w' w.heap.size (fun _ => True) v0_ ((opn l0).filter p) ∧ Below w.heap.size w w' := by
  have hmax : l0.length ≤ 9223372036854775807 := hr0.2.1
  have HR := Aside0.mk hr0
  have HG := Aside0.mk hg
  have HSP := Aside0.mk (openL_spec l0)
  have HPN := Aside0.mk (openL_len l0)
  have HOP := Aside0.mk (fun W (hW : Below w.heap.size w W) => oplist_List_open.calls A0 c0 l0 (openL l0).1 (openL l0).2 W (Kd.C_below hr0 hW) hc0 (by unfold oplist_List_open.f; rw [if_pos ⟨hin, hlen⟩]))
  have hpl : (openL l0).1.length ≤ 1000000000 := by
    unfold openL
    split
    · simp
    · exact Nat.le_trans (outL_len _ _ _) (by omega)
  have HPL := Aside0.mk hpl
  generalize openL l0 = PB at *
  obtain ⟨P, b⟩ := PB
  simp only at HSP HPN HOP HPL
  have hu26 := Try.underlying26
  have hu33 := Try.underlying33
  clear hr0 hc0 hin hg hlen hpl
  go_enter Try.func32, Try.ntmps32
  go_wp2_with (go_at_call 40; refine (HOP.out _ (by exact (Below.refl _ w).alloc (Nat.le_refl _) _)).mono ?_; rintro e w1 ⟨v0, rfl, hv0, hb1⟩; obtain ⟨Ap, cp, ep⟩ := Kd.R_slice hv0; subst ep; have HV := Aside0.mk (Kd.R_reads' hv0); have HB1 := Aside0.mk hb1; have HT1 := Aside0.mk (blk_below (blk_new w (.cells #[.slice A0 l0.length c0] 26)) hb1); clear hb1 hv0)
  have HBW := Aside0.mk (below_then ((Below.refl _ w).alloc (Nat.le_refl _) (.cells #[.slice A0 l0.length c0] 26)) (by simp) HB1.out)
  have hpn : P.length ≤ 1000000000 := HPL.out
  have hwl : w.heap.size < w1.heap.size := blk_lt HT1.out
  go_loopg [7, 17] P.length (fun gg s7 s17 wr => ∃ (j : Nat), j ≤ P.length ∧ P.length - j ≤ gg ∧ s17 = .int .i64 j ∧ Aside0 (Kd.R k33 33 wr w1.heap.size (fun _ => True) s7 (((P.take j).map (rd_T33 l0)).filter p)) ∧ Aside0 (Below w1.heap.size w1 wr))
  case atStart =>
    exact ⟨0, Nat.zero_le _, by omega, rfl, ⟨Kd.R_nil _ _ _ _ _⟩, ⟨Below.refl _ _⟩⟩
  case round =>
    obtain ⟨j, hj, hgj, rfl, HO, HB⟩ := hrel
    have hT : wr.heap[w.heap.size]? = some (.cells #[.slice A0 l0.length c0] 26 (0, 0)) := (HB.out.block _ hwl).trans HT1.out
    have ht0 : wr.cell? ⟨w.heap.size, 0, none⟩ = some (.slice A0 l0.length c0) := blk_cell hT 0
    have HTR := Aside0.mk hT
    clear hT
    by_cases hlt : j < P.length
    · obtain ⟨ap, rfl, hcell⟩ := Kd.at_int (Kd.C_below HV.out.2.2 HB.out) j (by omega) (by omega)
      have hpj : rd P j = P[j] := by simp [rd, List.getD_eq_getElem?_getD, List.getElem?_eq_getElem hlt]
      have htk : P.take (j + 1) = P.take j ++ [P[j]] := List.take_succ_eq_append_getElem hlt
      have hrange := HSP.out.2.2 P[j] (List.getElem_mem hlt)
      rw [hpj] at hcell
      have hlen : (((P.take j).map (rd_T33 l0)).filter p).length ≤ j := Nat.le_trans (List.length_filter_le _ _) (by simp; omega)
      generalize P[j] = q at *
      have hcell' : wr.cell? (ap.add j) = some (.int .i64 q) := by simpa using hcell
      clear hcell hpj
      have HBW2 := Aside0.mk (below_then HBW.out HBW.out.size HB.out)
      obtain ⟨q0, q1⟩ := hrange
      have hq0 : (0 : Int) ≤ q := q0
      obtain ⟨ad, rfl, e0, e1, e2, e3⟩ := at_T33 (Kd.C_below HR.out HBW2.out) q q0 q1
      have hsn : ((P.take (j + 1)).map (rd_T33 l0)).filter p = ((P.take j).map (rd_T33 l0)).filter p ++ (if p (rd_T33 l0 q) = true then [rd_T33 l0 q] else []) := by
        rw [htk, List.map_append, List.filter_append]
        congr 1
        by_cases h : p (rd_T33 l0 q) = true
        · rw [if_pos h]; simp [h]
        · rw [if_neg h]; simp [h]
      obtain ⟨x, hxq⟩ : ∃ x, rd_T33 l0 q = x := ⟨_, rfl⟩
      rw [hxq] at e0 e1 e2 e3 hsn
      have HXQ := Aside0.mk hxq
      clear hxq
      have HGX := Aside0.mk (HG.out x)
      have HLEN := Aside0.mk hlen
      clear htk hlen
      obtain ⟨x0, x1, x2, x3⟩ := x
      simp only at e0 e1 e2 e3
      obtain ⟨b1, hb1⟩ : ∃ b, p ⟨x0, x1, x2, x3⟩ = b := ⟨_, rfl⟩
      rw [hb1] at hsn HGX
      clear hb1
      have hjm : j < 9223372036854775807 := by omega
      cases b1 with
      | false =>
        simp only [if_neg (show ¬ (false = true) by decide), List.append_nil] at hsn
        have HSN := Aside0.mk hsn
        clear hsn
        go_wp2_with (go_at_call 47; refine (HGX.out _ HBW2.out).mono ?_; rintro e w2 ⟨rfl, hb⟩; have B2 := Aside0.mk (below_then HB.out HB.out.size hb); have O2 := Aside0.mk (Kd.R_below HO.out hb); clear hb)
        go_roundg (P.length - (j + 1))
        case measure => omega
        case rel => exact ⟨j + 1, by omega, by omega, by go_num, ⟨by rw [HSN.out]; exact O2.out⟩, B2⟩
      | true =>
        simp only [if_true] at hsn
        have HSN := Aside0.mk hsn
        clear hsn
        go_wp2_with (first | (go_at_call 47; refine (HGX.out _ HBW2.out).mono ?_; rintro e w2 ⟨rfl, hb⟩; have B2 := Aside0.mk (below_then HB.out HB.out.size hb); have O2 := Aside0.mk (Kd.R_below HO.out hb); have t20 : w2.cell? ⟨w.heap.size, 0, none⟩ = some (.slice (some ad) l0.length c0) := blk_cell (blk_below HTR.out hb) 0; have BX := Aside0.mk (below_then HBW2.out HBW2.out.size hb); obtain ⟨ad', ead', f0, f1, f2, f3⟩ := at_T33 (Kd.C_below HR.out BX.out) q q0 q1; cases ead'; rw [HXQ.out] at f0 f1 f2 f3; simp only at f0 f1 f2 f3; clear hb e0 e1 e2 e3) | ((with_reducible refine gate_builtin (b := .append) (xs := #[.tmp 28, .tmp 34]) rfl ?_); at_builtin; refine Kd.R_append k33 (w0 := w1) w1.heap.size rfl (.tmp 28) (.tmp 34) 24 33 (.agg #[(.int .i64 0), (.int .i64 0), (.int .i64 0), (.bool false)]) 32 rfl Try.underlying24 info33 rfl (by decide) (by omega) _ (((P.take j).map (rd_T33 l0)).filter p) (⟨x0, x1, x2, x3⟩ : S33) [.int .i64 x0, .int .i64 x1, .int .i64 x2, .bool x3] (fun _ => True) (fun _ => False) rfl (by first | (go_simp; done) | (go_simp; rfl)) ?aP (fun _ hk => hk.elim) (fun _ _ => trivial) O2.out B2.out B2.out.size ?aL ?_; (case aP => exact k33_mkM _ _ _ (⟨x0, x1, x2, x3⟩ : S33)); (case aL => have := HLEN.out; omega); intro v3 w3 ho hb hg hat; have O3 := Aside0.mk ho; have B3 := Aside0.mk hb; clear ho hb hg hat))
        go_roundg (P.length - (j + 1))
        case measure => omega
        case rel => exact ⟨j + 1, by omega, by omega, by go_num, ⟨by rw [HSN.out]; exact O3.out⟩, B3⟩
    · have : j = P.length := by omega
      subst this
      rw [List.take_length, HSP.out.1] at HO
      have HBW2 := Aside0.mk (below_then HBW.out HBW.out.size HB.out)
      go_wp2
      go_ret
      exact ⟨_, rfl, Kd.R_lower HO.out HBW.out.size, HBW2.out⟩

set_option maxRecDepth 100000 in
theorem tells47 (g : Nat) (A1 : Option Addr) (c1 : Nat) (l1 : List S95) (ck top : Int) (w : World) (h : w.heap[g]? = some (.cells #[.slice A1 l1.length c1, .int .i64 ck] 48 (0, 0))) (h2 : w.heap[g + 1]? = some (.cells #[.int .i64 top] 3 (0, 0))) (hr : Kd.C k95 w A1 l1.length l1) (hc : l1.length ≤ c1) :
    TellsE2 47 (.pointer (some ⟨g, 0, none⟩)) (.pointer (some ⟨g + 1, 0, none⟩)) (fun x => decide (top ∈ chain l1 x.f0)) w := by
  intro x W hb
  have hu33 := Try.underlying33
  have hu48 := Try.underlying48
  have hg : W.heap[g]? = some (.cells #[.slice A1 l1.length c1, .int .i64 ck] 48 (0, 0)) := blk_below h hb
  have hg2 : W.heap[g + 1]? = some (.cells #[.int .i64 top] 3 (0, 0)) := blk_below h2 hb
  obtain ⟨x0, x1, x2, x3⟩ := x
  have q0 : (W.alloc (.cells #[.int .i64 x0, .int .i64 x1, .int .i64 x2, .bool x3] 33)).cell? ⟨g, 0, none⟩ = some (.slice A1 l1.length c1) := blk_cell (blk_alloc hg _) 0
  have q1 : (W.alloc (.cells #[.int .i64 x0, .int .i64 x1, .int .i64 x2, .bool x3] 33)).cell? ⟨g, 1, none⟩ = some (.int .i64 ck) := blk_cell (blk_alloc hg _) 1
  have q2 : (W.alloc (.cells #[.int .i64 x0, .int .i64 x1, .int .i64 x2, .bool x3] 33)).cell? ⟨g + 1, 0, none⟩ = some (.int .i64 top) := blk_cell (blk_alloc hg2 _) 0
  have HW := Aside0.mk (fun W' (hW : Below W.heap.size W W') => tree_Within.calls A1 c1 l1 ck x0 top _ W' (Kd.C_below (Kd.C_below hr hb) hW) hc rfl)
  clear hb h h2 hr hc hg hg2
  simp only
  obtain ⟨b, hb⟩ : ∃ b, decide (top ∈ chain l1 x0) = b := ⟨_, rfl⟩
  rw [hb] at HW ⊢
  clear hb
  go_enter Try.func47, Try.ntmps47
  go_wp2_with (go_at_call 20; refine (HW.out _ (by exact (Below.refl _ _).alloc (Nat.le_refl _) _)).mono ?_; rintro e w1 ⟨rfl, hb1⟩; have HB1 := Aside0.mk hb1; clear hb1)
  go_ret
  exact ⟨rfl, below_then ((Below.refl _ _).alloc (Nat.le_refl _) _) (by simp) HB1.out⟩
def opOf (x : S33) : S55 := ⟨x.f1, x.f2⟩
def oplist_Ops.f (l0 : List S33) (l1 : List S95) (a1_1 : Int) (a2 : Int) : Option (List S55) := if l0.all inE = true ∧ l0.length < 1000000000 then some (((opn l0).filter (fun x => decide (a2 ∈ chain l1 x.f0))).map opOf) else none
theorem opn_le (l : List S33) : (opn l).length ≤ l.length := by
  rw [← openL_len]
  unfold openL
  split
  · exact Nat.zero_le _
  · exact outL_len _ _ _
set_option maxRecDepth 100000 in
set_option maxHeartbeats 4000000 in
theorem oplist_Ops.calls (A0 : Option Addr) (c0 : Nat) (l0 : List S33) (A1 : Option Addr) (c1 : Nat) (l1 : List S95) (a1_1 : Int) (a2 : Int) (r : List S55) (w : World) (hr0 : Kd.C k33 w A0 l0.length l0) (hc0 : l0.length ≤ c0) (hr1 : Kd.C k95 w A1 l1.length l1) (hc1 : l1.length ≤ c1) (h : oplist_Ops.f l0 l1 a1_1 a2 = some r) :
    Calls Try.prog 19 #[.agg #[.slice A0 l0.length c0], .agg #[.slice A1 l1.length c1, .int .i64 a1_1], .int .i64 a2] w fun e w' => ∃ v0_ : Value, e = .returned v0_ ∧ Kd.R k55 55 w' w.heap.size (fun _ => True) v0_ r ∧ Below w.heap.size w w' := by
  unfold oplist_Ops.f at h
  by_cases hin : l0.all inE = true ∧ l0.length < 1000000000
  case neg => rw [if_neg hin] at h; cases h
  rw [if_pos hin] at h
  obtain rfl := Option.some.inj h
  clear h
  have hu26 := Try.underlying26
  have hu33 := Try.underlying33
  have hu48 := Try.underlying48
  have hu55 := Try.underlying55
  have hen : ((opn l0).filter (fun x => decide (a2 ∈ chain l1 x.f0))).length ≤ 1000000000 := Nat.le_trans (List.length_filter_le _ _) (Nat.le_trans (opn_le l0) (Nat.le_of_lt hin.2))
  have HE := Aside0.mk (fun g W (hW : Below w.heap.size w W) (hgc : W.heap[g]? = some (.cells #[.slice A1 l1.length c1, .int .i64 a1_1] 48 (0, 0))) (hgd : W.heap[g + 1]? = some (.cells #[.int .i64 a2] 3 (0, 0))) => entries_47 (fun x => decide (a2 ∈ chain l1 x.f0)) (.pointer (some ⟨g, 0, none⟩)) (.pointer (some ⟨g + 1, 0, none⟩)) A0 c0 l0 W (Kd.C_below hr0 hW) hc0 hin.1 hin.2 (tells47 g A1 c1 l1 a1_1 a2 W hgc hgd (Kd.C_below hr1 hW) hc1))
  clear hr0 hc0 hin hr1 hc1
  generalize (opn l0).filter (fun x => decide (a2 ∈ chain l1 x.f0)) = E at *
  go_enter Try.func19, Try.ntmps19
  go_wp2_with (go_at_call 32; refine (HE.out (w.heap.size + 1) _ (by exact (((Below.refl _ w).alloc (Nat.le_refl _) _).alloc (by simp) _).alloc (by simp; omega) _) (by simpa using blk_alloc (blk_new (w.alloc (.cells #[.slice A0 l0.length c0] 26)) (.cells #[.slice A1 l1.length c1, .int .i64 a1_1] 48)) (.cells #[.int .i64 a2] 3)) (by simpa using blk_new ((w.alloc (.cells #[.slice A0 l0.length c0] 26)).alloc (.cells #[.slice A1 l1.length c1, .int .i64 a1_1] 48)) (.cells #[.int .i64 a2] 3))).mono ?_; rintro e w1 ⟨v0, rfl, hv, hb⟩; obtain ⟨Ae, ce, ee⟩ := Kd.R_slice hv; subst ee; have HV := Aside0.mk (Kd.R_reads' hv); have HB0 := Aside0.mk (below_then ((((Below.refl _ w).alloc (Nat.le_refl _) _).alloc (by simp) _).alloc (by simp; omega) _) (by simp; omega) hb); clear hv hb)
  go_loopg [7, 14] E.length (fun gg s7 s14 wr => ∃ (j : Nat), j ≤ E.length ∧ E.length - j ≤ gg ∧ s14 = .int .i64 j ∧ Aside0 (Kd.R k55 55 wr w1.heap.size (fun _ => True) s7 ((E.take j).map opOf)) ∧ Aside0 (Below w1.heap.size w1 wr))
  case atStart =>
    exact ⟨0, Nat.zero_le _, by omega, rfl, ⟨Kd.R_nil _ _ _ _ _⟩, ⟨Below.refl _ _⟩⟩
  case round =>
    obtain ⟨j, hj, hgj, rfl, HO, HB⟩ := hrel
    by_cases hlt : j < E.length
    · obtain ⟨ad, rfl, e0, e1, e2, e3⟩ := at_T33 (Kd.C_below HV.out.2.2 HB.out) (j : Int) (by omega) (by omega)
      have htk : E.take (j + 1) = E.take j ++ [E[j]] := List.take_succ_eq_append_getElem hlt
      rw [rd_at E j hlt, Int.toNat_natCast] at e0 e1 e2 e3
      have hlen : ((E.take j).map opOf).length ≤ 1000000000 := by simp; omega
      generalize E[j] = x at *
      have HTK := Aside0.mk htk
      have HLEN := Aside0.mk hlen
      clear htk hlen
      obtain ⟨x0, x1, x2, x3⟩ := x
      simp only at e0 e1 e2 e3
      go_wp2_with ((with_reducible refine gate_builtin (b := .append) (xs := #[.tmp 18, .tmp 24]) rfl ?_); at_builtin; refine Kd.R_append k55 (w0 := w1) w1.heap.size rfl (.tmp 18) (.tmp 24) 51 55 (.agg #[(.int .i64 0), (.int .i64 0)]) 16 rfl Try.underlying51 info55 rfl (by decide) (by omega) _ ((E.take j).map opOf) (⟨x1, x2⟩ : S55) [.int .i64 x1, .int .i64 x2] (fun _ => True) (fun _ => False) rfl (by first | (go_simp; done) | (go_simp; rfl)) ?aP (fun _ hk => hk.elim) (fun _ _ => trivial) (Kd.R_alloc HO.out _) (HB.out.alloc HB.out.size _) (HB.out.alloc HB.out.size _).size ?aL ?_; (case aP => exact k55_mkM _ _ _ (⟨x1, x2⟩ : S55)); (case aL => have := HLEN.out; omega); intro v3 w3 ho hb hg hat; have O3 := Aside0.mk ho; have B3 := Aside0.mk hb; clear ho hb hg hat)
      go_roundg (E.length - (j + 1))
      case measure => omega
      case rel => exact ⟨j + 1, by omega, by omega, by go_num, ⟨by rw [HTK.out, List.map_append]; exact O3.out⟩, B3⟩
    · have : j = E.length := by omega
      subst this
      rw [List.take_length] at HO
      go_wp2
      go_ret
      exact ⟨_, rfl, Kd.R_lower HO.out HB0.out.size, below_then HB0.out HB0.out.size HB.out⟩
end Go.Proofs.Ytjpoepiidmoegaa.Q
