import Derived.Test.YtnlnglfjehohpaaQ2
namespace Go.Proofs.Ytnlnglfjehohpaa.Q
open Go.RowKit Go.Proofs.YtnlnglfjehohpaaW Go.Proofs.YtnlnglfjehohpaaW.PrintWords Go.Proofs.YtnlnglfjehohpaaW.PrintLast Go.Proofs.YtnlnglfjehohpaaW.PrintMore
set_option linter.unusedVariables false
set_option linter.unusedSimpArgs false

def endStep (st ck : Int) (m : List S35) (x : Int) : List S35 := m.set x.toNat ⟨(rd_T35 m x).f0, st, (rd_T35 m x).f2, ck⟩
theorem endStep_len (st ck : Int) (m : List S35) (x : Int) : (endStep st ck m x).length = m.length := by unfold endStep; rw [List.length_set]
theorem endFold_len (st ck : Int) (ks : List Int) : ∀ m : List S35, (ks.foldl (endStep st ck) m).length = m.length := by
  induction ks with
  | nil => intro m; rfl
  | cons k ks ih => intro m; rw [List.foldl_cons, ih, endStep_len]

theorem put_end {W : World} {base g n cap : Nat} {xs : List S35} (h : Kd.R k35 35 W base (fun _ => True) (.slice (some ⟨g, 0, none⟩) n cap) xs) (i : Int) (h0 : 0 ≤ i) (h1 : i < n) (st ck : Int) :
    (W.cell? ⟨g, i.toNat * 4 + 1, none⟩).isSome = true ∧ (W.cell? ⟨g, i.toNat * 4 + 3, none⟩).isSome = true ∧ W.frozen? ⟨g, i.toNat * 4 + 1, none⟩ = false ∧ W.frozen? ⟨g, i.toNat * 4 + 3, none⟩ = false ∧
    ∃ W2, (W.setCell ⟨g, i.toNat * 4 + 1, none⟩ (.int .i64 st)).setCell ⟨g, i.toNat * 4 + 3, none⟩ (.int .i64 ck) = W2 ∧ Kd.R k35 35 W2 base (fun _ => True) (.slice (some ⟨g, 0, none⟩) n cap) (endStep st ck xs i) ∧ W.grownBy W2 (some g) := by
  obtain ⟨hn, _, _⟩ := Kd.R_reads' h
  obtain ⟨c, hcl, hM, hcc, hfr⟩ := Kd.R_elem h z35 i h0 h1
  obtain rfl := k35_openM hM
  have hS := Kd.R_seg h i h0 h1 (seg := [.int .i64 st]) (j := 1) hcl hcc (show 2 ≤ 4 by decide) (x' := (⟨(rd_T35 xs i).f0, st, (rd_T35 xs i).f2, (rd_T35 xs i).f3⟩ : S35)) (okp := fun k => True ∧ k ≠ g) (k35_mkM _ _ _ (⟨(rd_T35 xs i).f0, st, (rd_T35 xs i).f2, (rd_T35 xs i).f3⟩ : S35)) (fun _ hk => hk)
  have hil : i.toNat < xs.length := by omega
  obtain ⟨c2, hcl2, hM2, hcc2, hfr2⟩ := Kd.R_elem hS.1 z35 i h0 h1
  have hget : (xs.set i.toNat (⟨(rd_T35 xs i).f0, st, (rd_T35 xs i).f2, (rd_T35 xs i).f3⟩ : S35)).getD i.toNat z35 = ⟨(rd_T35 xs i).f0, st, (rd_T35 xs i).f2, (rd_T35 xs i).f3⟩ := by
    rw [List.getD_eq_getElem?_getD, List.getElem?_set_self hil]; rfl
  rw [hget] at hM2
  obtain rfl := k35_openM hM2
  have hS2 := Kd.R_seg hS.1 i h0 h1 (seg := [.int .i64 ck]) (j := 3) hcl2 hcc2 (show 4 ≤ 4 by decide) (x' := (⟨(rd_T35 xs i).f0, st, (rd_T35 xs i).f2, ck⟩ : S35)) (okp := fun k => True ∧ k ≠ g) (k35_mkM _ _ _ (⟨(rd_T35 xs i).f0, st, (rd_T35 xs i).f2, ck⟩ : S35)) (fun _ hk => hk)
  have hx1 := hcc 1 _ rfl
  have hx3 := hcc 3 _ rfl
  refine ⟨?_, ?_, hfr 1, hfr 3, _, rfl, ?_, hS.2.trans hS2.2⟩
  · have := hx1; exact (by rw [show i.toNat * 4 + 1 = i.toNat * k35.sz + 1 from rfl, this]; rfl)
  · have := hx3; exact (by rw [show i.toNat * 4 + 3 = i.toNat * k35.sz + 3 from rfl, this]; rfl)
  · have := hS2.1
    rw [List.set_set] at this
    exact this

def tree_Tree_end.f (l0 : List S35) (a0 : Int) (ks : List Int) (st : Int) : Option (List S35 × Int) :=
  if l0.length < 4398046511104 ∧ ∀ x ∈ ks, 0 ≤ x ∧ x < l0.length then some (ks.foldl (endStep st (wrap64 (a0 + 1))) l0, wrap64 (a0 + 1)) else none

set_option maxRecDepth 100000 in
set_option maxHeartbeats 4000000 in
theorem tree_Tree_end.calls (A0 : Option Addr) (c0 : Nat) (l0 : List S35) (a0 : Int) (A1 : Option Addr) (c1 : Nat) (ks : List Int) (st : Int) (r1 : List S35) (r2 : Int) (w : World) (hr0 : Kd.C k35 w A0 l0.length l0) (hc0 : l0.length ≤ c0) (hr1 : Kd.C (Kd.int .i64) w A1 ks.length ks) (hc1 : ks.length ≤ c1) (h : tree_Tree_end.f l0 a0 ks st = some (r1, r2)) :
    Calls Try.prog 23 #[.agg #[.slice A0 l0.length c0, .int .i64 a0], .slice A1 ks.length c1, .int .i64 st] w fun e w' => ∃ v0_ : Value, e = .returned (.agg #[v0_, .int .i64 r2]) ∧ Kd.R k35 35 w' w.heap.size (fun _ => True) v0_ r1 ∧ Below w.heap.size w w' := by
  unfold tree_Tree_end.f at h
  by_cases hin : l0.length < 4398046511104 ∧ ∀ x ∈ ks, 0 ≤ x ∧ x < l0.length
  case neg => rw [if_neg hin] at h; cases h
  rw [if_pos hin] at h
  obtain ⟨hl, hks⟩ := hin
  simp only [Option.some.injEq, Prod.mk.injEq] at h
  obtain ⟨e1, e2⟩ := h
  have hu := Try.underlying26
  have hu35 := Try.underlying35
  have hmax : ks.length ≤ 9223372036854775807 := hr1.2.1
  have HT := Aside0.mk (fun W (hW : Below w.heap.size w W) => tree_Tree_tick.calls A0 c0 l0 a0 l0 r2 W (Kd.C_below hr0 hW) hc0 (by unfold tree_Tree_tick.f tree_Tx.f; rw [if_pos hl, Option.bind_some, e2]))
  rw [e2] at e1
  have HE1 := Aside0.mk e1
  have HK := Aside0.mk hr1
  have HKS := Aside0.mk hks
  clear hr0 hr1 e1 e2 hks
  obtain ⟨w2, hw2⟩ : ∃ w2, (w.alloc (.cells #[.slice A0 l0.length c0, .int .i64 a0] 26)).alloc (.cells #[.slice none 0 0, .int .i64 0] 26) = w2 := ⟨_, rfl⟩
  have b0 : w2.heap[w.heap.size]? = some (.cells #[.slice A0 l0.length c0, .int .i64 a0] 26 (0, 0)) := by rw [← hw2]; exact blk_alloc (blk_new w _) _
  have b1 : w2.heap[w.heap.size + 1]? = some (.cells #[.slice none 0 0, .int .i64 0] 26 (0, 0)) := by rw [← hw2]; simpa using blk_new (w.alloc (.cells #[.slice A0 l0.length c0, .int .i64 a0] 26)) (.cells #[.slice none 0 0, .int .i64 0] 26)
  have hb2 : Below w.heap.size w w2 := by rw [← hw2]; exact ((Below.refl _ w).alloc (Nat.le_refl _) _).alloc (by simp) _
  have B0 := Aside0.mk b0
  have B1 := Aside0.mk b1
  have HB2 := Aside0.mk hb2
  have HW2 := Aside0.mk hw2
  clear b0 b1 hb2 hw2
  go_enter Try.func23, Try.ntmps23
  go_wp2_with fail
  rw [HW2.out]
  refine (HT.out _ HB2.out).mono ?_
  rintro e w3 ⟨v0, rfl, ho, hb⟩
  have ho := Kd.R_lower ho HB2.out.size
  obtain ⟨A3, c3, rfl⟩ := Kd.R_slice ho
  have hb0 := blk_below B0.out hb
  have hb1 := blk_below B1.out hb
  have c30 := blk_cell hb0 0
  have c31 := blk_cell hb0 1
  have f30 := blk_frozen hb0 0
  have f31 := blk_frozen hb0 1
  have B30 := Aside0.mk hb0
  have B31 := Aside0.mk hb1
  have HO := Aside0.mk ho
  have HB3 := Aside0.mk (below_then HB2.out HB2.out.size hb)
  clear ho hb hb0 hb1
  go_wp2
  obtain ⟨w4, hw4⟩ : ∃ w4, (w3.setCell ⟨w.heap.size, 0, none⟩ (.slice A3 l0.length c3)).setCell ⟨w.heap.size, 1, none⟩ (.int .i64 r2) = w4 := ⟨_, rfl⟩
  rw [hw4]
  have d0 : w4.heap[w.heap.size]? = some (.cells #[.slice A3 l0.length c3, .int .i64 r2] 26 (0, 0)) := by rw [← hw4]; exact blk_set (blk_set B30.out 0 _) 1 _
  have d1 : w4.heap[w.heap.size + 1]? = some (.cells #[.slice none 0 0, .int .i64 0] 26 (0, 0)) := by rw [← hw4]; exact blk_far (blk_far B31.out (by simp) _) (by simp) _
  have dB : Below w.heap.size w w4 := by rw [← hw4]; exact (HB3.out.setCell (Nat.le_refl _) _).setCell (Nat.le_refl _) _
  have dO : Kd.R k35 35 w4 w.heap.size (fun _ => True) (.slice A3 l0.length c3) l0 := by rw [← hw4]; exact Kd.R_set (Kd.R_set HO.out B30.out (by decide) 0 _) (blk_set B30.out 0 _) (by decide) 1 _
  have D0 := Aside0.mk d0
  have D1 := Aside0.mk d1
  have DB := Aside0.mk dB
  have DO := Aside0.mk dO
  clear d0 d1 dB dO hw4 c30 c31 f30 f31 B30 B31 HO HB3
  go_loopg [13] ks.length (fun gg s13 wr => ∃ (j : Nat), j ≤ ks.length ∧ ks.length - j ≤ gg ∧ s13 = .int .i64 j ∧ Aside0 (Kd.R k35 35 wr w.heap.size (fun _ => True) (.slice A3 l0.length c3) ((ks.take j).foldl (endStep st r2) l0)) ∧ Aside0 (wr.heap[w.heap.size]? = some (.cells #[.slice A3 l0.length c3, .int .i64 r2] 26 (0, 0))) ∧ Aside0 (wr.heap[w.heap.size + 1]? = some (.cells #[.slice none 0 0, .int .i64 0] 26 (0, 0))) ∧ Aside0 (Below w.heap.size w wr))
  case atStart =>
    exact ⟨0, Nat.zero_le _, by omega, rfl, DO, D0, D1, DB⟩
  case round =>
    obtain ⟨j, hj, hgj, rfl, RO, R0, R1, RB⟩ := hrel
    by_cases hlt : j < ks.length
    · obtain ⟨ad, rfl, hc⟩ := Kd.at_int (Kd.C_below HK.out RB.out) (j : Int) (by omega) (by omega)
      have hx : rd ks (j : Int) = ks[j] := by simp [rd, List.getD_eq_getElem?_getD, List.getElem?_eq_getElem hlt]
      have hcell : wr.cell? (ad.add j) = some (.int .i64 ks[j]) := by rw [← hx]; simpa using hc
      have hs : (ks.take (j + 1)).foldl (endStep st r2) l0 = endStep st r2 ((ks.take j).foldl (endStep st r2) l0) ks[j] := by
        rw [List.take_succ_eq_append_getElem hlt, List.foldl_append]; rfl
      obtain ⟨i1, i2⟩ := HKS.out _ (List.getElem_mem hlt)
      have HS := Aside0.mk hs
      clear hc hx hs
      generalize ks[j] = x at *
      obtain ⟨m, hm⟩ : ∃ m, (ks.take j).foldl (endStep st r2) l0 = m := ⟨_, rfl⟩
      have hml : m.length = l0.length := by rw [← hm, endFold_len]
      rw [hm] at RO HS
      clear hm
      obtain ⟨g, cg, hv, hbg, hlg, cells, hcg⟩ := Kd.R_form RO.out (by omega)
      injection hv with hA hn hcc
      subst hA; subst hcc
      obtain ⟨p1, p2, p3, p4, W2, hW2, hRW, hgW⟩ := put_end RO.out x i1 i2 st r2
      obtain ⟨v1, hv1⟩ := Option.isSome_iff_exists.1 p1
      obtain ⟨v3, hv3⟩ := Option.isSome_iff_exists.1 p2
      have n1 : w.heap.size ≠ g := blk_ne R0.out hcg (by decide)
      have n2 : g ≠ w.heap.size := fun e => n1 e.symm
      have q0 : wr.cell? ⟨w.heap.size, 0, none⟩ = some (.slice (some ⟨g, 0, none⟩) l0.length c3) := blk_cell R0.out 0
      have q1 : wr.cell? ⟨w.heap.size, 1, none⟩ = some (.int .i64 r2) := blk_cell R0.out 1
      have HW2 := Aside0.mk hW2
      have X0 := Aside0.mk (blk_grown R0.out hgW (fun e => by injection e with e; exact n1 e))
      have X1 := Aside0.mk (blk_grown R1.out hgW (fun e => by injection e with e; exact blk_ne R1.out hcg (by decide) e))
      have XB := Aside0.mk (RB.out.grown hgW (by exact RB.out.size) (fun k hk => by injection hk with hk; subst hk; exact hbg))
      have XR := Aside0.mk hRW
      clear hgW hRW hW2 p1 p2 hcg hbg hlg hn
      go_wp2_with fail
      go_region
      all_goals
        go_wp2
        go_roundg (ks.length - (j + 1))
        case measure => omega
        case rel => exact ⟨j + 1, by omega, by omega, by go_num, ⟨by rw [HW2.out, HS.out]; exact Kd.R_drew XR.out⟩, ⟨by rw [HW2.out]; exact blk_drew X0.out⟩, ⟨by rw [HW2.out]; exact blk_drew X1.out⟩, ⟨by rw [HW2.out]; exact below_drew1 XB.out⟩⟩
    · have : j = ks.length := by omega
      subst this
      have hr := HE1.out
      rw [List.take_length, hr] at RO
      have q0 := blk_cell R0.out 0
      have q1 := blk_cell R0.out 1
      have q2 := blk_cell R1.out 0
      have q3 := blk_cell R1.out 1
      have g2 := blk_frozen R1.out 0
      have g3 := blk_frozen R1.out 1
      have RO2 := RO
      clear hr q2 q3
      have q2 := blk_cell R1.out 0
      have q3 := blk_cell R1.out 1
      go_wp2
      refine bodyPost_ret (results_cell_row rfl _ _ (w.heap.size + 1) 26 #[.slice A3 l0.length c3, .int .i64 r2] (0, 0) _ rfl (blk_set (blk_set R1.out 0 (.slice A3 l0.length c3)) 1 (.int .i64 r2)) Try.underlying26 rfl (by kernel_rfl)) rfl ?_
      exact ⟨_, rfl, Kd.R_set (Kd.R_set RO.out R1.out (by decide) 0 _) (blk_set R1.out 0 _) (by decide) 1 _, (RB.out.setCell (by simp) _).setCell (by simp) _⟩
end Go.Proofs.Ytnlnglfjehohpaa.Q
