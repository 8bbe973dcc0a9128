/- slices.Insert of one into a row of the call's own: where there is no room; at the end; all. -/
import Derived.Test.YthcikbbglpdjhaaIIP
import Derived.Test.YthcikbbglpdjhaaQA
namespace Go.Proofs.Ythcikbbglpdjhaa.Q
open Go.RowKit Go.Proofs.YthcikbbglpdjhaaW Go.Proofs.YthcikbbglpdjhaaW.PrintWords Go.Proofs.YthcikbbglpdjhaaW.PrintLast Go.Proofs.YthcikbbglpdjhaaW.PrintMore
set_option linter.unusedVariables false
set_option linter.unusedSimpArgs false
theorem ins_row (xs ex z1 z2 : List Value) (n i : Nat) (hl : xs.length = n * 2) (hi : i < n) (h4 : ex.length = 2) (hz : z1.length = (n + 1 - i) * 2) :
    ((((xs.take (i * 2) ++ z1 ++ z2).take (i * 2) ++ ex ++ (xs.take (i * 2) ++ z1 ++ z2).drop (i * 2 + 2)).take ((i + 1) * 2) ++ xs.drop (i * 2) ++ ((xs.take (i * 2) ++ z1 ++ z2).take (i * 2) ++ ex ++ (xs.take (i * 2) ++ z1 ++ z2).drop (i * 2 + 2)).drop ((i + 1) * 2 + (n - i) * 2))).take ((n + 1) * 2) = xs.take (i * 2) ++ ex ++ xs.drop (i * 2) := by
  have l1 : (xs.take (i * 2)).length = i * 2 := by rw [List.length_take]; omega
  have hd : (xs.drop (i * 2)).length = (n - i) * 2 := by rw [List.length_drop, hl]; omega
  have e1 : (xs.take (i * 2) ++ z1 ++ z2).take (i * 2) = xs.take (i * 2) := by rw [List.append_assoc, List.take_left' l1]
  rw [e1]
  have e2 : (xs.take (i * 2) ++ ex ++ (xs.take (i * 2) ++ z1 ++ z2).drop (i * 2 + 2)).take ((i + 1) * 2) = xs.take (i * 2) ++ ex := by
    rw [List.take_left' (by rw [List.length_append, l1, h4]; omega)]
  rw [e2, List.take_left' (by rw [List.length_append, List.length_append, l1, h4, hd]; omega)]
set_option maxHeartbeats 4000000 in
set_option maxRecDepth 100000 in
theorem ins_grow (b n c i vb vc : Nat) (l : List GI) (x : GI) (base : Nat) (ok : Nat → Prop) (w0 w : World) (HO : kGI.R 44 w base ok (.slice (some ⟨b, 0, none⟩) n c) l) (hB : Below base w0 w) (hbase : base ≤ w.heap.size) (hfr : ∀ k, w.heap.size ≤ k → ok k) (hi : i < n) (hroom : c < n + 1) (hvb : vb ≠ b) (cv : Array Value) (hv : w.heap[vb]? = some (.cells cv 44 (0, 0))) (hcv : cv.toList.take 2 = encGI x) (hnl : n < 4000000000000) :
    Calls Try.prog 36 #[.slice (some ⟨b, 0, none⟩) n c, .int .i64 i, .slice (some ⟨vb, 0, none⟩) 1 vc] w fun e w' =>
      ∃ v', e = .returned v' ∧ kGI.R 44 w' base ok v' (l.take i ++ x :: l.drop i) ∧ Below base w0 w' ∧ Kept w w' (fun k => k = b) ∧ (v'.ownBlock = some b ∨ ∃ g, v'.ownBlock = some g ∧ w.heap.size ≤ g) := by
  obtain ⟨hok, hown⟩ := flatGI.1 HO
  obtain ⟨hnn, _, _⟩ := Kd.R_reads' HO
  rw [← hnn] at hown
  obtain ⟨cur, hbb, hcur, hnc, hcm, hsz, htk⟩ := own_cells hown
  obtain ⟨xs, hxs⟩ : ∃ xs, l.flatMap encGI = xs := ⟨_, rfl⟩
  have hone := encGI_one l
  have hlen := encGI_len l
  rw [hxs] at htk hone hlen
  rw [← hnn] at hlen
  have h4 : (encGI x).length = 2 := rfl
  have hszE : (Try.prog.info? 44).map (·.size) = some 2 := by kernel_rfl
  have hcn : c = n := by omega
  subst hcn
  have hcells : ∀ j v, xs[j]? = some v → w.cell? ⟨b, j, none⟩ = some v := fun j v hj => by
    rw [cell_of_row w b j cur 44 (0, 0) hcur]
    have hjl := (List.getElem?_eq_some_iff.1 hj).1
    rw [← htk, List.getElem?_take, if_pos (by omega)] at hj
    simpa using hj
  have hvc : ∀ j v, (encGI x)[j]? = some v → w.cell? ⟨vb, j, none⟩ = some v := fun j v hj => by
    rw [cell_of_row w vb j cv 44 (0, 0) hv]
    have hjl := (List.getElem?_eq_some_iff.1 hj).1
    rw [← hcv, List.getElem?_take, if_pos (by omega)] at hj
    simpa using hj
  obtain ⟨i0, hi0, hz0, hzs, hzb⟩ := info_parts info44
  have hbw : b < w.heap.size := blk_lt hcur
  have hvw : vb < w.heap.size := blk_lt hv
  have hkk : (c : Int) + 1 - (i : Int) = ((c + 1 - i : Nat) : Int) := by omega
  have hik : i + (c + 1 - i) = c + 1 := by omega
  have hold : (Builtin.firstCells i0.size i (.slice (some ⟨b, 0, none⟩) i c)).run Try.prog w.drew = .ok (xs.take (i * 2)).toArray w.drew := by
    rw [hzs]
    exact run_firstCells_some w.drew 2 i ⟨b, 0, none⟩ i c (xs.take (i * 2)) (by rw [List.length_take]; omega) (fun j v hj => by
      rw [Addr.add_lit, Nat.zero_add]
      rw [List.getElem?_take] at hj
      split at hj
      · exact hcells j v hj
      · cases hj)
  obtain ⟨z, hzz⟩ : ∃ z : Value, z = .agg #[.int .i64 0, .slice none 0 0] := ⟨_, rfl⟩
  have hzc : z.cells.size = 2 := by rw [hzz]; rfl
  have hrz : ∀ ty, (Builtin.append_ #[24, 3] ty #[.slice (some ⟨b, 0, none⟩) i c, .int .i64 ((c : Int) + 1 - (i : Int))]).run Try.prog w =
      .ok (.slice (some ⟨w.heap.size, 0, none⟩) (c + 1) (grownCap w (c + 1) c 44)) (w.drew.alloc (.cells ((xs.take (i * 2)).toArray ++ Builtin.zeroCells z.cells (c + 1 - i) ++ Builtin.zeroCells z.cells (grownCap w (c + 1) c 44 - (c + 1))) 44)) := fun ty => by
    have h := Lib.run_append_grow_zeros w 24 3 ty 44 i0 z .i64 .i64 Try.underlying24 Try.underlying3 hi0 (by rw [hz0, hzz]) (some ⟨b, 0, none⟩) i c (xs.take (i * 2)) hold (c + 1 - i) (by omega) (by omega) (by omega) (by omega) (by rw [hzb]; omega) (by rw [hzb, hik]; exact growslice_fits hroom (by omega))
    rw [hik] at h
    rw [hkk]
    exact h
  obtain ⟨G, hG⟩ : ∃ G, G = grownCap w (c + 1) c 44 := ⟨_, rfl⟩
  rw [← hG] at hrz
  have hGn : c + 1 ≤ G := by rw [hG]; exact grownCap_ge w _ _ _
  have hGm : G ≤ maxLen := by rw [hG]; exact grownCap_le_maxLen w (c + 1) c 44 (by unfold maxLen; omega)
  obtain ⟨z1, hz1⟩ : ∃ z1, Builtin.zeroCells z.cells (c + 1 - i) = z1 := ⟨_, rfl⟩
  obtain ⟨z2, hz2⟩ : ∃ z2, Builtin.zeroCells z.cells (G - (c + 1)) = z2 := ⟨_, rfl⟩
  have hz1l : z1.toList.length = (c + 1 - i) * 2 := by rw [← hz1, zc_len, hzc]
  have hz2l : z2.toList.length = (G - (c + 1)) * 2 := by rw [← hz2, zc_len, hzc]
  rw [hz1, hz2] at hrz
  obtain ⟨N, hN⟩ : ∃ N, w.heap.size = N := ⟨_, rfl⟩
  obtain ⟨ROW, hROW⟩ : ∃ ROW : Array Value, (xs.take (i * 2)).toArray ++ z1 ++ z2 = ROW := ⟨_, rfl⟩
  rw [hROW] at hrz
  have hRl : ROW.toList = xs.take (i * 2) ++ z1.toList ++ z2.toList := by rw [← hROW]; simp
  have hRs : ROW.size = G * 2 := by rw [← Array.length_toList, hRl, List.length_append, List.length_append, hz1l, hz2l, List.length_take]; omega
  obtain ⟨W1, hW1⟩ : ∃ W1, w.drew.alloc (.cells ROW 44) = W1 := ⟨_, rfl⟩
  rw [hW1] at hrz
  have hc1 : W1.heap[N]? = some (.cells ROW 44 (0, 0)) := by rw [← hW1, ← hN]; exact blk_new w.drew _
  have hb1 : Below w.heap.size w W1 := by rw [← hW1]; exact (below_drew1 (Below.refl _ w)).alloc (Nat.le_refl _) _
  have hs1 : W1.heap.size = N + 1 := by rw [← hW1, World.size_alloc, ← hN]; rfl
  rw [hN] at hrz
  have hcur1 : W1.heap[b]? = some (.cells cur 44 (0, 0)) := blk_below hcur hb1
  have hv1 : W1.heap[vb]? = some (.cells cv 44 (0, 0)) := blk_below hv hb1
  have hmin2 : Nat.min 1 (c + 1 - i) = 1 := by simp only [Nat.min_def]; split <;> omega
  have hcp2 : ∀ ty dc, (Builtin.copy_ #[24, 24] ty #[.slice (some ⟨N, i * 2, none⟩) (c + 1 - i) dc, .slice (some ⟨vb, 0, none⟩) 1 vc]).run Try.prog W1 = .ok (goInt (1 : Nat)) (W1.setCells N (i * 2) (encGI x)) := fun ty dc => by
    have := run_copy_k (P := Try.prog) 2 W1 24 24 ty 44 N (i * 2) (c + 1 - i) dc ⟨vb, 0, none⟩ 1 vc (encGI x) Try.underlying24 hszE (by rw [hmin2]; rfl)
      (fun j v hj => by
        rw [Addr.add_lit, Nat.zero_add, cell_of_row W1 vb j cv 44 (0, 0) hv1]
        have := hvc j v hj
        rwa [cell_of_row w vb j cv 44 (0, 0) hv] at this)
      (fun j hj => by
        rw [cell_of_row W1 N (i * 2 + j) ROW 44 (0, 0) hc1]; simp; omega) (fun j hj => blk_frozen hc1 _) (fun v hv => encGI_one [x] v (by simpa using hv))
    rw [hmin2] at this; exact this
  obtain ⟨cur2, hc2, hs2, ht2⟩ := setCells_row (encGI x) (i * 2) W1 ROW hc1 (by omega)
  obtain ⟨W2, hW2⟩ : ∃ W2, W1.setCells N (i * 2) (encGI x) = W2 := ⟨_, rfl⟩
  have hg2 : W1.grownBy W2 (some N) := by
    obtain ⟨s1, s2, s3, s4⟩ := setCells_same N (encGI x) (i * 2) W1
    rw [← hW2]
    exact ⟨s1, s2, s3, by rw [s4]; exact Nat.le_refl _, fun k _ hk => setCells_far (encGI x) _ k (fun he => hk (by rw [he]))⟩
  rw [hW2] at hc2 hcp2
  have hbN : b ≠ N := by omega
  have hcur2 : W2.heap[b]? = some (.cells cur 44 (0, 0)) := (hg2.block b (by omega) (fun e => by injection e with e; exact hbN e)).trans hcur1
  have hdl : (xs.drop (i * 2)).length = (c - i) * 2 := by rw [List.length_drop, hlen]; omega
  have hmin : Nat.min (c - i) (c + 1 - (i + 1)) = c - i := by simp only [Nat.min_def]; split <;> omega
  have hci : c + 1 - (i + 1) = c - i := by omega
  rw [hci] at hmin
  have hcp1 : ∀ ty dc sc, (Builtin.copy_ #[24, 24] ty #[.slice (some ⟨N, (i + 1) * 2, none⟩) (c - i) dc, .slice (some ⟨b, i * 2, none⟩) (c - i) sc]).run Try.prog W2.drew = .ok (goInt ((c - i : Nat))) (W2.drew.setCells N ((i + 1) * 2) (xs.drop (i * 2))) := fun ty dc sc => by
    have := run_copy_k (P := Try.prog) 2 W2.drew 24 24 ty 44 N ((i + 1) * 2) (c - i) dc ⟨b, i * 2, none⟩ (c - i) sc (xs.drop (i * 2)) Try.underlying24 hszE (by rw [hdl, hmin])
      (fun j v hj => by
        rw [Addr.add_lit, show W2.drew.cell? ⟨b, i * 2 + j, none⟩ = W2.cell? ⟨b, i * 2 + j, none⟩ from rfl, cell_of_row W2 b (i * 2 + j) cur 44 (0, 0) hcur2]
        have := hcells (i * 2 + j) v (by rwa [List.getElem?_drop] at hj)
        rwa [cell_of_row w b (i * 2 + j) cur 44 (0, 0) hcur] at this)
      (fun j hj => by
        rw [show W2.drew.cell? ⟨N, (i + 1) * 2 + j, none⟩ = W2.cell? ⟨N, (i + 1) * 2 + j, none⟩ from rfl, cell_of_row W2 N ((i + 1) * 2 + j) cur2 44 (0, 0) hc2]; simp; omega) (fun j hj => blk_frozen (w := W2) hc2 _) (fun v hv => hone v (List.mem_of_mem_drop hv))
    rw [hmin] at this; exact this
  obtain ⟨cur3, hc3, hs3, ht3⟩ := setCells_row (xs.drop (i * 2)) ((i + 1) * 2) W2.drew cur2 hc2 (by omega)
  obtain ⟨W3, hW3⟩ : ∃ W3, W2.drew.setCells N ((i + 1) * 2) (xs.drop (i * 2)) = W3 := ⟨_, rfl⟩
  have hg3 : W2.grownBy W3 (some N) := by
    obtain ⟨s1, s2, s3, s4⟩ := setCells_same N (xs.drop (i * 2)) ((i + 1) * 2) W2.drew
    rw [← hW3]
    exact ⟨s1, s2, s3, by rw [s4]; exact Nat.le_refl _, fun k _ hk => setCells_far (w := W2.drew) (xs.drop (i * 2)) _ k (fun he => hk (by rw [he]))⟩
  rw [hW3] at hc3 hcp1
  have hL : (l.take i ++ x :: l.drop i).length = c + 1 := by rw [List.length_append, List.length_take, List.length_cons, List.length_drop]; omega
  have hfin : kGI.R 44 W3 base ok (.slice (some ⟨N, 0, none⟩) (c + 1) G) (l.take i ++ x :: l.drop i) := by
    refine flatGI.2 ⟨fun k hk => ?_, ?_⟩
    · injection hk with hk
      subst hk
      exact hfr _ (by rw [hN]; exact Nat.le_refl _)
    rw [hL]
    refine ⟨by rw [encGI_len, hL], .inr ⟨N, G, cur3, rfl, by omega, hc3, hGn, hGm, by omega, ?_⟩⟩
    rw [hdl] at ht3
    rw [h4] at ht2
    have key := ins_row xs (encGI x) z1.toList z2.toList c i hlen hi h4 hz1l
    rw [← hRl] at key
    rw [← ht2] at key
    rw [← ht3] at key
    rw [key, ← hxs, encGI_take, encGI_drop, List.flatMap_append, List.flatMap_cons, List.append_assoc]
  have hgg := hg2.trans hg3
  have HFIN := Aside0.mk hfin
  have HBL := Aside0.mk (show Below base w0 W3 from (below_then hB hbase hb1).grown hgg (by have := hb1.size; omega) (fun k hk => by injection hk with hk; omega))
  have HKP := Aside0.mk (show Kept w W3 (fun k => k = b) from Kept.of_grown hgg (Kept.of_below hb1 _) (fun k hk => .inr (by injection hk with hk; omega)))
  have HNN := Aside0.mk (show w.heap.size ≤ N by omega)
  clear hfin hgg hB hbase hW1 hW2 hW3 hg2 hg3 hc1 hc2 hc3 ht2 ht3 hs2 hs3 hs1 hv1 hcells hvc hone hlen hxs htk hcur hcur1 hcur2 hown HO hok hv hcv hbb hb1 hold hRl hRs hROW hz1 hz2 hz1l hz2l hzz hzc hL hdl hnn hfr hi0 hz0 hzs hzb hG hkk hik hmin hci hmin2 hbN
  have hw1 : IntKind.i64.wrap ((i : Int) + 1) = (i : Int) + 1 := by rw [IntKind.wrap_i64]; omega
  have hq2 : ¬ ((i : Int) = (c : Int)) := by omega
  have hq3 : (c : Int) < (c : Int) + 1 := by omega
  have hq1 : (0 : Int) ≤ (i : Int) + 1 := by omega
  have hin : i ≤ c := by omega
  have htn : ((i : Int) + 1).toNat = i + 1 := by omega
  have hGi : ¬ (G = i) := by omega
  have hGim : ¬ (G = i + 1) := by omega
  have hb4 : ¬ (c = i) := by omega
  have hG63 : G ≤ 9223372036854775807 := by unfold maxLen at hGm; omega
  have mixed : Try.prog.follows .mixedOrders = true := by kernel_rfl
  go_enter Try.func36, Try.ntmps36
  go_wp2_with (first
    | (at_builtin; refine Lib.wpList_append_run _ rfl _ _ _ _ rfl _ _ rfl rfl _ _ (hrz _) ?_)
    | (at_builtin; refine wpList_copy_runI _ rfl _ _ 24 24 rfl _ _ rfl rfl (hcp2 _ _) ?_))
  go_region_law_o (refine step_copy_runI rfl _ _ 24 24 rfl _ _ (by simp [Act.eval, Act.put]) (by simp [Act.eval, Act.put]) (hcp1 _ _ _) ?_)
  go_wp2
  go_ret
  exact ⟨_, rfl, HFIN.out, HBL.out, HKP.out, .inr ⟨N, rfl, HNN.out⟩⟩
set_option maxHeartbeats 4000000 in
set_option maxRecDepth 100000 in
theorem ins_end (A : Option Addr) (n c vb vc : Nat) (l : List GI) (x : GI) (base bv : Nat) (ok okv : Nat → Prop) (w0 w : World) (HO : kGI.R 44 w base ok (.slice A n c) l) (hB : Below base w0 w) (hbase : base ≤ w.heap.size) (hfr : ∀ k, w.heap.size ≤ k → ok k) (HV : kGI.R 44 w bv okv (.slice (some ⟨vb, 0, none⟩) 1 vc) [x]) (hvb : A.map (·.block) ≠ some vb) (hnl : n < 4000000000000) :
    Calls Try.prog 36 #[.slice A n c, .int .i64 n, .slice (some ⟨vb, 0, none⟩) 1 vc] w fun e w' =>
      ∃ v', e = .returned v' ∧ kGI.R 44 w' base ok v' (l ++ [x]) ∧ Below base w0 w' ∧ w.grownBy w' (Value.slice A n c).ownBlock ∧ (v'.ownBlock = (Value.slice A n c).ownBlock ∨ ∃ g, v'.ownBlock = some g ∧ w.heap.size ≤ g) := by
  obtain ⟨hnn, hnc, _⟩ := Kd.R_reads' HO
  have HOO := Aside0.mk HO
  have HVV := Aside0.mk (Kd.R_reads' HV).2.2
  have HBB := Aside0.mk hB
  have HBASE := Aside0.mk hbase
  have HFR := Aside0.mk hfr
  have HL := Aside0.mk (show l.length < 4000000000000 by omega)
  have HE := Aside0.mk (show ∀ k, (Value.slice A n c).ownBlock = some k → (Value.slice (some ⟨vb, 0, none⟩) 1 vc).ownBlock ≠ some k from fun k hk he => by
    injection he with he
    subst he
    cases A with
    | none => cases hk
    | some a => injection hk with hk; exact hvb (by simpa using hk))
  have hcm : c ≤ 9223372036854775807 := by
    obtain ⟨inner, ho⟩ := Kd.R_own HO
    rcases ho.2 with ⟨hv, _⟩ | ⟨g', cap', cur, hv, hb, hh, _, hcm, _⟩
    · injection hv with _ _ hc; omega
    · injection hv with _ _ hc; subst hc; unfold maxLen at hcm; omega
  have hform : (A = none ∧ n = 0 ∧ c = 0) ∨ ∃ b, A = some ⟨b, 0, none⟩ := by
    obtain ⟨inner, ho⟩ := Kd.R_own HO
    rcases ho.2 with ⟨hv, _⟩ | ⟨g', cap', cur, hv, hb, hh, _, hcm, _⟩
    · injection hv with h1 h2 h3; exact .inl ⟨h1, h2, h3⟩
    · injection hv with h1; exact .inr ⟨g', h1⟩
  clear HO hB hbase hfr HV hvb hnn
  rcases hform with ⟨rfl, rfl, rfl⟩ | ⟨b, rfl⟩
  · go_enter Try.func36, Try.ntmps36
    go_wp2_with ((with_reducible refine gate_builtin (b := .append) (xs := #[.tmp 23, .tmp 24]) rfl ?_); at_builtin; refine Kd.R_append_rows kGI (w0 := w0) base rfl (.tmp 23) (.tmp 24) 24 44 (.agg #[.int .i64 0, .slice none 0 0]) 32 rfl Try.underlying24 info44 rfl (by decide) (by omega) (.slice none 0 0) l [x] _ _ _ ok (fun _ => False) rfl rfl ?aO ?aR (fun _ _ h => h) (fun _ h => h.elim) ?aF ?aB ?aS ?aL ?_; (case aO => exact HOO.out); (case aR => exact HVV.out); (case aF => exact HFR.out); (case aB => exact HBB.out); (case aS => exact HBASE.out); (case aL => have := HL.out; omega); intro v2 w2 ho hb hg hat; have HO2 := Aside0.mk ho; have HB2 := Aside0.mk hb; have HG2 := Aside0.mk hg; have HAT := Aside0.mk hat; clear ho hb hg hat)
    go_ret
    exact ⟨_, rfl, HO2.out, HB2.out, HG2.out, HAT.out⟩
  · go_enter Try.func36, Try.ntmps36
    go_wp2_with ((with_reducible refine gate_builtin (b := .append) (xs := #[.tmp 23, .tmp 24]) rfl ?_); at_builtin; refine Kd.R_append_rows kGI (w0 := w0) base rfl (.tmp 23) (.tmp 24) 24 44 (.agg #[.int .i64 0, .slice none 0 0]) 32 rfl Try.underlying24 info44 rfl (by decide) (by omega) (.slice (some ⟨b, 0, none⟩) n c) l [x] _ _ _ ok (fun _ => False) rfl rfl ?aO ?aR (fun _ _ h => h) (fun _ h => h.elim) ?aF ?aB ?aS ?aL ?_; (case aO => exact HOO.out); (case aR => exact HVV.out); (case aF => exact HFR.out); (case aB => exact HBB.out); (case aS => exact HBASE.out); (case aL => have := HL.out; omega); intro v2 w2 ho hb hg hat; have HO2 := Aside0.mk ho; have HB2 := Aside0.mk hb; have HG2 := Aside0.mk hg; have HAT := Aside0.mk hat; clear ho hb hg hat)
    all_goals (go_ret; exact ⟨_, rfl, HO2.out, HB2.out, HG2.out, HAT.out⟩)
theorem insert_any (v : Value) (i vb vc : Nat) (l : List GI) (x : GI) (base bv : Nat) (ok okv : Nat → Prop) (w0 w : World) (HO : kGI.R 44 w base ok v l) (hB : Below base w0 w) (hbase : base ≤ w.heap.size) (hfr : ∀ k, w.heap.size ≤ k → ok k) (HV : kGI.R 44 w bv okv (.slice (some ⟨vb, 0, none⟩) 1 vc) [x]) (hvb : v.ownBlock ≠ some vb) (hi : i ≤ l.length) (hnl : l.length < 4000000000000) :
    Calls Try.prog 36 #[v, .int .i64 i, .slice (some ⟨vb, 0, none⟩) 1 vc] w fun e w' =>
      ∃ v', e = .returned v' ∧ kGI.R 44 w' base ok v' (l.take i ++ x :: l.drop i) ∧ Below base w0 w' ∧ Kept w w' (fun k => v.ownBlock = some k) ∧ (v'.ownBlock = v.ownBlock ∨ ∃ g, v'.ownBlock = some g ∧ w.heap.size ≤ g) := by
  obtain ⟨A, c, rfl⟩ := Kd.R_slice HO
  by_cases he : i = l.length
  · subst he
    rw [List.take_length, List.drop_length]
    refine (ins_end A l.length c vb vc l x base bv ok okv w0 w HO hB hbase hfr HV (fun h => hvb (by cases A with | none => cases h | some a => simpa [Value.ownBlock] using h)) hnl).mono ?_
    rintro e w' ⟨v', h1, h2, h3, h4, h5⟩
    exact ⟨v', h1, h2, h3, Kept.of_grown h4 (Kept.refl _ _) (fun k hk => .inl hk), h5⟩
  · obtain ⟨g, cap, hv, _⟩ := Kd.R_form HO (by omega)
    injection hv with hA hn hc
    subst hA; subst hc
    obtain ⟨_, hown⟩ := flatGI.1 HV
    obtain ⟨cv, _, hcv, _, _, _, htk⟩ := own_cells hown
    have htk' : cv.toList.take 2 = encGI x := by rw [show (2 : Nat) = 1 * 2 by rfl, htk]; simp
    have hne : vb ≠ g := fun e => hvb (by rw [e]; rfl)
    by_cases hr : l.length + 1 ≤ c
    · refine (ins_shift g l.length c i vb vc l x base ok w0 w HO hB hbase (by omega) hr hne cv hcv htk' (by omega)).mono ?_
      rintro e w' ⟨v', h1, h2, h3, h4, h5⟩
      exact ⟨v', h1, h2, h3, h4.mono (fun k hk => by rw [hk]; rfl), .inl h5⟩
    · refine (ins_grow g l.length c i vb vc l x base ok w0 w HO hB hbase hfr (by omega) (by omega) hne cv hcv htk' hnl).mono ?_
      rintro e w' ⟨v', h1, h2, h3, h4, h5⟩
      exact ⟨v', h1, h2, h3, h4.mono (fun k hk => by rw [hk]; rfl), h5⟩
end Go.Proofs.Ythcikbbglpdjhaa.Q
