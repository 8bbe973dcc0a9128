/- slices.Insert of one into a row of the call's own: where there is room, and where there is none. -/
import Derived.Test.YthcikbbglpdjhaaIIN
import Derived.Shelf.RegionOpenPlain
namespace Go.Proofs.Ythcikbbglpdjhaa.Q
open Go.RowKit Go.Proofs.YthcikbbglpdjhaaW Go.Proofs.YthcikbbglpdjhaaW.PrintWords Go.Proofs.YthcikbbglpdjhaaW.PrintLast Go.Proofs.YthcikbbglpdjhaaW.PrintMore
set_option linter.unusedVariables false
set_option linter.unusedSimpArgs false
theorem ins_cells (cur xs ex : List Value) (n i : Nat) (hx : xs = cur.take (n * 2)) (hc : (n + 1) * 2 ≤ cur.length) (hi : i < n) (h4 : ex.length = 2) :
    (((cur.take ((i + 1) * 2) ++ xs.drop (i * 2) ++ cur.drop ((i + 1) * 2 + (n - i) * 2)).take (i * 2) ++ ex ++ (cur.take ((i + 1) * 2) ++ xs.drop (i * 2) ++ cur.drop ((i + 1) * 2 + (n - i) * 2)).drop (i * 2 + 2))).take ((n + 1) * 2) = xs.take (i * 2) ++ ex ++ xs.drop (i * 2) := by
  have hl : xs.length = n * 2 := by rw [hx, List.length_take]; omega
  have hd : (xs.drop (i * 2)).length = (n - i) * 2 := by rw [List.length_drop, hl]; omega
  have e1 : (cur.take ((i + 1) * 2) ++ xs.drop (i * 2) ++ cur.drop ((i + 1) * 2 + (n - i) * 2)).take (i * 2) = xs.take (i * 2) := by
    rw [List.append_assoc, List.take_append_of_le_length (by rw [List.length_take]; omega), List.take_take, Nat.min_eq_left (by omega), hx, List.take_take, Nat.min_eq_left (by omega)]
  have e2 : (cur.take ((i + 1) * 2) ++ xs.drop (i * 2) ++ cur.drop ((i + 1) * 2 + (n - i) * 2)).drop (i * 2 + 2) = xs.drop (i * 2) ++ cur.drop ((i + 1) * 2 + (n - i) * 2) := by
    rw [List.append_assoc, List.drop_left' (by rw [List.length_take]; omega)]
  have l1 : (xs.take (i * 2)).length = i * 2 := by rw [List.length_take]; omega
  rw [e1, e2, ← List.append_assoc (xs.take (i * 2) ++ ex), List.take_left' (by rw [List.length_append, List.length_append, l1, h4, hd]; omega)]
set_option maxHeartbeats 4000000 in
set_option maxRecDepth 100000 in
theorem ins_shift (b n c i vb vc : Nat) (l : List GI) (x : GI) (base : Nat) (ok : Nat → Prop) (w0 w : World) (HO : kGI.R 44 w base ok (.slice (some ⟨b, 0, none⟩) n c) l) (hB : Below base w0 w) (hbase : base ≤ w.heap.size) (hi : i < n) (hroom : n + 1 ≤ c) (hvb : vb ≠ b) (cv : Array Value) (hv : w.heap[vb]? = some (.cells cv 44 (0, 0))) (hcv : cv.toList.take 2 = encGI x) (hnl : n < 4398046511104) :
    Calls Try.prog 36 #[.slice (some ⟨b, 0, none⟩) n c, .int .i64 i, .slice (some ⟨vb, 0, none⟩) 1 vc] w fun e w' =>
      ∃ v', e = .returned v' ∧ kGI.R 44 w' base ok v' (l.take i ++ x :: l.drop i) ∧ Below base w0 w' ∧ Kept w w' (fun k => k = b) ∧ v'.ownBlock = some b := by
  obtain ⟨hok, hown⟩ := flatGI.1 HO
  obtain ⟨hnn, _, _⟩ := Kd.R_reads' HO
  rw [← hnn] at hown
  obtain ⟨cur, hbb, hcur, hnc, hcm, hsz, htk⟩ := own_cells hown
  obtain ⟨xs, hxs⟩ : ∃ xs, l.flatMap encGI = xs := ⟨_, rfl⟩
  have hone := encGI_one l
  have hlen := encGI_len l
  rw [hxs] at htk hone hlen
  rw [← hnn] at hlen
  have hcl : cv.size ≥ 2 := by
    have := congrArg List.length hcv
    rw [List.length_take] at this
    simp [encGI] at this
    omega
  have hszE : (Try.prog.info? 44).map (·.size) = some 2 := by kernel_rfl
  have hcmx : c ≤ 9223372036854775807 := by unfold maxLen at hcm; omega
  have hcells : ∀ j v, xs[j]? = some v → w.cell? ⟨b, j, none⟩ = some v := fun j v hj => by
    rw [cell_of_row w b j cur 44 (0, 0) hcur]
    have hjl := (List.getElem?_eq_some_iff.1 hj).1
    rw [← htk, List.getElem?_take, if_pos (by omega)] at hj
    simpa using hj
  have hsome : ∀ j, j < c * 2 → (w.cell? ⟨b, j, none⟩).isSome = true := fun j hj => by
    rw [cell_of_row w b j cur 44 (0, 0) hcur]; simp; omega
  have hfz : ∀ j, w.frozen? ⟨b, j, none⟩ = false := fun j => blk_frozen hcur j
  have hvc : ∀ j v, (encGI x)[j]? = some v → w.cell? ⟨vb, j, none⟩ = some v := fun j v hj => by
    rw [cell_of_row w vb j cv 44 (0, 0) hv]
    have hjl := (List.getElem?_eq_some_iff.1 hj).1
    have h4 : (encGI x).length = 2 := rfl
    rw [← hcv, List.getElem?_take, if_pos (by omega)] at hj
    simpa using hj
  have hov : ∀ lb cb, (callFunc 54 #[.slice (some ⟨vb, 0, none⟩) 1 vc, .slice (some ⟨b, (i + 1) * 2, none⟩) lb cb]).run Try.prog w = .ok (.value (.bool false)) w := fun lb cb => by
    rw [run_callFunc_extern Try.func54 (by kernel_rfl) (by kernel_rfl) (by kernel_rfl) (e := Extern.SlicesOverlaps.overlaps #[24, 24] #[4]) (by kernel_rfl),
      Lib.run_overlaps_apart w 24 4 44 Try.underlying24 2 (fun w => by kernel_rfl) ⟨vb, 0, none⟩ ⟨b, (i + 1) * 2, none⟩ 1 vc lb cb hvb 44 44 cv.size cur.size (shape_blk hv) (shape_blk hcur) (by omega) (blk_frozen hv _) (blk_frozen hv _)]
    rfl
  have hdl : (xs.drop (i * 2)).length = (n - i) * 2 := by rw [List.length_drop, hlen]; omega
  have hmin : Nat.min (n + 1 - i) (n - i) = n - i := by simp only [Nat.min_def]; split <;> omega
  have hcp1 : ∀ ty dc sc, (Builtin.copy_ #[24, 24] ty #[.slice (some ⟨b, (i + 1) * 2, none⟩) (n - i) dc, .slice (some ⟨b, i * 2, none⟩) (n + 1 - i) sc]).run Try.prog w.drew = .ok (goInt ((n - i : Nat))) (w.drew.setCells b ((i + 1) * 2) (xs.drop (i * 2))) := fun ty dc sc => by
    have := run_copy_k (P := Try.prog) 2 w.drew 24 24 ty 44 b ((i + 1) * 2) (n - i) dc ⟨b, i * 2, none⟩ (n + 1 - i) sc (xs.drop (i * 2)) Try.underlying24 hszE (by rw [hdl, hmin])
      (fun j v hj => by rw [Addr.add_lit]; exact hcells (i * 2 + j) v (by rwa [List.getElem?_drop] at hj))
      (fun j hj => hsome _ (by omega)) (fun j hj => hfz _) (fun v hv => hone v (List.mem_of_mem_drop hv))
    rw [hmin] at this; exact this
  obtain ⟨W1, hW1⟩ : ∃ W1, W1 = w.drew.setCells b ((i + 1) * 2) (xs.drop (i * 2)) := ⟨_, rfl⟩
  obtain ⟨cur1, hc1, hs1, ht1⟩ := setCells_row (xs.drop (i * 2)) ((i + 1) * 2) w.drew cur hcur (by omega)
  rw [← hW1] at hc1
  have hg1 : w.grownBy W1 (some b) := by
    obtain ⟨s1, s2, s3, s4⟩ := setCells_same b (xs.drop (i * 2)) ((i + 1) * 2) w.drew
    rw [hW1]
    exact ⟨s1, s2, s3, by rw [s4]; exact Nat.le_refl _, fun k _ hk => setCells_far (w := w.drew) (xs.drop (i * 2)) _ k (fun he => hk (by rw [he]))⟩
  have hv1 : W1.heap[vb]? = some (.cells cv 44 (0, 0)) := (hg1.block vb (blk_lt hv) (fun e => by injection e with e; exact hvb e)).trans hv
  have hmin2 : Nat.min 1 (n + 1 - i) = 1 := by simp only [Nat.min_def]; split <;> omega
  have hcp2 : ∀ ty dc, (Builtin.copy_ #[24, 24] ty #[.slice (some ⟨b, i * 2, none⟩) (n + 1 - i) dc, .slice (some ⟨vb, 0, none⟩) 1 vc]).run Try.prog W1 = .ok (goInt (1 : Nat)) (W1.setCells b (i * 2) (encGI x)) := fun ty dc => by
    have := run_copy_k (P := Try.prog) 2 W1 24 24 ty 44 b (i * 2) (n + 1 - i) dc ⟨vb, 0, none⟩ 1 vc (encGI x) Try.underlying24 hszE (by rw [hmin2]; rfl)
      (fun j v hj => by
        rw [Addr.add_lit, Nat.zero_add, cell_of_row W1 vb j cv 44 (0, 0) hv1]
        have := hvc j v hj
        rwa [cell_of_row w vb j cv 44 (0, 0) hv] at this)
      (fun j hj => by
        have h4 : (encGI x).length = 2 := rfl
        rw [cell_of_row W1 b (i * 2 + j) cur1 44 (0, 0) hc1]; simp; omega) (fun j hj => blk_frozen hc1 _) (fun v hv => encGI_one [x] v (by simpa using hv))
    rw [hmin2] at this; exact this
  rw [← hW1] at hcp1
  obtain ⟨cur2, hc2, hs2, ht2⟩ := setCells_row (encGI x) (i * 2) W1 cur1 hc1 (by have h4 : (encGI x).length = 2 := rfl; omega)
  obtain ⟨W2, hW2⟩ : ∃ W2, W1.setCells b (i * 2) (encGI x) = W2 := ⟨_, rfl⟩
  rw [hW2] at hc2 hcp2
  have hg2 : W1.grownBy W2 (some b) := by
    obtain ⟨s1, s2, s3, s4⟩ := setCells_same b (encGI x) (i * 2) W1
    rw [← hW2]
    exact ⟨s1, s2, s3, by rw [s4]; exact Nat.le_refl _, fun k _ hk => setCells_far (encGI x) _ k (fun he => hk (by rw [he]))⟩
  have hfin : kGI.R 44 W2 base ok (.slice (some ⟨b, 0, none⟩) (n + 1) c) (l.take i ++ x :: l.drop i) := by
    have hL : (l.take i ++ x :: l.drop i).length = n + 1 := by rw [List.length_append, List.length_take, List.length_cons, List.length_drop]; omega
    have h4 : (encGI x).length = 2 := rfl
    refine flatGI.2 ⟨hok, ?_⟩
    rw [hL]
    refine ⟨by rw [encGI_len, hL], .inr ⟨b, c, cur2, rfl, hbb, hc2, hroom, hcm, by omega, ?_⟩⟩
    rw [hdl] at ht1
    rw [h4] at ht2
    have key := ins_cells cur.toList xs (encGI x) n i htk.symm (by rw [Array.length_toList]; omega) hi h4
    rw [← ht1] at key
    rw [← ht2] at key
    rw [key, ← hxs, encGI_take, encGI_drop, List.flatMap_append, List.flatMap_cons, List.append_assoc]
  have hgg := hg1.trans hg2
  have HFIN := Aside0.mk hfin
  have HGG := Aside0.mk hgg
  have HBB := Aside0.mk hB
  have HBASE := Aside0.mk hbase
  have HBG := Aside0.mk hbb
  clear hfin hgg hB hbase hW1 hW2 hg1 hg2 hc1 hc2 ht1 ht2 hs1 hs2 hv1 hcells hsome hvc hone hlen hxs htk hcur hown HO hok hv hcv hbb
  have hw1 : IntKind.i64.wrap ((i : Int) + 1) = (i : Int) + 1 := by rw [IntKind.wrap_i64]; omega
  have hz2 : ¬ ((i : Int) = (n : Int)) := by omega
  have hb1 : (0 : Int) ≤ (i : Int) + 1 := by omega
  have hin : i ≤ n := by omega
  have htn : ((i : Int) + 1).toNat = i + 1 := by omega
  have hb2 : ¬ (c = i + 1) := by omega
  have hb3 : (i : Int) ≤ (n : Int) + 1 := by omega
  have hb4 : ¬ (c = i) := by omega
  have hok' := HFIN.out.1
  have mixed : Try.prog.follows .mixedOrders = true := by kernel_rfl
  clear hnn
  go_enter Try.func36, Try.ntmps36
  go_wp2_with (simp only [hov])
  go_region_law_o (refine step_copy_runI rfl _ _ 24 24 rfl _ _ (by simp [Act.eval, Act.put]) (by simp [Act.eval, Act.put]) (hcp1 _ _ _) ?_)
  go_wp2_with (at_builtin; refine wpList_copy_runI _ rfl _ _ 24 24 rfl _ _ rfl rfl (hcp2 _ _) ?_)
  go_ret
  exact ⟨_, rfl, HFIN.out, HBB.out.grown HGG.out HBASE.out (fun k hk => by injection hk with hk; subst hk; exact HBG.out), Kept.of_grown HGG.out (Kept.refl w _) (fun k hk => .inl (by injection hk with hk; exact hk.symm)), rfl⟩
end Go.Proofs.Ythcikbbglpdjhaa.Q
