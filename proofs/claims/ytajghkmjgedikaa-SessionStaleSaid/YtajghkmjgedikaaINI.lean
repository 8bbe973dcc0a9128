/- slices.Insert of one whole number into a row of the call's own (by the kit's Spec). No condition beyond the row's length. -/
import Derived.Test.YtajghkmjgedikaaQ0
import Derived.Lib.Hide
import Derived.Shelf.Spec.SlicesInsert
import Derived.Shelf.Spec.SlicesInsertGrow
namespace Go.Proofs.Ytajghkmjgedikaa.Q
open Go.RowKit Go.Proofs.YtajghkmjgedikaaW Go.Proofs.YtajghkmjgedikaaW.PrintWords Go.Proofs.YtajghkmjgedikaaW.PrintLast Go.Proofs.YtajghkmjgedikaaW.PrintMore
set_option linter.unusedVariables false
set_option linter.unusedSimpArgs false
def insRen : Go.Shelf.Ren := ⟨fun k => if k = 21 then 23 else if k = 27 then 29 else if k = 28 then 30 else if k = 35 then 33 else if k = 39 then 34 else k, fun k => if k = 22 then 23 else if k = 4 then 4 else if k = 3 then 3 else if k = 0 then 0 else k, fun k => k⟩
theorem insLays : Lays2.n21 Try.prog insRen where
  mixed := by kernel_rfl
  f21 := by kernel_rfl
  f27 := by kernel_rfl
  f28 := by kernel_rfl
  f35 := by kernel_rfl
  f39 := by kernel_rfl
  t0 := by kernel_rfl
  a0 := fun w => by kernel_rfl
  z0 := fun w => by kernel_rfl
  v0 := fun w => by kernel_rfl
  t3 := by kernel_rfl
  a3 := fun w => by kernel_rfl
  z3 := fun w => by kernel_rfl
  v3 := fun w => by kernel_rfl
  t4 := by kernel_rfl
  a4 := fun w => by kernel_rfl
  z4 := fun w => by kernel_rfl
  v4 := fun w => by kernel_rfl
  t22 := by kernel_rfl
  a22 := fun w => by kernel_rfl
  z22 := fun w => by kernel_rfl
  v22 := fun w => by kernel_rfl
  i3 := by kernel_rfl
abbrev ei (l : List Int) : List Value := encs (Value.int .i64) l
theorem ei_one (l : List Int) : ∀ v ∈ ei l, v.oneCell' = true := by
  intro v hv
  obtain ⟨x, _, rfl⟩ := List.mem_map.1 hv
  rfl
theorem row_of {w : World} {base b n c : Nat} {ok : Nat → Prop} {l : List Int} (h : (Kd.int .i64).R 3 w base ok (.slice (some ⟨b, 0, none⟩) n c) l) :
    n = l.length ∧ ∃ cur : Array Value, base ≤ b ∧ w.heap[b]? = some (.cells cur 3 (0, 0)) ∧ n ≤ c ∧ c ≤ maxLen ∧ cur.size = c ∧ cur.toList.take n = ei l := by
  obtain ⟨hn, _, _⟩ := Kd.R_reads' h
  refine ⟨hn, ?_⟩
  have ho := Kd.own_of_R h
  rcases ho.2 with ⟨hv, _⟩ | ⟨g, cap, cur, hv, hb, hh, r1, r2, r3, r4⟩
  · cases hv
  · injection hv with ha _ hc
    injection ha with ha
    injection ha with hg
    subst hg; subst hc
    rw [Nat.mul_one] at r3 r4
    exact ⟨cur, hb, hh, by omega, r2, r3, by rw [hn]; exact r4⟩
theorem mk_row {w : World} {base b c : Nat} {l : List Int} {cur : Array Value} (hb : base ≤ b) (hh : w.heap[b]? = some (.cells cur 3 (0, 0))) (h1 : l.length ≤ c) (h2 : c ≤ maxLen) (h3 : cur.size = c) (h4 : cur.toList.take l.length = ei l) :
    (Kd.int .i64).R 3 w base (fun _ => True) (.slice (some ⟨b, 0, none⟩) l.length c) l :=
  Kd.R_of_own ⟨by simp [encs], .inr ⟨b, c, cur, rfl, hb, hh, h1, h2, by omega, by rw [Nat.mul_one]; exact h4⟩⟩ (fun _ _ => trivial)
/-- What stands in a row behind an insertion in place. -/
theorem ins_list (cur xs : List Value) (e : Value) (n i : Nat) (hx : cur.take n = xs) (hc : n + 1 ≤ cur.length) (hi : i ≤ n) :
    ((((cur.take (i + 1) ++ xs.drop i ++ cur.drop (i + 1 + (n - i))).take i ++ [e] ++ (cur.take (i + 1) ++ xs.drop i ++ cur.drop (i + 1 + (n - i))).drop (i + 1)))).take (n + 1) = xs.take i ++ e :: xs.drop i := by
  have hl : xs.length = n := by rw [← hx, List.length_take]; omega
  have hd : (xs.drop i).length = n - i := by rw [List.length_drop, hl]
  have e1 : (cur.take (i + 1) ++ xs.drop i ++ cur.drop (i + 1 + (n - i))).take i = xs.take i := by
    rw [List.append_assoc, List.take_append_of_le_length (by rw [List.length_take]; omega), List.take_take, Nat.min_eq_left (by omega), ← hx, List.take_take, Nat.min_eq_left (by omega)]
  have e2 : (cur.take (i + 1) ++ xs.drop i ++ cur.drop (i + 1 + (n - i))).drop (i + 1) = xs.drop i ++ cur.drop (i + 1 + (n - i)) := by
    rw [List.append_assoc, List.drop_left' (by rw [List.length_take]; omega)]
  have l1 : (xs.take i).length = i := by rw [List.length_take]; omega
  rw [e1, e2, ← List.append_assoc (xs.take i ++ [e]), List.take_left' (by simp only [List.length_append, l1, hd, List.length_cons, List.length_nil]; omega)]
  simp
theorem zc_size (m : Nat) : (Builtin.zeroCells (Value.int .i64 0).cells m).size = m := by
  unfold Builtin.zeroCells; simp [Value.cells]
theorem grown_row (w : World) (l m : List Int) (c : Nat) {base : Nat} {es : List Value} (he : es = ei m) (hbase : base ≤ w.heap.size) (hlen : (l ++ m).length < 1000001) :
    (Kd.int .i64).R 3 (w.drew.alloc (.cells ((ei l ++ es).toArray ++ Builtin.zeroCells (Value.int .i64 0).cells (grownCap w (l.length + m.length) c 3 - (l.length + m.length))) 3)) base (fun _ => True) (.slice (some ⟨w.heap.size, 0, none⟩) (l ++ m).length (grownCap w (l.length + m.length) c 3)) (l ++ m) := by
  subst he
  have hG := grownCap_ge w (l.length + m.length) c 3
  have hl : (l ++ m).length = l.length + m.length := List.length_append
  have hGm := grownCap_le_maxLen w (l.length + m.length) c 3 (by unfold maxLen; omega)
  refine mk_row hbase (blk_new w.drew _) (by omega) hGm ?_ ?_
  · rw [Array.size_append, zc_size]; simp [encs]; omega
  · rw [Array.toList_append, List.take_left' (by simp [encs])]; simp [ei, encs]
theorem insert_int (l : List Int) (x : Int) (i : Nat) (hi : i ≤ l.length) (v : Value) (base : Nat) (ok : Nat → Prop) (w0 w : World) (HO : (Kd.int .i64).R 3 w base ok v l) (hB : Below base w0 w) (hbase : base ≤ w.heap.size) (vb vc : Nat) (cv : Array Value) (hv : w.heap[vb]? = some (.cells (cv) 3 (0, 0))) (hcv : cv[0]? = some (.int .i64 x)) (hne : some vb ≠ v.ownBlock) (hlen : l.length < 1000000) :
    Calls Try.prog 23 #[v, .int .i64 (i : Int), .slice (some ⟨vb, 0, none⟩) 1 vc] w fun e w' =>
      ∃ v', e = .returned v' ∧ (Kd.int .i64).R 3 w' base (fun _ => True) v' (l.take i ++ x :: l.drop i) ∧ Below base w0 w' := by
  have hvs : ∀ j u, [Value.int .i64 x][j]? = some u → w.cell? ⟨vb, 0 + j, none⟩ = some u := fun j u hj => by
    match j with
    | 0 => rw [blk_cell hv, Nat.add_zero, hcv]; exact hj
    | j + 1 => simp at hj
  have h1v : ∀ u ∈ [Value.int .i64 x], u.oneCell' = true := by simp [Value.oneCell']
  have hL : (l.take i ++ x :: l.drop i).length = l.length + 1 := by rw [List.length_append, List.length_take, List.length_cons, List.length_drop]; omega
  have hei : ei (l.take i ++ x :: l.drop i) = (ei l).take i ++ .int .i64 x :: (ei l).drop i := by simp [ei, encs]
  have heil : (ei l).length = l.length := by simp [encs]
  obtain ⟨A, c, rfl, hc0, hrd⟩ := Kd.R_reads HO
  cases A with
  | none =>
    have h0 : l = [] := by
      have := hrd.2.2
      by_cases hp : 0 < l.length
      · obtain ⟨a, ha, _⟩ := this hp; cases ha
      · exact List.eq_nil_of_length_eq_zero (by omega)
    subst h0
    have hi0 : i = 0 := by simpa using hi
    subst hi0
    have ho := Kd.own_of_R HO
    have hc1 : c = 0 := by
      rcases ho.2 with ⟨hv', _⟩ | ⟨g, cap, cur, hv', _⟩
      · injection hv'
      · injection hv' with ha; cases ha
    subst hc1
    refine (Any2.slices_Insert_int_end_grow insLays none 0 0 vb 0 1 vc [] [.int .i64 x] w (by decide) (Nat.le_refl _) (by decide) (by decide) rfl rfl (fun _ => rfl) (fun a h => by cases h) hvs h1v).mono ?_
    rintro e w' ⟨rfl, rfl⟩
    refine ⟨_, rfl, ?_, hB.drew.alloc hbase _⟩
    exact grown_row w [] [x] 0 rfl hbase (by simp)
  | some a =>
    obtain ⟨b, rfl⟩ : ∃ b, a = ⟨b, 0, none⟩ := by
      rcases (Kd.own_of_R HO).2 with ⟨hv', _⟩ | ⟨g, cap, cur, hv', _⟩
      · cases hv'
      · injection hv' with ha; injection ha with ha; exact ⟨g, ha⟩
    obtain ⟨_, cur, hbb, hcur, hnc, hcm, hsz, htk⟩ := row_of HO
    have hvb : vb ≠ b := fun e => hne (by rw [e]; rfl)
    have hcm' : c ≤ 9223372036854775807 := by unfold maxLen at hcm; omega
    have hlc : cur.toList.length = c := by rw [Array.length_toList]; exact hsz
    have hcs : ∀ j u, (ei l)[j]? = some u → w.cell? ⟨b, 0 + j, none⟩ = some u := fun j u hj => by
      rw [blk_cell hcur, Nat.zero_add]
      have hjl := (List.getElem?_eq_some_iff.1 hj).1
      rw [← htk, List.getElem?_take, if_pos (by omega)] at hj
      simpa using hj
    have hsp : ∀ j, j < c → (w.cell? ⟨b, 0 + j, none⟩).isSome = true := fun j hj => by
      rw [blk_cell hcur]; simp; omega
    have hfz : ∀ j, w.frozen? ⟨b, 0 + j, none⟩ = false := fun j => blk_frozen hcur _
    by_cases hin : i = l.length
    · subst hin
      rw [List.take_length, List.drop_length]
      by_cases hroom : l.length + 1 ≤ c
      · refine (Any2.slices_Insert_int_end_room insLays b 0 l.length c vb 0 1 vc [.int .i64 x] w (by decide) hroom hcm' rfl (fun j hj => by rw [Nat.add_assoc]; exact hsp _ (by omega)) (fun j hj => by rw [Nat.add_assoc]; exact hfz _) hvs h1v).mono ?_
        rintro e w' ⟨rfl, rfl⟩
        obtain ⟨cur', h1, h2, h3⟩ := setCells_row [.int .i64 x] (0 + l.length) w cur hcur (by rw [hsz]; simp; omega)
        obtain ⟨s1, s2, s3, s4⟩ := setCells_same b [.int .i64 x] (0 + l.length) w
        refine ⟨_, rfl, ?_, hB.grown (row := some b) ⟨s1, s2, s3, by rw [s4]; exact Nat.le_refl _, fun k _ hk => setCells_far _ _ k (fun he => hk (by rw [he]))⟩ hbase (fun k hk => by injection hk with hk; subst hk; exact hbb)⟩
        have := mk_row (w := w.setCells b (0 + l.length) [.int .i64 x]) (base := base) (c := c) (l := l ++ [x]) hbb h1 (by simpa using hroom) hcm (by rw [h2, hsz]) (by
          rw [h3, Nat.zero_add, htk, List.take_left' (by simp [heil])]
          simp [ei, encs])
        simpa using this
      · refine (Any2.slices_Insert_int_end_grow insLays (some ⟨b, 0, none⟩) l.length c vb 0 1 vc (ei l) [.int .i64 x] w (by decide) hnc (by omega) (by omega) heil rfl (fun h => by cases h) (fun a ha j u hj => by injection ha with ha; subst ha; rw [Addr.add_lit]; exact hcs j u hj) hvs h1v).mono ?_
        rintro e w' ⟨rfl, rfl⟩
        refine ⟨_, rfl, ?_, hB.drew.alloc hbase _⟩
        have := grown_row w l [x] c rfl hbase (by simp; omega)
        rw [show insRen.t 3 = 3 from rfl]
        simpa [ei, encs] using this
    · have hlt : i < l.length := by omega
      by_cases hroom : l.length + 1 ≤ c
      · refine (Any2.slices_Insert_int_shift insLays b 0 l.length c i vb 0 1 vc (ei l) [.int .i64 x] w hlt (by decide) hroom hcm' hvb heil rfl hcs (fun j hj => hsp _ (by omega)) (fun j hj => hfz _) hvs (ei_one l) h1v 3 3 cv.size cur.size (by simp [World.shape?, hv]) (by simp [World.shape?, hcur]) (by omega) (blk_frozen hv _) (blk_frozen hv _)).mono ?_
        rintro e w' ⟨rfl, rfl⟩
        have hdl : ((ei l).drop i).length = l.length - i := by rw [List.length_drop, heil]
        obtain ⟨c1, h1, h2, h3⟩ := setCells_row ((ei l).drop i) (0 + (i + 1)) w.drew cur hcur (by omega)
        obtain ⟨s1, s2, s3, s4⟩ := setCells_same b ((ei l).drop i) (0 + (i + 1)) w.drew
        obtain ⟨c2, g1, g2, g3⟩ := setCells_row [.int .i64 x] (0 + i) (w.drew.setCells b (0 + (i + 1)) ((ei l).drop i)) c1 h1 (by rw [h2, hsz]; simp; omega)
        obtain ⟨r1, r2, r3, r4⟩ := setCells_same b [.int .i64 x] (0 + i) (w.drew.setCells b (0 + (i + 1)) ((ei l).drop i))
        have hb1 : Below base w0 (w.drew.setCells b (0 + (i + 1)) ((ei l).drop i)) := hB.drew.grown (row := some b) ⟨s1, s2, s3, by rw [s4]; exact Nat.le_refl _, fun k _ hk => setCells_far (w := w.drew) _ _ k (fun he => hk (by rw [he]))⟩ hbase (fun k hk => by injection hk with hk; subst hk; exact hbb)
        refine ⟨_, rfl, ?_, hb1.grown (row := some b) ⟨r1, r2, r3, by rw [r4]; exact Nat.le_refl _, fun k _ hk => setCells_far _ _ k (fun he => hk (by rw [he]))⟩ (by rw [s4]; exact hbase) (fun k hk => by injection hk with hk; subst hk; exact hbb)⟩
        have key := ins_list cur.toList (ei l) (.int .i64 x) l.length i htk (by omega) hi
        have := mk_row (w := (w.drew.setCells b (0 + (i + 1)) ((ei l).drop i)).setCells b (0 + i) [.int .i64 x]) (base := base) (c := c) (l := l.take i ++ x :: l.drop i) hbb g1 (by rw [hL]; exact hroom) hcm (by rw [g2, h2, hsz]) (by
          rw [hL, hei, g3, h3, hdl]
          rw [Nat.zero_add, Nat.zero_add]
          exact key)
        rwa [hL] at this
      · refine (Any2.slices_Insert_int_grow insLays b 0 l.length c i vb 0 1 vc (ei l) [.int .i64 x] w hlt (by decide) hnc (by omega) (by omega) heil rfl hcs hvs (ei_one l) h1v).mono ?_
        rintro e w' ⟨rfl, rfl⟩
        rw [show insRen.t 3 = 3 from rfl]
        have hG := grownCap_ge w (l.length + 1) c 3
        have hGm := grownCap_le_maxLen w (l.length + 1) c 3 (by unfold maxLen; omega)
        obtain ⟨G, hGG⟩ : ∃ G, grownCap w (l.length + 1) c 3 = G := ⟨_, rfl⟩
        rw [hGG] at hG hGm ⊢
        obtain ⟨z1, hz1⟩ : ∃ z1, Builtin.zeroCells (Value.int .i64 0).cells (l.length + 1 - i) = z1 := ⟨_, rfl⟩
        obtain ⟨z2, hz2⟩ : ∃ z2, Builtin.zeroCells (Value.int .i64 0).cells (G - (l.length + 1)) = z2 := ⟨_, rfl⟩
        have hz1l : z1.size = l.length + 1 - i := by rw [← hz1]; exact zc_size _
        have hz2l : z2.size = G - (l.length + 1) := by rw [← hz2]; exact zc_size _
        rw [hz1, hz2]
        obtain ⟨R0, hR0⟩ : ∃ R0, ((ei l).take i).toArray ++ z1 ++ z2 = R0 := ⟨_, rfl⟩
        rw [hR0]
        have htl : ((ei l).take i).length = i := by rw [List.length_take, heil]; omega
        have hR0l : R0.toList = (ei l).take i ++ z1.toList ++ z2.toList := by rw [← hR0]; simp
        have hR0s : R0.size = G := by rw [← Array.length_toList, hR0l]; simp only [List.length_append, htl, Array.length_toList]; omega
        have hdl : ((ei l).drop i).length = l.length - i := by rw [List.length_drop, heil]
        have h0 : (w.alloc (.cells R0 3)).drew.heap[w.heap.size]? = some (.cells R0 3 (0, 0)) := blk_new w _
        have hb0 : Below base w0 (w.alloc (.cells R0 3)).drew := (hB.alloc hbase _).drew
        have hs0 : base ≤ (w.alloc (.cells R0 3)).drew.heap.size := Nat.le_trans hbase (below_alloc (Below.refl _ w) _).size
        generalize (w.alloc (.cells R0 3)).drew = W0 at h0 hb0 hs0 ⊢
        obtain ⟨c1, h1, h2, h3⟩ := setCells_row [.int .i64 x] i W0 R0 h0 (by rw [hR0s]; simp; omega)
        obtain ⟨s1, s2, s3, s4⟩ := setCells_same w.heap.size [.int .i64 x] i W0
        have hb1 : Below base w0 (W0.setCells w.heap.size i [.int .i64 x]) := hb0.grown (row := some w.heap.size) ⟨s1, s2, s3, by rw [s4]; exact Nat.le_refl _, fun k _ hk => setCells_far _ _ k (fun he => hk (by rw [he]))⟩ hs0 (fun k hk => by injection hk with hk; subst hk; exact hbase)
        have hs1 : base ≤ (W0.setCells w.heap.size i [.int .i64 x]).heap.size := by rw [s4]; exact hs0
        have hc1 : (W0.setCells w.heap.size i [.int .i64 x]).drew.heap[w.heap.size]? = some (.cells c1 3 (0, 0)) := h1
        have hb2 : Below base w0 (W0.setCells w.heap.size i [.int .i64 x]).drew := hb1.drew
        generalize hW1 : (W0.setCells w.heap.size i [.int .i64 x]).drew = W1 at hc1 hb2 ⊢
        have hs2 : base ≤ W1.heap.size := by rw [← hW1]; exact hs1
        obtain ⟨c2, g1, g2, g3⟩ := setCells_row ((ei l).drop i) (i + 1) W1 c1 hc1 (by rw [h2, hR0s, hdl]; omega)
        obtain ⟨r1, r2, r3, r4⟩ := setCells_same w.heap.size ((ei l).drop i) (i + 1) W1
        refine ⟨_, rfl, ?_, hb2.grown (row := some w.heap.size) ⟨r1, r2, r3, by rw [r4]; exact Nat.le_refl _, fun k _ hk => setCells_far _ _ k (fun he => hk (by rw [he]))⟩ hs2 (fun k hk => by injection hk with hk; subst hk; exact hbase)⟩
        have := mk_row (w := W1.setCells w.heap.size (i + 1) ((ei l).drop i)) (base := base) (c := G) (l := l.take i ++ x :: l.drop i) hbase g1 (by rw [hL]; exact hG) hGm (by rw [g2, h2, hR0s]) (by
          rw [hL, hei, g3, h3, hdl, hR0l]
          have e1 : ((ei l).take i ++ z1.toList ++ z2.toList).take i = (ei l).take i := by rw [List.append_assoc, List.take_left' htl]
          rw [e1]
          have e2 : ((ei l).take i ++ [Value.int .i64 x] ++ ((ei l).take i ++ z1.toList ++ z2.toList).drop (i + [Value.int IntKind.i64 x].length)).take (i + 1) = (ei l).take i ++ [Value.int .i64 x] := List.take_left' (by rw [List.length_append, htl]; rfl)
          rw [e2, List.take_left' (by simp only [List.length_append, htl, hdl, List.length_cons, List.length_nil]; omega)]
          simp)
        rwa [hL] at this
end Go.Proofs.Ytajghkmjgedikaa.Q
