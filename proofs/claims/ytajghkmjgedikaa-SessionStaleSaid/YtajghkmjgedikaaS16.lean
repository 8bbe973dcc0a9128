import Derived.Test.YtajghkmjgedikaaS15
namespace Go.Proofs.Ytajghkmjgedikaa.Q
open Go.RowKit Go.Proofs.YtajghkmjgedikaaW Go.Proofs.YtajghkmjgedikaaW.PrintWords Go.Proofs.YtajghkmjgedikaaW.PrintLast Go.Proofs.YtajghkmjgedikaaW.PrintMore
set_option linter.unusedVariables false
set_option linter.unusedSimpArgs false
def reg18.T1 : Bool × List (List Nat × List Nat) := (true, [([], []), ([0], [0]), ([1], [1]), ([2], [2]), ([], []), ([4], [4]), ([5], [5]), ([6], [6]), ([], []), ([7, 8], [7, 8]), ([9], [9]), ([3, 10], [3, 10]), ([11], [11]), ([12], [12]), ([12], [12]), ([12], [12]), ([], []), ([16, 13, 11, 0, 1, 2, 3, 4, 5, 6, 7, 8, 9, 10, 11, 12, 13, 16], [13, 16]), ([14, 17, 0, 1, 2, 3, 4, 5, 6, 7, 8, 9, 10, 11, 12, 13, 14, 16, 17], [14]), ([15, 18, 0, 1, 2, 3, 4, 5, 6, 7, 8, 9, 10, 11, 12, 13, 14, 15, 16, 17, 18], [15])])
def reg18.B1 : List Nat := [0, 1, 3, 7, 0, 16, 48, 112, 0, 496, 1008, 2047, 4095, 8191, 8191, 8191, 0, 81919, 229375, 524287]
theorem reg18.tab1 : rtab .any (opsOf Try.f18 1) = reg18.T1 := by kernel_rfl
theorem reg18.bits1 : waitsOk reg18.T1.2 reg18.B1 = true := by kernel_rfl
theorem ne_ty {W : World} {g h : Nat} {c d : Array Value} {t u : TypeId} (h1 : W.heap[g]? = some (.cells c t (0, 0))) (h2 : W.heap[h]? = some (.cells d u (0, 0))) (htu : t ≠ u) : g ≠ h := fun e => by
  rw [e, h2] at h1
  simp at h1
  exact htu h1.2.symm
theorem R_far44 {α : Type} {d : Kd α} {e : Nat} {W W' : World} {base g : Nat} {ok : Nat → Prop} {v : Value} {l : List α} {c : Array Value} {t : TypeId} (h : d.R e W base ok v l) (hg : W.heap[g]? = some (.cells c t (0, 0))) (hf : ∀ k, k ≠ g → W'.heap[k]? = W.heap[k]?) (he : e ≠ t) (hE : d.E = []) : d.R e W' base ok v l := by
  have h2 := Kd.R_types h hg (fun q hq => by
    rw [hE] at hq
    have : q = e := by simpa using hq
    rw [this]; exact he)
  exact Kd.R_mono (Kd.R_step h2 (fun k hk _ => hf k hk.2)) (fun k hk => hk.1)
def reg18.T11 : Bool × List (List Nat × List Nat) := (true, [([], []), ([], []), ([0, 1], [0, 1]), ([2], [2]), ([3], [3]), ([4], [4]), ([5], [5]), ([5], [5]), ([6, 7, 5], [5, 6, 7]), ([8, 5], [5, 8]), ([9, 5], [5, 9]), ([5, 10], [5, 10]), ([11, 5], [11]), ([12], [12]), ([13, 12], [12, 13]), ([14, 12], [12, 14]), ([15, 12], [12, 15]), ([12], [12]), ([12], [12]), ([17, 18, 12], [12, 17, 18]), ([19, 12], [12, 19]), ([16, 20, 12], [12, 16, 20]), ([21, 12], [12, 21]), ([12], [12]), ([22, 23, 12], [12, 22, 23]), ([12, 24], [12, 24])])
def reg18.B11 : List Nat := [0, 0, 3, 7, 15, 31, 63, 63, 255, 511, 1023, 2047, 4095, 8191, 16383, 32767, 65535, 8191, 8191, 401407, 925695, 2097151, 4194303, 8191, 16777215, 33554431]
theorem reg18.tab11 : rtab .any (opsOf Try.f18 11) = reg18.T11 := by kernel_rfl
theorem reg18.bits11 : waitsOk reg18.T11.2 reg18.B11 = true := by kernel_rfl
def reg18.T13 : Bool × List (List Nat × List Nat) := (true, [([], []), ([0], [0]), ([1], [1]), ([2], [2]), ([], []), ([], []), ([4, 5], [4, 5]), ([6], [6]), ([3, 7, 0, 1, 2, 3, 4, 5, 6, 7], [3, 7]), ([8, 0, 1, 2, 3, 4, 5, 6, 7], [8])])
def reg18.B13 : List Nat := [0, 1, 3, 7, 0, 0, 48, 112, 255, 511]
theorem reg18.tab13 : rtab .any (opsOf Try.f18 13) = reg18.T13 := by kernel_rfl
theorem reg18.bits13 : waitsOk reg18.T13.2 reg18.B13 = true := by kernel_rfl
theorem RowOf.own_set {W : World} {l : List Int} {v u : Value} {go j : Nat} (h : RowOf W l v) (hv : ∀ k, v.ownBlock = some k → go < k) : RowOf (W.setCell ⟨go, j, none⟩ u) l v := by
  have h2 := Kd.R_reok rfl h (ok := fun k => go < k) hv
  exact Kd.R_mono (Kd.R_step h2 (fun k hk _ => Below.heap_setCell W ⟨go, j, none⟩ u k (by show k ≠ go; omega))) (fun k hk => trivial)
/-- What stands while a closed session's owners are freed. -/
structure Fr (w0 : World) (g go i s : Nat) (m : Mdl) (cs' : Array Value) (tx' : Nat → Value) (v1 v2 v : Value) (l : List Int) (j : Nat) (W : World) : Prop where
  be : Below w0.heap.size w0 W
  bw : Bw g cs' v1 v2 (.slice (some ⟨go, 0, none⟩) 64 64) W
  rows : Rows3 W (upd m.ls s []) tx'
  all : k31.R 31 W w0.heap.size (fun _ => True) v1 m.H
  shut : Kd.bool.R 4 W w0.heap.size (fun _ => True) v2 (m.C.set i true)
  own : (Kd.int .i64).R 3 W w0.heap.size (fun k => k = go) (.slice (some ⟨go, 0, none⟩) 64 64) (freed m.O (l.take j))
  had : RowOf W l v
theorem Fr.drew {w0 : World} {g go i s : Nat} {m : Mdl} {cs' : Array Value} {tx' : Nat → Value} {v1 v2 v : Value} {l : List Int} {j : Nat} {W : World} (h : Fr w0 g go i s m cs' tx' v1 v2 v l j W) : Fr w0 g go i s m cs' tx' v1 v2 v l j W.drew :=
  ⟨h.be.drew, h.bw.below (below_drew1 (Below.refl _ _)), h.rows.below (below_drew1 (Below.refl _ _)), Kd.R_drew h.all, Kd.R_drew h.shut, Kd.R_drew h.own, h.had.below (below_drew1 (Below.refl _ _))⟩
theorem Fr.step {w0 : World} {g go i s : Nat} {m : Mdl} {cs' : Array Value} {tx' : Nat → Value} {v1 v2 v : Value} {l : List Int} {j : Nat} {W : World} (h : Fr w0 g go i s m cs' tx' v1 v2 v l j W) (hj : j < l.length) (htx : ∀ q, q < 16 → ∀ k, (tx' q).ownBlock = some k → go < k) (hv : ∀ k, v.ownBlock = some k → go < k) (x : Int) (hx : l[j] = x) :
    Fr w0 g go i s m cs' tx' v1 v2 v l (j + 1) (W.setCell ⟨go, x.toNat, none⟩ (.int .i64 (-1))) := by
  obtain ⟨cells, hgo⟩ := Kd.R_typed h.own go rfl
  have hb := Kd.R_base h.own go rfl
  have hne : go ≠ g := ne_ty (t := 3) (u := 44) hgo h.bw.at_ (by decide)
  have hfar : ∀ k, k ≠ go → (W.setCell ⟨go, x.toNat, none⟩ (.int .i64 (-1))).heap[k]? = W.heap[k]? := fun k hk => Below.heap_setCell W ⟨go, x.toNat, none⟩ _ k hk
  have hp := Kd.R_putn h.own x (-1)
  have e : freed m.O (l.take (j + 1)) = (freed m.O (l.take j)).set x.toNat (-1) := by
    rw [List.take_succ_eq_append_getElem hj, freed_snoc, hx]
  refine ⟨h.be.setCell hb _, h.bw.far (hfar g (fun e => hne e.symm)), fun q hq => (h.rows q hq).own_set (htx q hq), R_far44 h.all hgo hfar (by decide) rfl, R_far44 h.shut hgo hfar (by decide) rfl, ?_, h.had.own_set hv⟩
  rw [e]
  exact hp
theorem fr_start {w0 : World} {g go i s gc cc : Nat} {m : Mdl} {cs cs' : Array Value} {tx' : Nat → Value} {v1 v v3 : Value} {l : List Int} {W5 W6 : World}
    (hbe : Below w0.heap.size w0 W6) (hbw5 : Bw g cs v1 (.slice (some ⟨gc, 0, none⟩) m.C.length cc) v3 W5) (hbw : Bw g cs' v1 (.slice (some ⟨gc, 0, none⟩) m.C.length cc) (.slice (some ⟨go, 0, none⟩) 64 64) W6) (hf : ∀ k, k ≠ g → W6.heap[k]? = W5.heap[k]?)
    (hr : Rows3 W5 (upd m.ls s []) tx') (ha : k31.R 31 W5 w0.heap.size (fun _ => True) v1 m.H) (hs : Kd.bool.R 4 W5 w0.heap.size (fun _ => True) (.slice (some ⟨gc, 0, none⟩) m.C.length cc) m.C) (ho : (Kd.int .i64).R 3 W5 w0.heap.size (fun k => k = go) (.slice (some ⟨go, 0, none⟩) 64 64) m.O) (hv : RowOf W5 l v) (hi : i < m.C.length) :
    Fr w0 g go i s m cs' tx' v1 (.slice (some ⟨gc, 0, none⟩) m.C.length cc) v l 0 (W6.setCell ⟨gc, i, none⟩ (.bool true)) := by
  have hs6 := R_far44 hs hbw5.at_ hf (by decide) rfl
  have ha6 := R_far44 ha hbw5.at_ hf (by decide) rfl
  have ho6 := R_far44 ho hbw5.at_ hf (by decide) rfl
  have hv6 : RowOf W6 l v := R_far44 hv hbw5.at_ hf (by decide) rfl
  have hr6 : Rows3 W6 (upd m.ls s []) tx' := fun j hj => R_far44 (hr j hj) hbw5.at_ hf (by decide) rfl
  obtain ⟨cells, hgc⟩ := Kd.R_typed hs6 gc rfl
  have hgb : w0.heap.size ≤ gc := Kd.R_base hs6 gc rfl
  have hne : gc ≠ g := ne_ty (t := 4) (u := 44) hgc hbw.at_ (by decide)
  have hp := Kd.R_putn hs6 (i : Int) true
  rw [Int.toNat_natCast] at hp
  have hfar : ∀ k, k ≠ gc → (W6.setCell ⟨gc, i, none⟩ (.bool true)).heap[k]? = W6.heap[k]? := fun k hk => Below.heap_setCell W6 ⟨gc, i, none⟩ _ k hk
  exact ⟨hbe.setCell hgb _, hbw.far (hfar g (fun e => hne e.symm)), fun j hj => R_far44 (hr6 j hj) hgc hfar (by decide) rfl, R_far44 ha6 hgc hfar (by decide) rfl, hp, R_far44 ho6 hgc hfar (by decide) rfl, R_far44 hv6 hgc hfar (by decide) rfl⟩
theorem own_left {m : Mdl} (I : Inv m) {i s : Nat} (hi : i < m.H.length) (hs : s < 16) (h0 : (m.h i).f0 = (s : Int)) (hl : m.live i = true) (l : List Int) (hll : m.ls s = l) (j : Nat) (hj : j < l.length) : rdOf 0 (freed m.O (l.take j)) l[j] = (i : Int) := by
  subst hll
  have hr := I.sane.rows s hs
  have hx := hr.2 _ (List.getElem_mem hj)
  have h1 := freed_at ((m.ls s).take j) (fun x hx => hr.2 x (List.mem_of_mem_take hx)) m.O I.olen (m.ls s)[j].toNat (by omega)
  unfold rdOf
  rw [h1, if_neg (fun hm => by
    obtain ⟨q, hq, he⟩ := List.mem_iff_getElem.1 hm
    rw [List.length_take] at hq
    rw [List.getElem_take] at he
    have := List.pairwise_iff_getElem.1 hr.1 q j (by omega) hj (by omega)
    omega)]
  have hc : (((m.ls s)[j].toNat : Nat) : Int) = (m.ls s)[j] := by omega
  exact I.who hi hs h0 hl (by omega) (by rw [hc]; exact List.getElem_mem hj)
theorem NewT.mono {w w' : World} {tx tx' : Nat → Value} (h : NewT w' tx tx') (hs : w.heap.size ≤ w'.heap.size) : NewT w tx tx' := fun i hi => (h i hi).imp id (fun h k hk => Nat.le_trans hs (h k hk))
/-- What a Close of the model's i-th handle tells. -/
def CloseR (m : Mdl) (i s : Nat) (w : World) (tx : Nat → Value) (r : Value) (w' : World) : Prop :=
  (m.c i = true ∧ r = .tuple #[.agg Z48, .slice none 0 0, .int .i64 6]) ∨
  (m.c i = false ∧ ∃ cs' tx' v, r = .tuple #[.agg cs', v, .int .i64 0] ∧ Cells cs' m.st (upd m.op s false) tx' ∧ Rows3 w' (upd m.ls s []) tx' ∧ RowOf w' (m.ls s) v ∧ NewT w tx tx' ∧ (∀ g, v.ownBlock = some g → w.heap.size ≤ g))
theorem CloseR.form {m : Mdl} {i s : Nat} {w w1 : World} {tx : Nat → Value} {r : Value} (h : CloseR m i s w tx r w1) : ∃ a b c, r = .tuple #[a, b, c] := by
  rcases h with ⟨_, rfl⟩ | ⟨_, _, _, _, rfl, _⟩ <;> exact ⟨_, _, _, rfl⟩
theorem CloseR.below {m : Mdl} {i s : Nat} {w w1 w2 : World} {tx : Nat → Value} {r : Value} (h : CloseR m i s w tx r w1) (hb : Below w1.heap.size w1 w2) : CloseR m i s w tx r w2 := by
  rcases h with h | ⟨h1, cs', tx', v, h2, h3, h4, h5, h6⟩
  · exact .inl h
  · exact .inr ⟨h1, cs', tx', v, h2, h3, h4.below hb, h5.below hb, h6⟩
theorem close_any {m : Mdl} (I : Inv m) {i s : Nat} (hi : i < m.H.length) (hs : s < 16) (h0 : (m.h i).f0 = (s : Int)) (cs : Array Value) (tx : Nat → Value) (h : Cells cs m.st m.op tx) (w w' : World) (hrow : Rows3 w' m.ls tx) (hsz : w.heap.size ≤ w'.heap.size) :
    Calls Try.prog 8 #[.agg cs, .agg #[.int .i64 (s : Int), .int .i64 (m.h i).f1]] w' fun e w2 => ∃ r, e = .returned r ∧ CloseR m i s w tx r w2 ∧ Below w'.heap.size w' w2 := by
  have hl := I.live i hi
  unfold Mdl.live at hl
  rw [h0] at hl
  cases hc : m.c i with
  | true =>
    rw [hc] at hl
    refine (close_dead cs m.st m.op m.ls tx h I.sane w' hrow (s : Int) (m.h i).f1 hl).mono ?_
    rintro e w2 ⟨rfl, hb⟩
    exact ⟨_, rfl, .inl ⟨hc, rfl⟩, hb⟩
  | false =>
    rw [hc] at hl
    obtain ⟨a1, a2⟩ := (live_iff hs).1 hl
    rw [← a2]
    refine (close_ok cs m.st m.op m.ls tx h I.sane w' hrow s hs a1).mono ?_
    rintro e w2 ⟨⟨cs', tx', v, rfl, h2, h3, h4, h5, h6⟩, hb⟩
    exact ⟨_, rfl, .inr ⟨hc, cs', tx', v, rfl, h2, h3, h4, h5.mono hsz, fun q hq => Nat.le_trans hsz (h6 q hq)⟩, hb⟩
set_option maxRecDepth 100000 in
set_option maxHeartbeats 3200000 in
theorem close_walk (w0 : World) (g go : Nat) (m : Mdl) (W : World) (hW : Wd w0 g go m W) (i : Nat) (hi : i < m.H.length) (hmx : m.H.length < 1000) :
    Calls Try.prog 18 #[.pointer (some ⟨g, 0, none⟩), .int .i64 (i : Int)] W fun e w' => e = .returned (.bool true) ∧ ∃ m', Wd w0 g go m' w' ∧ m'.H.length = m.H.length := by
  obtain ⟨be, gb, I, cs, tx, v1, v2, hbw, hcl, hrw, hab, hH, hC, hO⟩ := hW
  obtain ⟨s, hs, e0, e1, e2⟩ := I.slot i hi
  obtain ⟨A1, c1, rfl, hc1, hr1⟩ := Kd.R_reads hH
  obtain ⟨ad, rfl, x1, x2⟩ := at_T31 hr1 (i : Int) (by omega) (by omega)
  have hrd : rd_T31 m.H (i : Int) = m.h i := by unfold rd_T31 Mdl.h; rw [Int.toNat_natCast]; rfl
  rw [hrd, Int.toNat_natCast] at x1 x2
  rw [e0] at x1
  have BE := Aside0.mk be
  have GB := Aside0.mk gb
  have II := Aside0.mk I
  have HBW := Aside0.mk hbw
  have HCL := Aside0.mk hcl
  have HRW := Aside0.mk hrw
  have HAB := Aside0.mk hab
  have HH := Aside0.mk hH
  have HCC := Aside0.mk hC
  have HOO := Aside0.mk hO
  have hcall := Aside0.mk (fun w' (hrow : Rows3 w' m.ls tx) (hsz : W.drew.heap.size ≤ w'.heap.size) => close_any I hi hs e0 cs tx hcl W.drew w' hrow hsz)
  obtain ⟨n, hn⟩ : ∃ n, m.H.length = n := ⟨_, rfl⟩
  rw [hn] at HBW hi
  have HN := Aside0.mk hn
  have E0 := Aside0.mk e0
  generalize (m.h i).f1 = p at *
  clear hbw hcl hrw hab hH hC hO be gb I hc1 hr1 hrd hmx hn e0 e2
  go_enter Try.func18, Try.ntmps18
  go_upto_region 1 with (fail)
  refine start_ (n := 20) (S := fun w' => w'.rangeAt g 0 cs.toList ∧ w'.cell? ⟨g, 48, none⟩ = some (.slice (some ad) n c1) ∧ w'.cell? (ad.add (i * 2)) = some (.int .i64 (s : Int)) ∧ w'.cell? ⟨(ad.add (i * 2)).block, (ad.add (i * 2)).off + 1, none⟩ = some (.int .i64 p)) (ds := [17]) #[false, false, false, false, false, false, false, false, false, false, false, false, false, false, false, false, false, false, false, false] rfl rfl rfl ⟨drew_range HBW.out.range, HBW.out.c1, x1, x2⟩ (fun hHeld => ?_)
  refine with_tabW reg18.tab1 reg18.bits1 (fun HT_ HW_ => ?_)
  have q1 : (0 ≤ (i : Int)) = True := eq_true (by omega)
  have q2 : ((i : Int) < (n : Int)) = True := eq_true (by omega)
  refine pz_ 0 10 HT_ ?_
  refine pz_ 1 11 HT_ ?_
  refine pz_ 2 12 HT_ ?_
  refine tz_ 3 13 HT_ HW_ hHeld ?_ (hy := yieldsIf_load_mid (by rfl) 28 (.tmp 12) rfl g 0 rfl cs.toList _ (fun _ h => h.1) Try.underlying28 rfl (by rw [Array.length_toList, HCL.out.size]; kernel_rfl))
  refine pz_ 4 14 HT_ ?_
  refine pz_ 5 15 HT_ ?_
  refine pz_ 6 16 HT_ ?_
  refine tz_ 7 17 HT_ HW_ hHeld ?_
  refine pz_ 8 18 HT_ ?_
  refine pz_ 9 19 HT_ ?_
  refine tz_ 10 20 HT_ HW_ hHeld ?_
  have hWD : Below W.drew.heap.size W.drew W.drew := Below.refl _ _
  have HRD := Aside0.mk (HRW.out.below (below_drew1 (Below.refl _ W)))
  have HBD := Aside0.mk (HBW.out.below (below_drew1 (Below.refl _ W)))
  have BED := Aside0.mk (below_drew1 BE.out)
  have HHD := Aside0.mk (Kd.R_drew HH.out)
  have HCD := Aside0.mk (Kd.R_drew HCC.out)
  have HOD := Aside0.mk (Kd.R_drew HOO.out)
  have HS := Aside0.mk hHeld
  obtain ⟨gc, cc, hv2, gc0, gc1, gc2⟩ := Kd.R_form HCC.out (by rw [II.out.len, HN.out]; omega)
  subst hv2
  have hcb0 := Kd.R_cell false HCC.out (i : Int) (by omega) (by rw [II.out.len, HN.out]; omega)
  rw [Int.toNat_natCast, show rdOf false m.C (i : Int) = m.c i by (unfold rdOf Mdl.c; rw [Int.toNat_natCast])] at hcb0
  have hcl := II.out.len
  rw [HN.out] at hcl
  rw [hcl] at HBD HCD
  rw [HN.out] at HHD
  have hcb := Aside0.mk (show W.drew.cell? _ = _ from hcb0.1)
  clear BE HBW HRW HH HCC HOO x1 x2 hHeld gc0 gc1 gc2 hcb0
  generalize W.drew = WD at *
  clear W
  refine join_ (σ := Value × Value × Value × Nat) 3 #[true, true, true, true, true, true, true, true, true, true, true, true, true, true, true, true, true, false, false, false] (fun q => [(21, .tuple #[q.1, q.2.1, q.2.2.1]), (9, .tuple #[q.1, q.2.1, q.2.2.1]), (22, q.1), (23, q.2.1), (24, q.2.2.1), (5, .pointer (some ⟨q.2.2.2, 0, none⟩))]) (fun q w' => Below WD.heap.size WD w' ∧ WD.heap.size ≤ q.2.2.2 ∧ w'.heap[q.2.2.2]? = some (.cells Z48 28 (0, 0)) ∧ CloseR m i s WD tx (.tuple #[q.1, q.2.1, q.2.2.1]) w') ?hcont ?hord
  case hord =>
    intro JN
    have JNN := Aside0.mk JN
    clear JN
    refine two_ (i := 11) (j := 16) (Ni := some 21) (Nj := some 5) #[true, true, true, true, true, true, true, true, true, true, true, true, false, false, false, false, false, false, false, false] #[true, true, true, true, true, true, true, true, true, true, true, false, false, false, false, false, true, false, false, false] rfl rfl rfl rfl (two_of HT_.out (by kernel_rfl)) (by decide) (by decide) (fun K hK => ?_) (fun K hK => ?_)
    · refine goes_ Try.func8 (by kernel_rfl) rfl #[.agg cs, .agg #[.int .i64 (s : Int), .int .i64 p]] (by rfl) rfl rfl ma_ ?_
      refine (hcall.out _ HRD.out (Nat.le_refl _)).mono ?_
      rintro e w1 ⟨r, rfl, hr, hb⟩
      refine ⟨_, rfl, ?_⟩
      refine hK.out _ _ ⟨hr_ hb HS.out.1, hh_ hb HS.out.2.1, hh_ hb HS.out.2.2.1, hh_ hb HS.out.2.2.2⟩ (fun hHeld => ?_)
      clear hK K
      obtain ⟨ra, rb, rc, rfl⟩ := hr.form
      refine pz_ 12 9 HT_ ?_
      refine pz_ 13 22 HT_ ?_
      refine pz_ 14 23 HT_ ?_
      refine pz_ 15 24 HT_ ?_
      refine oz_ 16 5 HT_ (fun K hK => ?_)
      refine value_ rfl rfl (v := .pointer (some ⟨w1.heap.size, 0, none⟩)) (w1 := w1.alloc (.cells Z48 28)) (by go_simp; rfl) ?_
      have hal : Below w1.heap.size w1 (w1.alloc (.cells Z48 28)) := below_alloc (Below.refl _ _) _
      refine hK.out _ _ ⟨hr_ hal hHeld.1, hh_ hal hHeld.2.1, hh_ hal hHeld.2.2.1, hh_ hal hHeld.2.2.2⟩ (fun hHeld => ?_)
      exact norm_ pu_ (JNN.out (ra, rb, rc, w1.heap.size) _ ⟨below_then hb hb.size hal, hb.size, blk_new w1 _, hr.below hal⟩)
    · refine value_ rfl rfl (v := .pointer (some ⟨WD.heap.size, 0, none⟩)) (w1 := WD.alloc (.cells Z48 28)) (by go_simp; rfl) ?_
      have hal : Below WD.heap.size WD (WD.alloc (.cells Z48 28)) := below_alloc (Below.refl _ _) _
      refine hK.out _ _ ⟨hr_ hal HS.out.1, hh_ hal HS.out.2.1, hh_ hal HS.out.2.2.1, hh_ hal HS.out.2.2.2⟩ (fun hHeld => ?_)
      clear hK K
      refine oz_ 11 21 HT_ (fun K hK => ?_)
      refine goes_ Try.func8 (by kernel_rfl) rfl #[.agg cs, .agg #[.int .i64 (s : Int), .int .i64 p]] (by rfl) rfl rfl ma_ ?_
      refine (hcall.out _ (HRD.out.below hal) hal.size).mono ?_
      rintro e w1 ⟨r, rfl, hr, hb⟩
      refine ⟨_, rfl, ?_⟩
      refine hK.out _ _ ⟨hr_ hb hHeld.1, hh_ hb hHeld.2.1, hh_ hb hHeld.2.2.1, hh_ hb hHeld.2.2.2⟩ (fun hHeld => ?_)
      clear hK K
      obtain ⟨ra, rb, rc, rfl⟩ := hr.form
      refine pz_ 12 9 HT_ ?_
      refine pz_ 13 22 HT_ ?_
      refine pz_ 14 23 HT_ ?_
      refine pz_ 15 24 HT_ ?_
      exact norm_ pu_ (JNN.out (ra, rb, rc, WD.heap.size) _ ⟨below_then hal hal.size hb, Nat.le_refl _, blk_below (blk_new WD _) hb, hr⟩)
  case hcont =>
    rintro ⟨ra, rb, rc, b⟩ w1 ⟨f1, f2, f3, f4⟩
    simp only at f2 f3 f4
    refine norm_ (a' := ?_) ?_ ?_
    rotate_left
    · simp only [putAll, Act.put, List.setIfInBounds_toArray, List.set_cons_zero, List.set_cons_succ]; rfl
    rcases f4 with ⟨hc, hrr⟩ | ⟨hc, cs', tx', v, hrr, r1, r2, r3, r4, r5⟩
    · rw [hc] at hcb
      simp only [Value.tuple.injEq, Array.mk.injEq, List.cons.injEq, and_true] at hrr
      obtain ⟨rfl, rfl, rfl⟩ := hrr
      refine last_ (i := 17) (N := none) #[true, true, true, true, true, true, true, true, true, true, true, true, true, true, true, true, true, true, false, false] rfl rfl (one_of HT_.out (by kernel_rfl)) (by decide) (fun K hK => ?_)
      rw [if_pos (by rfl)]
      refine wp_store_mid 28 (.tmp 5) (.tmp 22) rfl b 0 Z48 rfl rfl (there_of f3 (by decide)) (by kernel_rfl) z48_one ?_
      refine hK.out _ _ ?_
      clear hK K
      refine pz_ 18 6 HT_ ?_
      refine pz_ 19 7 HT_ ?_
      refine done_ (done_of HT_.out (by kernel_rfl)) ?_
      clear HT_ HW_
      have hp := Put.mk' f3 (cs := Z48) rfl
      generalize w1.setCells b 0 (Array.toList Z48) = W5 at hp ⊢
      have b5 := hp.below _ _ f2 f1
      have HB5 := Aside0.mk b5
      have HP5 := Aside0.mk hp.at_
      have HF5 := Aside0.mk hp.far
      have HS5 := Aside0.mk hp.size
      clear hp f3 f1
      have hw5 := HBD.out.below b5
      have k2 := hw5.c2
      have k3 := (show W5.cell? ⟨gc, i, none⟩ = _ from hh_ b5 hcb.out)
      clear b5
      simp only [Exit.inBlock, Exit.then]
      go_wp2
      go_ret
      exact ⟨rfl, m, ⟨below_then BED.out BED.out.size HB5.out, GB.out, II.out, cs, tx, _, _, HBD.out.below HB5.out, HCL.out, HRD.out.below HB5.out, HAB.out, Kd.R_below HHD.out HB5.out, Kd.R_below HCD.out HB5.out, Kd.R_below HOD.out HB5.out⟩, rfl⟩
    · rw [hc] at hcb
      simp only [Value.tuple.injEq, Array.mk.injEq, List.cons.injEq, and_true] at hrr
      obtain ⟨rfl, rfl, rfl⟩ := hrr
      refine last_ (i := 17) (N := none) #[true, true, true, true, true, true, true, true, true, true, true, true, true, true, true, true, true, true, false, false] rfl rfl (one_of HT_.out (by kernel_rfl)) (by decide) (fun K hK => ?_)
      rw [if_pos (by rfl)]
      refine wp_store_mid 28 (.tmp 5) (.tmp 22) rfl b 0 cs' rfl rfl (there_of f3 (by rw [r1.size]; exact Nat.le_refl 48)) (by rw [r1.size]; kernel_rfl) (rows_one r1 r2) ?_
      refine hK.out _ _ ?_
      clear hK K
      refine pz_ 18 6 HT_ ?_
      refine pz_ 19 7 HT_ ?_
      refine done_ (done_of HT_.out (by kernel_rfl)) ?_
      clear HT_ HW_
      have hp := Put.mk' f3 (cs := cs') (by rw [r1.size]; rfl)
      generalize w1.setCells b 0 (Array.toList cs') = W5 at hp ⊢
      have b5 := hp.below _ _ f2 f1
      have HB5 := Aside0.mk b5
      have HP5 := Aside0.mk hp.at_
      have HF5 := Aside0.mk hp.far
      have HS5 := Aside0.mk hp.size
      have HR5 := Aside0.mk (r2.put f3 (by decide) hp)
      have HV5 := Aside0.mk (r3.put f3 (by decide) hp)
      clear hp f3 f1
      have hw5 := HBD.out.below b5
      have k2 := hw5.c2
      have k3 := (show W5.cell? ⟨gc, i, none⟩ = _ from hh_ b5 hcb.out)
      have hR5 := Kd.R_below HCD.out HB5.out
      obtain ⟨_, _, hgc5⟩ : ∃ q : Nat, ∃ cells, W5.heap[gc]? = some (.cells cells 4 (0, 0)) := ⟨0, (Kd.R_typed hR5 gc rfl).choose, (Kd.R_typed hR5 gc rfl).choose_spec⟩
      have K3 := Aside0.mk k3
      have K4 := Aside0.mk (blk_frozen hgc5 i)
      have HC5 := Aside0.mk hgc5
      clear hgc5 hR5
      clear b5
      simp only [Exit.inBlock, Exit.then]
      go_upto_region 8 with (first | (refine ld28 (.tmp 5) b cs' HP5.out r1.size ?_) | (refine wpList_store_mid rfl 28 (.tmp 40) (.tmp 38) rfl g 0 cs' rfl rfl (by rw [r1.size]; exact hw5.there) (by rw [r1.size]; kernel_rfl) (rows_one r1 r2) ?_; have hw6 := hw5.put r1.size; have hf6 := fun j (hj : j ≠ g) => setCells_far (w := W5) cs'.toList 0 j hj; have hs6 := (setCells_same g cs'.toList 0 W5).2.2.2; have hb6 := below_setCells' (B := w0.heap.size) GB.out cs'.toList 0 (below_then BED.out BED.out.size HB5.out); generalize W5.setCells g 0 cs'.toList = W6 at hw6 hf6 hs6 hb6; have HW6 := Aside0.mk hw6; have HF6 := Aside0.mk hf6; have HB6 := Aside0.mk hb6; have HS6 := Aside0.mk hs6; clear k2 k3; have k2 := hw6.c2; have gne := ne_ty (t := 4) (u := 44) HC5.out hw5.at_ (by decide); have k3 : W6.cell? ⟨gc, i, none⟩ = some (.bool false) := (World.cell?_of_block (hf6 gc gne)).trans K3.out; have k4 : W6.frozen? ⟨gc, i, none⟩ = false := (World.frozen?_of_block (hf6 gc gne)).trans K4.out; clear hw6 hf6 hs6 hb6))
      have hfr := fr_start (i := i) (s := s) (m := m) HB6.out (by rw [hcl]; exact hw5) (by rw [hcl]; exact HW6.out) HF6.out HR5.out (Kd.R_below HHD.out HB5.out) (by rw [hcl]; exact Kd.R_below HCD.out HB5.out) (Kd.R_below HOD.out HB5.out) HV5.out (by rw [hcl]; exact hi)
      rw [hcl] at hfr
      have HFR := Aside0.mk hfr
      clear hfr
      generalize W6.setCell ⟨gc, i, none⟩ (.bool true) = W7 at HFR ⊢
      have hli : m.live i = true := by rw [II.out.live i (by rw [HN.out]; exact hi), hc]; rfl
      have hrs := II.out.sane.rows s hs
      have hol := own_left II.out (by rw [HN.out]; exact hi) hs E0.out hli (m.ls s) rfl
      have HLI := Aside0.mk hli
      have HCLN := Aside0.mk hcl
      have R1 := Aside0.mk r1
      have R4 := Aside0.mk r4
      have R5 := Aside0.mk r5
      have F2 := Aside0.mk f2
      have HGO := Aside0.mk (Kd.R_lt HOD.out go rfl)
      clear hli hcl HS HP5 HF5 HS5 hw5 K3 K4 HC5 r1 r2 r3 r4 r5 f2 hcall hWD e1 HR5 HV5 HCD HOD HHD HRD HBD hcb hc HW6 HF6 HB6 HS6 k2 k3 k4 gne
      obtain ⟨l, hll⟩ : ∃ l, m.ls s = l := ⟨_, rfl⟩
      rw [hll] at HFR hrs hol
      have HLL := Aside0.mk hll
      clear hll
      obtain ⟨av, cv, rfl, _, _⟩ := HFR.out.had.reads
      have HOL := Aside0.mk hol
      have HRS := Aside0.mk hrs
      have HMX := Aside0.mk (okL_short hrs)
      clear hol hrs
      have hgo : go < WD.heap.size := HGO.out
      have HTX := Aside0.mk (show ∀ q, q < 16 → ∀ k, (tx' q).ownBlock = some k → go < k from fun q hq k hk => (R4.out q hq).elim (fun e => HAB.out q hq k (by rw [← e]; exact hk)) (fun h => by have := h k hk; omega))
      have HVX := Aside0.mk (show ∀ k, (Value.slice av l.length cv).ownBlock = some k → go < k from fun k hk => by have := R5.out k hk; omega)
      clear hgo
      have hmx := HMX.out
      go_wp2
      go_loopg [8] l.length (fun gg s8 wr => ∃ j : Nat, j ≤ l.length ∧ l.length - j ≤ gg ∧ s8 = .int .i64 j ∧ Aside0 (Fr w0 g go i s m cs' tx' (.slice (some ad) n c1) (.slice (some ⟨gc, 0, none⟩) n cc) (.slice av l.length cv) l j wr))
      case atStart =>
        exact ⟨0, Nat.zero_le _, by omega, rfl, HFR⟩
      case round =>
        obtain ⟨j, hj, hgj, rfl, HF⟩ := hrel
        clear HFR
        by_cases hjl : j < l.length
        · have hol := HOL.out j hjl
          have hx := HRS.out.2 l[j] (List.getElem_mem hjl)
          have hfd := HF.out.drew
          have had := hfd.had
          obtain ⟨_, hcv, hrd⟩ := Kd.R_reads' had
          obtain ⟨adv, rfl, hcl⟩ := Kd.at_int hrd (j : Int) (by omega) (by omega)
          rw [Int.toNat_natCast, rdI_at l j hjl] at hcl
          have hoc := Kd.R_celln (0 : Int) hfd.own l[j] hx.1 (by omega)
          rw [hol] at hoc
          have HX := Aside0.mk (show l[j]'hjl = l[j] from rfl)
          obtain ⟨x, hxx⟩ : ∃ x, l[j] = x := ⟨_, rfl⟩
          rw [hxx] at hcl hoc hx
          have hcl' : wr.drew.cell? (adv.add j) = some (.int .i64 x) := by simpa using hcl
          have HXX := Aside0.mk hxx
          have d1 : decide (x < 0) = false := decide_eq_false (by omega)
          have d2 : decide (63 < x) = false := decide_eq_false (by omega)
          have q3 : (0 ≤ (j : Int)) = True := eq_true (by omega)
          have q4 : ((j : Int) < (l.length : Int)) = True := eq_true (by omega)
          have q5 : (0 ≤ x) = True := eq_true hx.1
          have q6 : (x < 64) = True := eq_true hx.2
          have HFD := Aside0.mk hfd
          have HX0 := Aside0.mk hx
          have hcell := hoc.1
          clear hol had hcv hrd hcl hfd HX hxx hx hoc HF
          go_upto_region 11 with (fail)
          refine start_ (n := 26) (S := fun w' => w'.cell? (adv.add j) = some (.int .i64 x) ∧ w'.cell? ⟨g, 50, none⟩ = some (.slice (some ⟨go, 0, none⟩) 64 64) ∧ w'.cell? ⟨go, x.toNat, none⟩ = some (.int .i64 (i : Int))) (ds := []) #[false, false, false, false, false, false, false, false, false, false, false, false, false, false, false, false, false, false, false, false, false, false, false, false, false, false] rfl rfl rfl ⟨hcl', HFD.out.bw.c3, hcell⟩ (fun hHeld => ?_)
          refine with_tabW reg18.tab11 reg18.bits11 (fun HT_ HW_ => ?_)
          refine pz_ 0 53 HT_ ?_
          refine pz_ 1 54 HT_ ?_
          refine pz_ 2 55 HT_ ?_
          refine tz_ 3 56 HT_ HW_ hHeld ?_
          refine pz_ 4 57 HT_ ?_
          refine pz_ 5 58 HT_ ?_
          refine pz_ 6 59 HT_ ?_
          refine pz_ 7 60 HT_ ?_
          refine pz_ 8 61 HT_ ?_
          refine tz_ 9 62 HT_ HW_ hHeld ?_
          refine pz_ 10 63 HT_ ?_
          refine pz_ 11 64 HT_ ?_
          refine pz_ 12 65 HT_ ?_
          refine pz_ 13 66 HT_ ?_
          refine pz_ 14 67 HT_ ?_
          refine pz_ 15 68 HT_ ?_
          refine tz_ 16 69 HT_ HW_ hHeld ?_
          refine pz_ 17 70 HT_ ?_
          refine pz_ 18 71 HT_ ?_
          refine pz_ 19 72 HT_ ?_
          refine tz_ 20 73 HT_ HW_ hHeld ?_
          refine pz_ 21 74 HT_ ?_
          refine tz_ 22 75 HT_ HW_ hHeld ?_
          refine pz_ 23 76 HT_ ?_
          refine pz_ 24 77 HT_ ?_
          refine pz_ 25 78 HT_ ?_
          refine done_ (done_of HT_.out (by kernel_rfl)) ?_
          clear HT_ HW_
          have HFE := Aside0.mk HFD.out.drew
          clear hHeld hcl' hcell HFD
          generalize wr.drew = w2 at HFE ⊢
          simp only [Exit.inBlock, Exit.then]
          go_upto_region 13 with (fail)
          have hfd := HFE.out
          have had := hfd.had
          obtain ⟨_, hcv, hrd⟩ := Kd.R_reads' had
          obtain ⟨adv', hadv, hcl⟩ := Kd.at_int hrd (j : Int) (by omega) (by omega)
          injection hadv with hadv
          subst hadv
          rw [Int.toNat_natCast, rdI_at l j hjl, HXX.out] at hcl
          have hcl' : w2.drew.cell? (adv.add j) = some (.int .i64 x) := by simpa using hcl
          have hoc := Kd.R_celln (0 : Int) hfd.own x HX0.out.1 (by have := HX0.out.2; omega)
          have HFF := Aside0.mk hfd
          have hcell := hoc.1
          have hfz := hoc.2
          clear hoc hcl hfd had hcv hrd HFE
          refine start_ (n := 10) (S := fun w' => w'.cell? (adv.add j) = some (.int .i64 x) ∧ w'.cell? ⟨g, 50, none⟩ = some (.slice (some ⟨go, 0, none⟩) 64 64)) (ds := [9]) #[false, false, false, false, false, false, false, false, false, false] rfl rfl rfl ⟨hcl', HFF.out.bw.c3⟩ (fun hHeld => ?_)
          refine with_tabW reg18.tab13 reg18.bits13 (fun HT_ HW_ => ?_)
          clear hcl'
          generalize w2.drew = w3 at *
          refine pz_ 0 79 HT_ ?_
          refine pz_ 1 80 HT_ ?_
          refine pz_ 2 81 HT_ ?_
          refine tz_ 3 82 HT_ HW_ hHeld ?_
          refine pz_ 4 83 HT_ ?_
          refine pz_ 5 84 HT_ ?_
          refine pz_ 6 85 HT_ ?_
          refine tz_ 7 86 HT_ HW_ hHeld ?_
          refine pz_ 8 87 HT_ ?_
          refine last_ (i := 9) (N := none) #[true, true, true, true, true, true, true, true, true, true] rfl rfl (one_of HT_.out (by kernel_rfl)) (by decide) (fun K hK => ?_)
          refine skip_ (w1 := w3.setCell ⟨go, x.toNat, none⟩ (.int .i64 (-1))) rfl rfl (by go_simp) ?_
          refine hK.out _ _ ?_
          clear hK K hHeld hcell hfz
          refine done_ (done_of HT_.out (by kernel_rfl)) ?_
          clear HT_ HW_
          simp only [Exit.inBlock, Exit.then]
          have HN1 := Aside0.mk (HFF.out.step hjl HTX.out HVX.out x HXX.out)
          go_wp2
          go_roundg (l.length - (j + 1))
          case measure => omega
          case rel => exact ⟨j + 1, by omega, by omega, by go_num, HN1⟩
        · have hje : j = l.length := by omega
          subst hje
          go_wp2
          go_ret
          have hF := HF.out
          have hown := hF.own
          rw [List.take_length, ← HLL.out] at hown
          refine ⟨rfl, m.closed i s, ⟨hF.be, GB.out, II.out.closed (by rw [HN.out]; exact hi) hs E0.out HLI.out, cs', tx', _, _, hF.bw, R1.out, hF.rows, HTX.out, ?_, ?_, hown⟩, rfl⟩
          · have := hF.all; exact this
          · have := hF.shut; exact this
end Go.Proofs.Ytajghkmjgedikaa.Q
