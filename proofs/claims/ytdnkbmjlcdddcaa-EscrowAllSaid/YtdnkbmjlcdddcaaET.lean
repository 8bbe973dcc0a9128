/- take: a pend more, in its place. No condition beyond the row's order and length. -/
import Derived.Test.YtdnkbmjlcdddcaaIQ
import Derived.Test.YtdnkbmjlcdddcaaBS
namespace Go.Proofs.Ytdnkbmjlcdddcaa.Q
open Go.RowKit Go.Proofs.YtdnkbmjlcdddcaaW Go.Proofs.YtdnkbmjlcdddcaaW.PrintWords Go.Proofs.YtdnkbmjlcdddcaaW.PrintLast Go.Proofs.YtdnkbmjlcdddcaaW.PrintMore
set_option linter.unusedVariables false
set_option linter.unusedSimpArgs false
theorem row_ne32' {v : Value} {l : List S83} {base : Nat} {ok : Nat → Prop} {w : World} (HO : k83.R 83 w base ok v l) {g : Nat} (hg : v.ownBlock = some g) {cells : Array Value} (hc : w.heap[g]? = some (.cells cells 32 (0, 0))) : False := by
  obtain ⟨cells', hc'⟩ := Kd.R_typed HO g hg
  rw [hc] at hc'
  injection hc' with hc'
  injection hc' with _ hc'
  exact absurd hc' (by decide)
def takeP (l : List S83) (p : S83) : List S83 :=
  if p.f2 = p.f3 then l
  else if hasP l p = true then l.set (posP l p) ⟨(rd_T83 l (posP l p)).f0, (rd_T83 l (posP l p)).f1, wrap64 ((rd_T83 l (posP l p)).f2 + p.f2), wrap64 ((rd_T83 l (posP l p)).f3 + p.f3)⟩
  else l.take (posP l p) ++ p :: l.drop (posP l p)
theorem posP_le (l : List S83) (p : S83) : posP l p ≤ l.length := by
  unfold posP
  exact (List.takeWhile_prefix _).length_le
theorem hasP_lt {l : List S83} {p : S83} (h : hasP l p = true) : posP l p < l.length := by
  unfold hasP at h
  by_cases hp : posP l p < l.length
  · exact hp
  · rw [List.getElem?_eq_none (by omega)] at h; cases h
def tak.T1 : Bool × List (List Nat × List Nat) := (true, [([], []), ([0], [0]), ([1], [1]), ([2], [2]), ([], []), ([3, 4], [3, 4]), ([5], [5]), ([6], [6]), ([6], [6]), ([7, 5, 0, 1, 2, 3, 4, 5, 6, 7], [7]), ([8, 9, 0, 1, 2, 3, 4, 5, 6, 7, 8, 9], [8])])
def tak.B1 : List Nat := [0, 1, 3, 7, 0, 31, 63, 127, 127, 255, 1023]
theorem tak.tab1 : rtab .any (opsOf Try.f34 1) = tak.T1 := by kernel_rfl
theorem tak.bits1 : waitsOk tak.T1.2 tak.B1 = true := by kernel_rfl
def tak.T5 : Bool × List (List Nat × List Nat) := (true, [([], []), ([0], [0]), ([1], [1]), ([2], [2]), ([], []), ([3, 4], [3, 4]), ([5], [5]), ([6], [6]), ([], []), ([8], [8]), ([7, 9], [7, 9]), ([3, 4, 0, 1, 2, 3, 4, 5, 6, 7, 8, 9, 10], [3, 4]), ([11, 0, 1, 2, 3, 4, 5, 6, 7, 8, 9, 10], [11]), ([12, 10, 0, 1, 2, 3, 4, 5, 6, 7, 8, 9, 10], [10, 12])])
def tak.B5 : List Nat := [0, 1, 3, 7, 0, 31, 63, 127, 0, 256, 1023, 2047, 4095, 8191]
theorem tak.tab5 : rtab .any (opsOf Try.f34 5) = tak.T5 := by kernel_rfl
theorem tak.bits5 : waitsOk tak.T5.2 tak.B5 = true := by kernel_rfl
def tak.T6 : Bool × List (List Nat × List Nat) := (true, [([], []), ([0], [0]), ([1], [1]), ([2], [2]), ([], []), ([3, 4], [3, 4]), ([5], [5]), ([6], [6]), ([], []), ([8], [8]), ([7, 9], [7, 9]), ([3, 4, 0, 1, 2, 3, 4, 5, 6, 7, 8, 9, 10], [3, 4]), ([11, 0, 1, 2, 3, 4, 5, 6, 7, 8, 9, 10], [11]), ([12, 10, 0, 1, 2, 3, 4, 5, 6, 7, 8, 9, 10], [10, 12])])
def tak.B6 : List Nat := [0, 1, 3, 7, 0, 31, 63, 127, 0, 256, 1023, 2047, 4095, 8191]
theorem tak.tab6 : rtab .any (opsOf Try.f34 6) = tak.T6 := by kernel_rfl
theorem tak.bits6 : waitsOk tak.T6.2 tak.B6 = true := by kernel_rfl
def tak.T2 : Bool × List (List Nat × List Nat) := (true, [([], []), ([], []), ([1], [1]), ([2], [2]), ([3], [3]), ([], []), ([], []), ([6], [6]), ([4, 5, 7], [4, 5, 7]), ([0, 0, 1, 2, 3, 4, 5, 6, 7, 8], [0]), ([9, 0, 1, 2, 3, 4, 5, 6, 7, 8], [9]), ([10, 8, 8, 0, 1, 2, 3, 4, 5, 6, 7, 8], [8, 10])])
def tak.B2 : List Nat := [0, 0, 2, 6, 14, 0, 0, 64, 254, 511, 1023, 2047]
theorem tak.tab2 : rtab .any (opsOf Try.f34 2) = tak.T2 := by kernel_rfl
theorem tak.bits2 : waitsOk tak.T2.2 tak.B2 = true := by kernel_rfl

theorem lit_row {w : World} {g : Nat} (x : S83) (h : w.heap[g]? = some (.cells #[.int .i64 x.f0, .int .i64 x.f1, .int .i64 x.f2, .int .i64 x.f3] 83 (0, 0))) : k83.R 83 w g (fun _ => True) (.slice (some ⟨g, 0, none⟩) 1 1) [x] :=
  flat83.2 ⟨fun _ _ => trivial, rfl, .inr ⟨g, 1, _, rfl, Nat.le_refl _, h, Nat.le_refl _, by unfold maxLen; omega, rfl, rfl⟩⟩
section
variable {P : Program} {ops : Array Oper} {o : Oper} {a : Act} {Q : Exit → Act → World → Prop} {Kc : Act → World → Prop}
/-- A literal of one, as a step of a drawn region. -/
theorem lit_step1 {W : World} (hw : Region.wanted o (yielded ops a.tmps) = true) {N : Tmp} (_hd : o.dst = some N) {cs : Array Value} {t : TypeId} (n : Nat)
    (hrun : (execOp a.eval o).run P W = .ok (.value (.slice (some ⟨W.heap.size, 0, none⟩) n n)) (W.alloc (.cells cs t (0, 0))))
    (h : ∀ g, g = W.heap.size → ∀ w1, w1.heap[g]? = some (.cells cs t (0, 0)) → Below W.heap.size W w1 → Kc (a.put o.dst (.slice (some ⟨g, 0, none⟩) n n)) w1) : if Region.wanted o (yielded ops a.tmps) = true then Oper.wp P o a W Kc Q else Kc (a.put o.dst undef) W :=
  event_step hw hrun (h _ rfl _ (blk_new W _) (below_alloc (Below.refl _ _) _))
end
theorem put_up {W : World} {base g n cap : Nat} {ok : Nat → Prop} {xs : List S83} (h : Kd.R k83 83 W base ok (.slice (some ⟨g, 0, none⟩) n cap) xs) (k : Nat) (h1 : k < n) (u v : Int) :
    W.cell? ⟨g, k * 4 + 2, none⟩ = some (.int .i64 (rd_T83 xs (k : Int)).f2) ∧ W.cell? ⟨g, k * 4 + 3, none⟩ = some (.int .i64 (rd_T83 xs (k : Int)).f3) ∧ W.frozen? ⟨g, k * 4 + 2, none⟩ = false ∧ (W.setCell ⟨g, k * 4 + 2, none⟩ (.int .i64 u)).cell? ⟨g, k * 4 + 3, none⟩ = some (.int .i64 (rd_T83 xs (k : Int)).f3) ∧ (W.setCell ⟨g, k * 4 + 2, none⟩ (.int .i64 u)).frozen? ⟨g, k * 4 + 3, none⟩ = false ∧
    ∃ W2, (W.setCell ⟨g, k * 4 + 2, none⟩ (.int .i64 u)).setCell ⟨g, k * 4 + 3, none⟩ (.int .i64 v) = W2 ∧ Kd.R k83 83 W2 base ok (.slice (some ⟨g, 0, none⟩) n cap) (xs.set k ⟨(rd_T83 xs (k : Int)).f0, (rd_T83 xs (k : Int)).f1, u, v⟩) ∧ W.grownBy W2 (some g) := by
  obtain ⟨hn, _, _⟩ := Kd.R_reads' h
  obtain ⟨c, hcl, hM, hcc, hfr⟩ := Kd.R_elem h z83 (k : Int) (by omega) (by omega)
  obtain rfl := k83_openM hM
  have hS := Kd.R_seg h (k : Int) (by omega) (by omega) (seg := [.int .i64 u]) (j := 2) hcl hcc (show 3 ≤ 4 by decide) (x' := (⟨(rd_T83 xs (k : Int)).f0, (rd_T83 xs (k : Int)).f1, u, (rd_T83 xs (k : Int)).f3⟩ : S83)) (okp := fun _ => False) (k83_mkM _ _ _ (⟨(rd_T83 xs (k : Int)).f0, (rd_T83 xs (k : Int)).f1, u, (rd_T83 xs (k : Int)).f3⟩ : S83)) (fun _ hk => hk.elim)
  have hil : k < xs.length := by omega
  obtain ⟨c2, hcl2, hM2, hcc2, hfr2⟩ := Kd.R_elem hS.1 z83 (k : Int) (by omega) (by omega)
  rw [Int.toNat_natCast] at hM2
  have hget : (xs.set k (⟨(rd_T83 xs (k : Int)).f0, (rd_T83 xs (k : Int)).f1, u, (rd_T83 xs (k : Int)).f3⟩ : S83)).getD k z83 = ⟨(rd_T83 xs (k : Int)).f0, (rd_T83 xs (k : Int)).f1, u, (rd_T83 xs (k : Int)).f3⟩ := by
    rw [List.getD_eq_getElem?_getD, List.getElem?_set_self hil]; rfl
  rw [hget] at hM2
  obtain rfl := k83_openM hM2
  have hS2 := Kd.R_seg hS.1 (k : Int) (by omega) (by omega) (seg := [.int .i64 v]) (j := 3) hcl2 hcc2 (show 4 ≤ 4 by decide) (x' := (⟨(rd_T83 xs (k : Int)).f0, (rd_T83 xs (k : Int)).f1, u, v⟩ : S83)) (okp := fun _ => False) (k83_mkM _ _ _ (⟨(rd_T83 xs (k : Int)).f0, (rd_T83 xs (k : Int)).f1, u, v⟩ : S83)) (fun _ hk => hk.elim)
  have hx2 := hcc 2 _ rfl
  have hx3 := hcc 3 _ rfl
  have hy3 := hcc2 3 _ rfl
  rw [Int.toNat_natCast] at hx2 hx3 hy3
  refine ⟨hx2, hx3, by have := hfr 2; rw [Int.toNat_natCast] at this; exact this, by have := hcc2 3 _ rfl; rw [Int.toNat_natCast] at this; exact this, by have := hfr2 3; rw [Int.toNat_natCast] at this; exact this, _, rfl, ?_, ?_⟩
  · have := hS2.1
    rw [Int.toNat_natCast, List.set_set] at this
    exact this
  · have := hS.2.trans hS2.2
    rw [Int.toNat_natCast] at this
    exact this
set_option maxRecDepth 100000 in
set_option maxHeartbeats 4000000 in
theorem take_any (T : Nat) (vC : Value) (A : Option Addr) (c : Nat) (l : List S83) (p0 p1 p2 p3 : Int) (base : Nat) (ok : Nat → Prop) (w0 w : World) (hT : w.heap[T]? = some (.cells #[vC, .slice A l.length c] 32 (0, 0))) (hTb : base ≤ T)
    (HO : k83.R 83 w base ok (.slice A l.length c) l) (hB : Below base w0 w) (hbase : base ≤ w.heap.size) (hfr : ∀ k, w.heap.size ≤ k → ok k) (hs : Srt l) (hl : l.length < 4000000000000) :
    Calls Try.prog 34 #[.pointer (some ⟨T, 0, none⟩), .agg #[.int .i64 p0, .int .i64 p1, .int .i64 p2, .int .i64 p3]] w fun e w' => e = .returned (.tuple #[]) ∧ ∃ v' : Value, w'.heap[T]? = some (.cells #[vC, v'] 32 (0, 0)) ∧ k83.R 83 w' base ok v' (takeP l ⟨p0, p1, p2, p3⟩) ∧ Below base w0 w' ∧ Kept w w' (fun k => k = T ∨ (Value.slice A l.length c).ownBlock = some k) := by
  have hu32 := Try.underlying32
  have hu83 := Try.underlying83
  have HBS := Aside0.mk (fun W (hb : Below w.heap.size w W) => bs_any A c l p0 p1 p2 p3 W (Kd.C_below (Kd.R_reads' HO).2.2 hb) hs (by omega))
  have HOO := Aside0.mk HO
  have HB0 := Aside0.mk hB
  have HBASE := Aside0.mk hbase
  have HFR := Aside0.mk hfr
  have HTB := Aside0.mk hTb
  have HL := Aside0.mk hl
  have HT0 := Aside0.mk hT
  have HBR := Aside0.mk (Below.refl w.heap.size w)
  have HNT := Aside0.mk (show (Value.slice A l.length c).ownBlock ≠ some T from fun h => row_ne32' HO h hT)
  clear HO hB hbase hfr hs hl hT hTb
  go_enter Try.func34, Try.ntmps34
  go_upto_region 1 with (first
    | ((with_reducible refine gate_dst (N := 3) rfl ?_); refine box_event ?hg (N := 3) ?hd (cs := #[.int .i64 p0, .int .i64 p1, .int .i64 p2, .int .i64 p3]) (t := 83) ?hr ?_; (case hd => rfl); (case hg => rfl); (case hr => first | (go_simp; done) | (go_simp; rfl)); intro b3 hb3_ w2 hbox hb; have BK0 := Aside0.mk hbox; have HB2 := Aside0.mk (below_step HBR.out hb); have BT0 := Aside0.mk (blk_below HT0.out hb); have HG3 := Aside0.mk (show w.heap.size ≤ b3 by rw [hb3_]; exact Nat.le_refl _); clear hbox hb hb3_))
  have HB := Aside0.mk (below_drew1 HB2.out)
  have BK := Aside0.mk (blk_drew BK0.out)
  have BT := Aside0.mk (blk_drew BT0.out)
  have HN3 := Aside0.mk (show T ≠ b3 from fun e => by have := blk_lt HT0.out; have := HG3.out; omega)
  clear HB2 BK0 BT0
  refine start_ (n := 11) (S := fun w' => w'.cell? ⟨T, 1, none⟩ = some (.slice A l.length c) ∧ w'.cell? ⟨b3, 0, none⟩ = some (.int .i64 p0) ∧ w'.cell? ⟨b3, 1, none⟩ = some (.int .i64 p1) ∧ w'.cell? ⟨b3, 2, none⟩ = some (.int .i64 p2) ∧ w'.cell? ⟨b3, 3, none⟩ = some (.int .i64 p3)) (ds := []) #[false, false, false, false, false, false, false, false, false, false, false] (by kernel_rfl) rfl rfl ⟨(blk_cell BT.out 1).trans rfl, (blk_cell BK.out 0).trans rfl, (blk_cell BK.out 1).trans rfl, (blk_cell BK.out 2).trans rfl, (blk_cell BK.out 3).trans rfl⟩ (fun hHeld => ?_)
  refine with_tabW tak.tab1 tak.bits1 (fun HT_ HW_ => ?_)
  generalize w2.drew = w3 at HB BK BT hHeld ⊢
  refine pz_ 0 7 HT_ ?_
  refine pz_ 1 8 HT_ ?_
  refine pz_ 2 9 HT_ ?_
  refine tz_ 3 10 HT_ HW_ hHeld ?_
  refine tz_ 4 11 HT_ HW_ hHeld ?_
  refine oz_ 5 12 HT_ (fun K hK => ?_)
  refine goes_ Try.func58 (by kernel_rfl) rfl #[.slice A l.length c, .agg #[.int .i64 p0, .int .i64 p1, .int .i64 p2, .int .i64 p3], .func (.func 38) #[] #[]] (by rfl) rfl rfl ma_ ?_
  refine (HBS.out _ HB.out).mono ?_
  rintro e w4 ⟨rfl, hb4⟩
  refine ⟨_, rfl, ?_⟩
  have n0_ := Aside0.mk (blk_below BK.out hb4)
  have n1_ := Aside0.mk (blk_below BT.out hb4)
  have n2_ := Aside0.mk (below_step HB.out hb4)
  clear BK BT HB hb4 hHeld
  have BK := n0_; have BT := n1_; have HB := n2_
  clear n0_ n1_ n2_ HBS
  refine hK.out _ _ ⟨(blk_cell BT.out 1).trans rfl, (blk_cell BK.out 0).trans rfl, (blk_cell BK.out 1).trans rfl, (blk_cell BK.out 2).trans rfl, (blk_cell BK.out 3).trans rfl⟩ (fun hHeld => ?_)
  clear hK K
  refine norm_ (a' := ?_) ?_ ?_
  rotate_left
  · show Act.put _ (some 12) _ = _
    simp only [Act.put, List.setIfInBounds_toArray, List.set_cons_zero, List.set_cons_succ, i64_w, i32_w]
    rfl
  obtain ⟨k, hk⟩ : ∃ k, posP l ⟨p0, p1, p2, p3⟩ = k := ⟨_, rfl⟩
  obtain ⟨q, hq⟩ : ∃ q, hasP l ⟨p0, p1, p2, p3⟩ = q := ⟨_, rfl⟩
  have HKK := Aside0.mk hk
  have HQQ := Aside0.mk hq
  rw [hk, hq]
  clear hk hq
  refine pz_ 6 6 HT_ ?_
  refine pz_ 7 13 HT_ ?_
  refine pz_ 8 14 HT_ ?_
  refine pz_ 9 4 HT_ ?_
  refine pz_ 10 5 HT_ ?_
  refine done_ (done_of HT_.out (by kernel_rfl)) ?_
  clear HT_ HW_ hHeld
  have hz0 : w4.cell? ⟨b3, 2, none⟩ = some (.int .i64 p2) := (blk_cell BK.out 2).trans rfl
  have hz1 : w4.cell? ⟨b3, 3, none⟩ = some (.int .i64 p3) := (blk_cell BK.out 3).trans rfl
  by_cases hpp : p2 = p3
  · have hd : (p2 == p3) = true := beq_iff_eq.2 hpp
    have HR := Aside0.mk (show takeP l ⟨p0, p1, p2, p3⟩ = l by unfold takeP; rw [if_pos hpp])
    clear hpp
    go_wp2
    first | go_end0 | ((try simp only [Exit.inBlock, Exit.then]); refine bodyPost_ret (results_none rfl _ _ _) rfl ?_)
    exact ⟨rfl, _, BT.out, by rw [HR.out]; exact Kd.R_below HOO.out HB.out, below_then HB0.out HBASE.out HB.out, Kept.of_below HB.out _⟩
  · have hd : (p2 == p3) = false := beq_eq_false_iff_ne.2 hpp
    have HPP := Aside0.mk hpp
    clear hpp
    cases q with
    | true =>
      have hkl : k < l.length := by rw [← HKK.out]; exact hasP_lt HQQ.out
      have hr4 := Kd.R_below HOO.out HB.out
      obtain ⟨g, cap, hv, hbg, hlg, cells, hcg⟩ := Kd.R_form hr4 (by omega)
      injection hv with hA hn hcc
      subst hA; subst hcc
      obtain ⟨i2, _, f2, i3, f3, W2, hW2, hRW, hgW⟩ := put_up hr4 k hkl (wrap64 ((rd_T83 l (k : Int)).f2 + p2)) (wrap64 ((rd_T83 l (k : Int)).f3 + p3))
      have HR := Aside0.mk (show takeP l ⟨p0, p1, p2, p3⟩ = l.set k ⟨(rd_T83 l (k : Int)).f0, (rd_T83 l (k : Int)).f1, wrap64 ((rd_T83 l (k : Int)).f2 + p2), wrap64 ((rd_T83 l (k : Int)).f3 + p3)⟩ by unfold takeP; rw [if_neg HPP.out, if_pos HQQ.out, HKK.out])
      have nT : T ≠ g := fun e => HNT.out (by rw [e]; rfl)
      have nT' := Ne.symm nT
      have nB : b3 ≠ g := fun e => by
        have h1 : g < w.heap.size := Kd.R_lt HOO.out g rfl
        have := HG3.out
        omega
      have nB' := Ne.symm nB
      have HRW := Aside0.mk hRW
      have HGW := Aside0.mk hgW
      have HBGB := Aside0.mk hbg
      clear hRW hgW hcg hr4 hbg hlg hz0 hz1
      obtain ⟨x2, hx2⟩ : ∃ x2, (rd_T83 l (k : Int)).f2 = x2 := ⟨_, rfl⟩
      obtain ⟨x3, hx3⟩ : ∃ x3, (rd_T83 l (k : Int)).f3 = x3 := ⟨_, rfl⟩
      rw [hx2] at i2
      rw [hx2, hx3] at i3
      rw [hx2] at f3
      rw [hx2, hx3] at hW2
      have hz0 : w4.cell? ⟨b3, 2, none⟩ = some (.int .i64 p2) := (blk_cell BK.out 2).trans rfl
      have hz1 : w4.cell? ⟨b3, 3, none⟩ = some (.int .i64 p3) := (blk_cell BK.out 3).trans rfl
      go_upto_region 5 with fail
      have hz2 : w4.cell? ⟨T, 1, none⟩ = some (.slice (some ⟨g, 0, none⟩) l.length c) := (blk_cell BT.out 1).trans rfl
      have q1 : (0 ≤ (k : Int)) = True := eq_true (by omega)
      have q2 : ((k : Int) < (l.length : Int)) = True := eq_true (by omega)
      refine start_ (n := 14) (S := fun w' => w'.cell? ⟨T, 1, none⟩ = some (.slice (some ⟨g, 0, none⟩) l.length c) ∧ w'.cell? ⟨g, k * 4 + 2, none⟩ = some (.int .i64 x2) ∧ w'.cell? ⟨b3, 2, none⟩ = some (.int .i64 p2)) (ds := [13]) #[false, false, false, false, false, false, false, false, false, false, false, false, false, false] (by kernel_rfl) rfl rfl ⟨hz2, i2, hz0⟩ (fun hHeld => ?_)
      refine with_tabW tak.tab5 tak.bits5 (fun HT_ HW_ => ?_)
      refine pz_ 0 34 HT_ ?_
      refine pz_ 1 35 HT_ ?_
      refine pz_ 2 36 HT_ ?_
      refine tz_ 3 37 HT_ HW_ hHeld ?_
      refine pz_ 4 38 HT_ ?_
      refine pz_ 5 39 HT_ ?_
      refine pz_ 6 40 HT_ ?_
      refine tz_ 7 41 HT_ HW_ hHeld ?_
      refine pz_ 8 42 HT_ ?_
      refine tz_ 9 43 HT_ HW_ hHeld ?_
      refine pz_ 10 44 HT_ ?_
      refine pz_ 11 45 HT_ ?_
      refine pz_ 12 46 HT_ ?_
      refine last_ (i := 13) (N := none) #[true, true, true, true, true, true, true, true, true, true, true, true, true, true] rfl rfl (one_of HT_.out (by kernel_rfl)) (by decide) (fun K hK => ?_)
      have i2' : w4.drew.cell? ⟨g, k * 4 + 2, none⟩ = some (.int .i64 x2) := i2
      have f2' : w4.drew.frozen? ⟨g, k * 4 + 2, none⟩ = false := f2
      refine skip_ (w1 := ?_) (by rfl) rfl ?_ ?_
      rotate_left
      · go_simp
        rfl
      refine hK.out _ _ ?_
      clear hK K
      refine done_ (done_of HT_.out (by kernel_rfl)) ?_
      clear HT_ HW_ hHeld i2' f2'
      have BT5 := Aside0.mk (blk_drew (blk_far BT.out nT (.int .i64 (wrap64 (x2 + p2))) (p := ⟨g, k * 4 + 2, none⟩)))
      have BK5 := Aside0.mk (blk_drew (blk_far BK.out nB (.int .i64 (wrap64 (x2 + p2))) (p := ⟨g, k * 4 + 2, none⟩)))
      have i5 : (w4.setCell ⟨g, k * 4 + 2, none⟩ (.int .i64 (wrap64 (x2 + p2)))).drew.cell? ⟨g, k * 4 + 3, none⟩ = some (.int .i64 x3) := i3
      have f5 : (w4.setCell ⟨g, k * 4 + 2, none⟩ (.int .i64 (wrap64 (x2 + p2)))).drew.frozen? ⟨g, k * 4 + 3, none⟩ = false := f3
      have HW5 := Aside0.mk (show (w4.setCell ⟨g, k * 4 + 2, none⟩ (.int .i64 (wrap64 (x2 + p2)))).drew.setCell ⟨g, k * 4 + 3, none⟩ (.int .i64 (wrap64 (x3 + p3))) = W2.drew by rw [← hW2]; rfl)
      clear hW2 i2 f2 i3 f3 hz0 hz1 hz2 BT BK
      generalize (w4.setCell ⟨g, k * 4 + 2, none⟩ (.int .i64 (wrap64 (x2 + p2)))).drew = w5 at BT5 BK5 i5 f5 HW5 ⊢
      go_upto_region 6 with fail
      refine start_ (n := 14) (S := fun w' => w'.cell? ⟨T, 1, none⟩ = some (.slice (some ⟨g, 0, none⟩) l.length c) ∧ w'.cell? ⟨g, k * 4 + 3, none⟩ = some (.int .i64 x3) ∧ w'.cell? ⟨b3, 3, none⟩ = some (.int .i64 p3)) (ds := [13]) #[false, false, false, false, false, false, false, false, false, false, false, false, false, false] (by kernel_rfl) rfl rfl ⟨(blk_cell BT5.out 1).trans rfl, i5, (blk_cell BK5.out 3).trans rfl⟩ (fun hHeld => ?_)
      refine with_tabW tak.tab6 tak.bits6 (fun HT_ HW_ => ?_)
      refine pz_ 0 47 HT_ ?_
      refine pz_ 1 48 HT_ ?_
      refine pz_ 2 49 HT_ ?_
      refine tz_ 3 50 HT_ HW_ hHeld ?_
      refine pz_ 4 51 HT_ ?_
      refine pz_ 5 52 HT_ ?_
      refine pz_ 6 53 HT_ ?_
      refine tz_ 7 54 HT_ HW_ hHeld ?_
      refine pz_ 8 55 HT_ ?_
      refine tz_ 9 56 HT_ HW_ hHeld ?_
      refine pz_ 10 57 HT_ ?_
      refine pz_ 11 58 HT_ ?_
      refine pz_ 12 59 HT_ ?_
      refine last_ (i := 13) (N := none) #[true, true, true, true, true, true, true, true, true, true, true, true, true, true] rfl rfl (one_of HT_.out (by kernel_rfl)) (by decide) (fun K hK => ?_)
      have i5' : w5.drew.cell? ⟨g, k * 4 + 3, none⟩ = some (.int .i64 x3) := i5
      have f5' : w5.drew.frozen? ⟨g, k * 4 + 3, none⟩ = false := f5
      refine skip_ (w1 := ?_) (by rfl) rfl ?_ ?_
      rotate_left
      · go_simp
        rfl
      refine hK.out _ _ ?_
      clear hK K
      refine done_ (done_of HT_.out (by kernel_rfl)) ?_
      clear HT_ HW_ hHeld i5' f5' i5 f5
      have HW6 := Aside0.mk (show (w5.setCell ⟨g, k * 4 + 3, none⟩ (.int .i64 (wrap64 (x3 + p3)))).drew = W2.drew.drew by rw [HW5.out])
      have BT6 := Aside0.mk (show W2.drew.drew.heap[T]? = some (.cells #[vC, .slice (some ⟨g, 0, none⟩) l.length c] 32 (0, 0)) by
        rw [← HW6.out]; exact blk_drew (blk_far BT5.out nT _))
      clear HW5 BT5 BK5
      go_wp2
      first | go_end0 | ((try simp only [Exit.inBlock, Exit.then]); refine bodyPost_ret (results_none rfl _ _ _) rfl ?_)
      have hb6 : Below base w0 W2.drew.drew := below_drew1 (below_drew1 ((below_then HB0.out HBASE.out HB.out).grown HGW.out (Nat.le_trans HBASE.out HB.out.size) (fun k hk => by injection hk with hk; subst hk; exact HBGB.out)))
      refine ⟨rfl, .slice (some ⟨g, 0, none⟩) l.length c, ?_, ?_, ?_, ?_⟩
      · first | exact BT6.out | (rw [HW6.out]; exact BT6.out) | (have e := HW6.out; exact e ▸ BT6.out)
      · rw [HR.out]
        have := Kd.R_drew (Kd.R_drew HRW.out)
        first | exact this | (rw [HW6.out]; exact this)
      · first | exact hb6 | (rw [HW6.out]; exact hb6)
      · have : Kept w W2 (fun k => k = T ∨ (Value.slice (some (⟨g, 0, none⟩ : Addr)) l.length c).ownBlock = some k) := Kept.of_grown HGW.out (Kept.of_below HB.out _) (fun k hk => .inl (.inr (by injection hk with hk; rw [← hk]; rfl)))
        first | exact (this.drew).drew | (rw [HW6.out]; exact (this.drew).drew)
    | false =>
      have HR := Aside0.mk (show takeP l ⟨p0, p1, p2, p3⟩ = l.take k ++ ⟨p0, p1, p2, p3⟩ :: l.drop k by unfold takeP; rw [if_neg HPP.out, if_neg (by rw [HQQ.out]; decide), HKK.out])
      have hkl : k ≤ l.length := by rw [← HKK.out]; exact posP_le l _
      go_upto_region 2 with fail
      clear hz0 hz1
      have n0_ := Aside0.mk (blk_drew BT.out)
      have n1_ := Aside0.mk (blk_drew BK.out)
      have n2_ := Aside0.mk (below_drew1 HB.out)
      clear BT BK HB
      have BT := n0_; have BK := n1_; have HB := n2_
      clear n0_ n1_ n2_
      refine start_ (n := 12) (S := fun w' => w'.cell? ⟨T, 1, none⟩ = some (.slice A l.length c) ∧ w'.cell? ⟨b3, 0, none⟩ = some (.int .i64 p0) ∧ w'.cell? ⟨b3, 1, none⟩ = some (.int .i64 p1) ∧ w'.cell? ⟨b3, 2, none⟩ = some (.int .i64 p2) ∧ w'.cell? ⟨b3, 3, none⟩ = some (.int .i64 p3)) (ds := [11]) #[false, false, false, false, false, false, false, false, false, false, false, false] (by kernel_rfl) rfl rfl ⟨(blk_cell BT.out 1).trans rfl, (blk_cell BK.out 0).trans rfl, (blk_cell BK.out 1).trans rfl, (blk_cell BK.out 2).trans rfl, (blk_cell BK.out 3).trans rfl⟩ (fun hHeld => ?_)
      refine with_tabW tak.tab2 tak.bits2 (fun HT_ HW_ => ?_)
      generalize w4.drew = w5 at BT BK HB hHeld ⊢
      refine pz_ 0 15 HT_ ?_
      refine pz_ 1 16 HT_ ?_
      refine pz_ 2 17 HT_ ?_
      refine pz_ 3 18 HT_ ?_
      refine pz_ 5 20 HT_ ?_
      refine tz_ 4 19 HT_ HW_ hHeld ?_
      refine tz_ 6 21 HT_ HW_ hHeld ?_
      refine oz_ 7 22 HT_ (fun K hK => ?_)
      refine lit_step1 ?hw (N := 22) ?hd (cs := #[.int .i64 p0, .int .i64 p1, .int .i64 p2, .int .i64 p3]) (t := 83) 1 ?hr ?_
      case hd => rfl
      case hw => rfl
      case hr => first | (go_simp; done) | (go_simp; rfl)
      intro gv hgv w6 hbox hb6
      have HV := Aside0.mk (lit_row ⟨p0, p1, p2, p3⟩ hbox)
      have n0_ := Aside0.mk (blk_below BT.out hb6)
      have n1_ := Aside0.mk (blk_below BK.out hb6)
      have n2_ := Aside0.mk (below_step HB.out hb6)
      have HGV := Aside0.mk (show w.heap.size ≤ gv by rw [hgv]; exact HB.out.size)
      clear BT BK HB hbox hb6 hgv hHeld
      have BT := n0_; have BK := n1_; have HB := n2_
      clear n0_ n1_ n2_
      refine hK.out _ _ ⟨(blk_cell BT.out 1).trans rfl, (blk_cell BK.out 0).trans rfl, (blk_cell BK.out 1).trans rfl, (blk_cell BK.out 2).trans rfl, (blk_cell BK.out 3).trans rfl⟩ (fun hHeld => ?_)
      clear hK K
      refine norm_ (a' := ?_) ?_ ?_
      rotate_left
      · show Act.put _ (some 22) _ = _
        simp only [Act.put, List.setIfInBounds_toArray, List.set_cons_zero, List.set_cons_succ, i64_w, i32_w]
        rfl
      refine oz_ 8 23 HT_ (fun K hK => ?_)
      refine goes_ Try.func59 (by kernel_rfl) rfl #[.slice A l.length c, .int .i64 k, .slice (some ⟨gv, 0, none⟩) 1 1] (by rfl) rfl rfl ma_ ?_
      refine (insert_any (.slice A l.length c) k gv 1 l ⟨p0, p1, p2, p3⟩ base gv ok (fun _ => True) w0 w6 (Kd.R_below HOO.out HB.out) (below_then HB0.out HBASE.out HB.out) (Nat.le_trans HBASE.out HB.out.size) (fun k hk => HFR.out k (Nat.le_trans HB.out.size hk)) HV.out (fun h => by have := Kd.R_lt HOO.out gv h; have := HGV.out; omega) hkl HL.out).mono ?_
      rintro e w7 ⟨v7, rfl, ho7, hb7, hk7, hown7⟩
      rw [← HR.out] at ho7
      refine ⟨_, rfl, ?_⟩
      have HO7 := Aside0.mk ho7
      have HB7 := Aside0.mk hb7
      have HK7 := Aside0.mk (show Kept w w7 (fun k => (Value.slice A l.length c).ownBlock = some k) from (Kept.of_below HB.out _).then_ hk7 (fun _ h => .inl h))
      have BT7 := Aside0.mk (blk_kept BT.out hk7 HNT.out)
      have hn3 : (Value.slice A l.length c).ownBlock ≠ some b3 := fun h => by have := Kd.R_lt HOO.out b3 h; have := HG3.out; omega
      have BK7 := Aside0.mk (blk_kept BK.out hk7 hn3)
      clear ho7 hb7 hk7 hown7 hn3 HB BT BK hHeld HV
      refine hK.out _ _ ⟨(blk_cell BT7.out 1).trans rfl, (blk_cell BK7.out 0).trans rfl, (blk_cell BK7.out 1).trans rfl, (blk_cell BK7.out 2).trans rfl, (blk_cell BK7.out 3).trans rfl⟩ (fun hHeld => ?_)
      clear hK K
      refine norm_ (a' := ?_) ?_ ?_
      rotate_left
      · show Act.put _ (some 23) _ = _
        simp only [Act.put, List.setIfInBounds_toArray, List.set_cons_zero, List.set_cons_succ, i64_w, i32_w]
        rfl
      obtain ⟨A7, c7, rfl⟩ := Kd.R_slice HO7.out
      refine pz_ 9 24 HT_ ?_
      refine pz_ 10 25 HT_ ?_
      refine last_ (i := 11) (N := none) #[true, true, true, true, true, true, true, true, true, true, true, true] rfl rfl (one_of HT_.out (by kernel_rfl)) (by decide) (fun K hK => ?_)
      have i7 : w7.cell? ⟨T, 1, none⟩ = some (.slice A l.length c) := (blk_cell BT7.out 1).trans rfl
      have f7 := blk_frozen BT7.out 1
      refine skip_ (w1 := ?_) (by rfl) rfl ?_ ?_
      rotate_left
      · go_simp
        rfl
      refine hK.out _ _ ?_
      clear hK K
      refine done_ (done_of HT_.out (by kernel_rfl)) ?_
      clear HT_ HW_ hHeld i7 f7
      go_wp2
      first | go_end0 | ((try simp only [Exit.inBlock, Exit.then]); refine bodyPost_ret (results_none rfl _ _ _) rfl ?_)
      refine ⟨rfl, _, blk_set BT7.out 1 _, Kd.R_set HO7.out BT7.out (by decide) 1 _, HB7.out.setCell HTB.out _, (HK7.out.mono (fun k hk => .inr hk)).setCell (.inl (.inl rfl)) _⟩
end Go.Proofs.Ytdnkbmjlcdddcaa.Q
