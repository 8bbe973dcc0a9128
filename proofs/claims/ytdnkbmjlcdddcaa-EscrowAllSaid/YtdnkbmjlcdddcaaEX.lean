/- fix: a pend is added to its counter. No condition. -/
import Derived.Test.YtdnkbmjlcdddcaaQA
import Derived.Test.YtdnkbmjlcdddcaaDF
namespace Go.Proofs.Ytdnkbmjlcdddcaa.Q
open Go.RowKit Go.Proofs.YtdnkbmjlcdddcaaW Go.Proofs.YtdnkbmjlcdddcaaW.PrintWords Go.Proofs.YtdnkbmjlcdddcaaW.PrintLast Go.Proofs.YtdnkbmjlcdddcaaW.PrintMore
set_option linter.unusedVariables false
set_option linter.unusedSimpArgs false
def fixr.T1 : Bool × List (List Nat × List Nat) := (true, [([], []), ([0], [0]), ([1], [1]), ([2], [2]), ([], []), ([4], [4]), ([3, 5], [3, 5]), ([6], [6]), ([7], [7]), ([], []), ([9], [9]), ([], []), ([11], [11]), ([10, 12], [10, 12]), ([8, 13], [8, 13]), ([3, 5, 0, 1, 2, 3, 4, 5, 6, 7, 8, 9, 10, 11, 12, 13, 14], [3, 5]), ([15, 0, 1, 2, 3, 4, 5, 6, 7, 8, 9, 10, 11, 12, 13, 14], [15]), ([16, 14, 0, 1, 2, 3, 4, 5, 6, 7, 8, 9, 10, 11, 12, 13, 14], [14, 16])])
def fixr.B1 : List Nat := [0, 1, 3, 7, 0, 16, 63, 127, 255, 0, 512, 0, 2048, 7680, 16383, 32767, 65535, 131071]
theorem fixr.tab1 : rtab .any (opsOf Try.f35 1) = fixr.T1 := by kernel_rfl
theorem fixr.bits1 : waitsOk fixr.T1.2 fixr.B1 = true := by kernel_rfl

theorem put_fix {W : World} {base g n cap : Nat} {ok : Nat → Prop} {xs : List S28} (h : Kd.R k28 28 W base ok (.slice (some ⟨g, 0, none⟩) n cap) xs) (k : Nat) (h1 : k < n) (u : Int) :
    W.cell? ⟨g, k * 3 + 2, none⟩ = some (.int .i64 (rd_T28 xs (k : Int)).f2) ∧ W.frozen? ⟨g, k * 3 + 2, none⟩ = false ∧
    ∃ W2, W.setCell ⟨g, k * 3 + 2, none⟩ (.int .i64 u) = W2 ∧ Kd.R k28 28 W2 base ok (.slice (some ⟨g, 0, none⟩) n cap) (xs.set k ⟨(rd_T28 xs (k : Int)).f0, (rd_T28 xs (k : Int)).f1, u⟩) ∧ W.grownBy W2 (some g) := by
  obtain ⟨c, hcl, hM, hcc, hfr⟩ := Kd.R_elem h z28 (k : Int) (by omega) (by omega)
  obtain rfl := k28_openM hM
  have hS := Kd.R_seg h (k : Int) (by omega) (by omega) (seg := [.int .i64 u]) (j := 2) hcl hcc (show 3 ≤ 3 by decide) (x' := (⟨(rd_T28 xs (k : Int)).f0, (rd_T28 xs (k : Int)).f1, u⟩ : S28)) (okp := fun _ => False) (k28_mkM _ _ _ (⟨(rd_T28 xs (k : Int)).f0, (rd_T28 xs (k : Int)).f1, u⟩ : S28)) (fun _ hk => hk.elim)
  have hx2 := hcc 2 _ rfl
  rw [Int.toNat_natCast] at hx2
  refine ⟨hx2, by have := hfr 2; rw [Int.toNat_natCast] at this; exact this, _, rfl, ?_, ?_⟩
  · have := hS.1
    rw [Int.toNat_natCast] at this
    exact this
  · have := hS.2
    rw [Int.toNat_natCast] at this
    exact this
def fixC (l : List S28) (k : Nat) (p2 p3 : Int) : List S28 := l.set k ⟨(rd_T28 l (k : Int)).f0, (rd_T28 l (k : Int)).f1, wrap64 ((rd_T28 l (k : Int)).f2 + wrap64 (p2 + p3))⟩
set_option maxRecDepth 100000 in
set_option maxHeartbeats 4000000 in
theorem fix_any (T : Nat) (A : Option Addr) (c : Nat) (v1 : Value) (l : List S28) (k : Nat) (p1 p2 p3 : Int) (base : Nat) (ok : Nat → Prop) (w0 w : World) (hT : w.heap[T]? = some (.cells #[.slice A l.length c, v1] 32 (0, 0)))
    (HO : k28.R 28 w base ok (.slice A l.length c) l) (hB : Below base w0 w) (hbase : base ≤ w.heap.size) (hk : k < l.length) :
    Calls Try.prog 35 #[.pointer (some ⟨T, 0, none⟩), .agg #[.int .i64 k, .int .i64 p1, .int .i64 p2, .int .i64 p3]] w fun e w' => e = .returned (.tuple #[]) ∧ w'.heap[T]? = some (.cells #[.slice A l.length c, v1] 32 (0, 0)) ∧ k28.R 28 w' base ok (.slice A l.length c) (fixC l k p2 p3) ∧ Below base w0 w' ∧ Kept w w' (fun j => (Value.slice A l.length c).ownBlock = some j) := by
  have hu32 := Try.underlying32
  have hu83 := Try.underlying83
  have hu28 := Try.underlying28
  obtain ⟨g, cap, hv, hbg, hlg, cells, hcg⟩ := Kd.R_form HO (by omega)
  injection hv with hA hn hcc
  subst hA; subst hcc
  have HNT := Aside0.mk (show T ≠ g from fun e => by
    subst e
    rw [hT] at hcg
    injection hcg with hcg
    injection hcg with _ hcg
    exact absurd hcg (by decide))
  have HOO := Aside0.mk HO
  have HB0 := Aside0.mk hB
  have HBASE := Aside0.mk hbase
  have HT0 := Aside0.mk hT
  have HLG := Aside0.mk hlg
  have HBG := Aside0.mk hbg
  have HBR := Aside0.mk (Below.refl w.heap.size w)
  clear HO hB hbase hT hcg hbg hlg
  go_enter Try.func35, Try.ntmps35
  go_upto_region 1 with (first
    | ((with_reducible refine gate_dst (N := 3) rfl ?_); refine box_event ?hg (N := 3) ?hd (cs := #[.int .i64 k, .int .i64 p1, .int .i64 p2, .int .i64 p3]) (t := 83) ?hr ?_; (case hd => rfl); (case hg => rfl); (case hr => first | (go_simp; done) | (go_simp; rfl)); intro b3 hb3_ w2 hbox hb; have BK0 := Aside0.mk hbox; have HB2 := Aside0.mk (below_step HBR.out hb); have BT0 := Aside0.mk (blk_below HT0.out hb); have HG3 := Aside0.mk (show w.heap.size ≤ b3 by rw [hb3_]; exact Nat.le_refl _); clear hbox hb hb3_))
  have HB := Aside0.mk (below_drew1 HB2.out)
  have BK := Aside0.mk (blk_drew BK0.out)
  have BT := Aside0.mk (blk_drew BT0.out)
  have hr4 := Kd.R_below HOO.out HB.out
  obtain ⟨x2, hx2⟩ : ∃ x2, (rd_T28 l (k : Int)).f2 = x2 := ⟨_, rfl⟩
  obtain ⟨i2, f2, W2, hW2, hRW, hgW⟩ := put_fix hr4 k hk (wrap64 ((rd_T28 l (k : Int)).f2 + wrap64 (p2 + p3)))
  have HRW := Aside0.mk (show Kd.R k28 28 W2 base ok (.slice (some ⟨g, 0, none⟩) l.length c) (fixC l k p2 p3) from hRW)
  have HGW := Aside0.mk hgW
  rw [hx2] at i2 hW2
  clear hRW hgW hr4 HB2 BK0 BT0 hx2
  refine start_ (n := 18) (S := fun w' => w'.cell? ⟨T, 0, none⟩ = some (.slice (some ⟨g, 0, none⟩) l.length c) ∧ w'.cell? ⟨g, k * 3 + 2, none⟩ = some (.int .i64 x2) ∧ w'.cell? ⟨b3, 0, none⟩ = some (.int .i64 k) ∧ w'.cell? ⟨b3, 2, none⟩ = some (.int .i64 p2) ∧ w'.cell? ⟨b3, 3, none⟩ = some (.int .i64 p3)) (ds := [17]) #[false, false, false, false, false, false, false, false, false, false, false, false, false, false, false, false, false, false] (by kernel_rfl) rfl rfl ⟨(blk_cell BT.out 0).trans rfl, i2, (blk_cell BK.out 0).trans rfl, (blk_cell BK.out 2).trans rfl, (blk_cell BK.out 3).trans rfl⟩ (fun hHeld => ?_)
  refine with_tabW fixr.tab1 fixr.bits1 (fun HT_ HW_ => ?_)
  generalize w2.drew = w3 at HB BK BT hHeld i2 f2 hW2 HGW ⊢
  have q1 : (0 ≤ (k : Int)) = True := eq_true (by omega)
  have q2 : ((k : Int) < (l.length : Int)) = True := eq_true (by omega)
  refine pz_ 0 4 HT_ ?_
  refine pz_ 1 5 HT_ ?_
  refine pz_ 2 6 HT_ ?_
  refine tz_ 3 7 HT_ HW_ hHeld ?_
  refine pz_ 4 8 HT_ ?_
  refine tz_ 5 9 HT_ HW_ hHeld ?_
  refine pz_ 6 10 HT_ ?_
  refine pz_ 7 11 HT_ ?_
  refine tz_ 8 12 HT_ HW_ hHeld ?_
  refine pz_ 9 13 HT_ ?_
  refine tz_ 10 14 HT_ HW_ hHeld ?_
  refine pz_ 11 15 HT_ ?_
  refine tz_ 12 16 HT_ HW_ hHeld ?_
  refine pz_ 13 17 HT_ ?_
  refine pz_ 14 18 HT_ ?_
  refine pz_ 15 19 HT_ ?_
  refine pz_ 16 20 HT_ ?_
  refine last_ (i := 17) (N := none) #[true, true, true, true, true, true, true, true, true, true, true, true, true, true, true, true, true, true] rfl rfl (one_of HT_.out (by kernel_rfl)) (by decide) (fun K hK => ?_)
  refine skip_ (w1 := ?_) (by rfl) rfl ?_ ?_
  rotate_left
  · go_simp
    rfl
  refine hK.out _ _ ?_
  clear hK K
  refine done_ (done_of HT_.out (by kernel_rfl)) ?_
  clear HT_ HW_ hHeld i2 f2

  have BT6 := Aside0.mk (show W2.heap[T]? = some (.cells #[.slice (some ⟨g, 0, none⟩) l.length c, v1] 32 (0, 0)) by
    rw [← hW2]; exact blk_far BT.out HNT.out _)
  clear hW2 BT BK
  go_wp2
  first | go_end0 | ((try simp only [Exit.inBlock, Exit.then]); refine bodyPost_ret (results_none rfl _ _ _) rfl ?_)
  exact ⟨rfl, BT6.out, HRW.out, (below_then HB0.out HBASE.out HB.out).grown HGW.out (Nat.le_trans HBASE.out HB.out.size) (fun k hk => by injection hk with hk; subst hk; exact HBG.out), Kept.of_grown HGW.out (Kept.of_below HB.out _) (fun k hk => .inl (by injection hk with hk; rw [← hk]; rfl))⟩
end Go.Proofs.Ytdnkbmjlcdddcaa.Q
