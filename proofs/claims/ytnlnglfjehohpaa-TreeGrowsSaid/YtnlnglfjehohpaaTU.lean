import Derived.Test.YtnlnglfjehohpaaQ0
import Derived.Test.YtnlnglfjehohpaaRU
import Derived.Lib.Hide
namespace Go.Proofs.Ytnlnglfjehohpaa.Q
open Go.RowKit Go.Shelf Go.Proofs.YtnlnglfjehohpaaW Go.Proofs.YtnlnglfjehohpaaW.PrintWords Go.Proofs.YtnlnglfjehohpaaW.PrintLast Go.Proofs.YtnlnglfjehohpaaW.PrintMore
open RU
attribute [local go_sem] Oper.semAt_some
set_option linter.unusedVariables false
set_option linter.unusedSimpArgs false

/-! ### what one stands in -/
def isB (l : List S35) (id : Int) : Bool := decide (0 ≤ id) && decide (id < l.length)
def chn (l : List S35) : Nat → Int → List Int
  | 0, _ => []
  | n + 1, id => if isB l id = true then id :: chn l n (rd_T35 l id).f0 else []
/-- all that one stands in, itself first -/
def chain (l : List S35) (id : Int) : List Int := chn l l.length id

/-- 'is', and what it leaves. -/
theorem is_any (A0 : Option Addr) (c0 : Nat) (l : List S35) (ck id : Int) (w : World) : Calls Try.prog 20 #[.agg #[.slice A0 l.length c0, .int .i64 ck], .int .i64 id] w fun e w' => e = .returned (.bool (isB l id)) ∧ w' = w.alloc (.cells #[.slice A0 l.length c0, .int .i64 ck] 26) := by
  have hu := Try.underlying26
  unfold isB
  by_cases h1 : 0 ≤ id
  · by_cases h2 : id < (l.length : Int)
    · go_enter Try.func20, Try.ntmps20
      go_wp2
      go_ret
      exact ⟨by simp [h1, h2], rfl⟩
    · go_enter Try.func20, Try.ntmps20
      go_wp2
      go_ret
      exact ⟨by simp [h1, h2], rfl⟩
  · go_enter Try.func20, Try.ntmps20
    go_wp2
    go_ret
    exact ⟨by simp; omega, rfl⟩

/-- 'up': its two boxes. -/
theorem up_any (A0 : Option Addr) (c0 : Nat) (l : List S35) (ck id : Int) (w : World) : Calls Try.prog 26 #[.agg #[.slice A0 l.length c0, .int .i64 ck], .int .i64 id] w fun e w' =>
    e = .returned (.func (.func 38) #[] #[.pointer (some ⟨w.heap.size, 0, none⟩), .pointer (some ⟨w.heap.size + 1, 0, none⟩)]) ∧ w' = (w.alloc (.cells #[.slice A0 l.length c0, .int .i64 ck] 26)).alloc (.cells #[.int .i64 id] 3) := by
  have hu := Try.underlying26
  go_enter Try.func26, Try.ntmps26
  go_wp2
  go_ret
  exact ⟨rfl, rfl⟩

theorem chn_succ (l : List S35) (n : Nat) (id : Int) : chn l (n + 1) id = if isB l id = true then id :: chn l n (rd_T35 l id).f0 else [] := rfl

set_option maxRecDepth 100000 in
set_option maxHeartbeats 2000000 in
theorem up1_in (n : Nat) (hn : 1 ≤ n) (A0 : Option Addr) (c0 : Nat) (l : List S35) (ck : Int) (T B lp : Nat) (id0 : Int) (Own : Nat → Prop) (J Jx : List Int → World → Prop) (hJ : LocalTo Own J) (hOB : ¬ Own B)
    (hJT : ∀ s W, J s W → W.heap[T]? = some (.cells #[.slice A0 l.length c0, .int .i64 ck] 26 (0, 0)) ∧ Kd.C k35 W A0 l.length l)
    (hY : ∀ pre x W1, J pre W1 → (∃ post, chain l id0 = pre ++ x :: post) → YieldAt Fence.wide (n - 1) Try.prog lp #[.int .i64 x] W1 fun e W' =>
      (e = .returned (.bool true) ∧ J (pre ++ [x]) W' ∧ W'.heap[B]? = W1.heap[B]?) ∨ (e = .returned (.bool false) ∧ Jx (pre ++ [x]) W'))
    (W : World) (h0 : J [] W) (hB : W.heap[B]? = some (.cells #[.int .i64 id0] 3 (0, 0))) :
    CallsIn Fence.wide n Try.prog 38 #[.func (.yield lp) #[] #[], .pointer (some ⟨T, 0, none⟩), .pointer (some ⟨B, 0, none⟩)] W fun e W' => (∃ v, e = .returned v) ∧ (J (chain l id0) W' ∨ ∃ pre post, chain l id0 = pre ++ post ∧ Jx pre W') := by
  have hu := Try.underlying26
  have hu35 := Try.underlying35
  have hmax : l.length ≤ 9223372036854775807 := (hJT _ _ h0).2.2.1
  have hT := (hJT _ _ h0).1
  have hc0 : W.cell? ⟨T, 0, none⟩ = some (.slice A0 l.length c0) := blk_cell hT 0
  have HJ := Aside0.mk hJ
  have HT := Aside0.mk hJT
  have HY := Aside0.mk hY
  have H0 := Aside0.mk h0
  have HB := Aside0.mk hB
  clear hJ hJT hY h0 hB hT
  refine callsIn_of_wp Try.func38 rfl trivial ?_ rfl
  simp only [Try.ntmps38, List.size_toArray, List.length_cons, List.length_nil, Nat.reduceAdd, Nat.reduceSub, Array.replicate_succ, Array.replicate_zero, List.push_toArray, List.append_toArray, List.nil_append, List.cons_append]
  gi_wp2
  gi_loopw [7] (fun s7 wr => ∃ (k : Nat) (pre : List Int) (id : Int), k ≤ l.length ∧ s7 = .int .i64 k ∧ Aside0 (chain l id0 = pre ++ chn l (l.length - k) id) ∧ Aside0 (J pre wr) ∧ Aside0 (wr.heap[B]? = some (.cells #[.int .i64 id] 3 (0, 0))))
    (fun s7 wr => l.length - (intOf s7).toNat)
  case atStart =>
    exact ⟨0, [], id0, Nat.zero_le _, rfl, ⟨rfl⟩, H0, HB⟩
  case round =>
    obtain ⟨k, pre, id, hk, rfl, HC, HJ1, HB1⟩ := hrel
    by_cases hlt : k < l.length
    · have hT1 := (HT.out _ _ HJ1.out).1
      have ct0 : wr.cell? ⟨T, 0, none⟩ = some (.slice A0 l.length c0) := blk_cell hT1 0
      have ct1 : wr.cell? ⟨T, 1, none⟩ = some (.int .i64 ck) := blk_cell hT1 1
      have cb : wr.cell? ⟨B, 0, none⟩ = some (.int .i64 id) := blk_cell HB1.out 0
      have HIS := Aside0.mk (is_any A0 c0 l ck id)
      obtain ⟨m, hm⟩ : ∃ m, l.length - k = m + 1 := ⟨l.length - k - 1, by omega⟩
      have hcc := HC.out
      rw [hm, chn_succ] at hcc
      have HM := Aside0.mk (show l.length - (k + 1) = m by omega)
      clear hm hT1
      by_cases hi : isB l id = true
      · have hr := HIS
        rw [hi] at HIS
        rw [if_pos hi] at hcc
        have hb1 : 0 ≤ id ∧ id < (l.length : Int) := by unfold isB at hi; simpa using hi
        obtain ⟨g1, g2⟩ := hb1
        have HCC := Aside0.mk hcc
        clear hcc hi hr
        have HJ2 := Aside0.mk (HJ.out _ _ _ HJ1.out (Stays.alloc Own wr (.cells #[.slice A0 l.length c0, .int .i64 ck] 26)))
        have hB2 : (wr.alloc (.cells #[.slice A0 l.length c0, .int .i64 ck] 26)).heap[B]? = some (.cells #[.int .i64 id] 3 (0, 0)) := blk_alloc HB1.out _
        have HB2 := Aside0.mk hB2
        have cb2 : (wr.alloc (.cells #[.slice A0 l.length c0, .int .i64 ck] 26)).cell? ⟨B, 0, none⟩ = some (.int .i64 id) := blk_cell hB2 0
        clear hB2
        obtain ⟨fn, tmps, assign, body, hy, hR⟩ := HY.out pre id _ HJ2.out ⟨_, HCC.out⟩
        have HRR := Aside0.mk hR
        clear hR
        gi_wp2_with (refine ⟨trivial, ?_⟩; gi_at_call 20; refine (callsIn_wide.2 (HIS.out _)).mono ?_; rintro e w' ⟨rfl, rfl⟩)
        refine HRR.out.mono ?_
        rintro e W3 (⟨rfl, hJ3, hk3⟩ | ⟨rfl, hJx3⟩)
        · have hB3 : W3.heap[B]? = some (.cells #[.int .i64 id] 3 (0, 0)) := hk3.trans HB2.out
          have HB3 := Aside0.mk hB3
          have HJ3 := Aside0.mk hJ3
          obtain ⟨hT3, hL3⟩ := HT.out _ _ hJ3
          have dt0 : W3.cell? ⟨T, 0, none⟩ = some (.slice A0 l.length c0) := blk_cell hT3 0
          have db : W3.cell? ⟨B, 0, none⟩ = some (.int .i64 id) := blk_cell hB3 0
          have df := blk_frozen hB3 0
          obtain ⟨ad, rfl, e1, _⟩ := at_T35 hL3 id g1 (by omega)
          have HP := Aside0.mk (show ∀ v, Stays Own W3 (W3.setCell ⟨B, 0, none⟩ v) from fun v => Stays.setCell hOB W3 v)
          clear hk3 hJ3 hT3 hL3 hB3
          obtain ⟨q, hq⟩ : ∃ q, (rd_T35 l id).f0 = q := ⟨_, rfl⟩
          rw [hq] at HCC e1
          clear hq
          gi_wp2
          go_roundw
          case rel => exact ⟨k + 1, pre ++ [id], q, by omega, by go_num, ⟨by rw [HCC.out, HM.out, List.append_assoc]; rfl⟩, ⟨HJ.out _ _ _ HJ3.out (HP.out _)⟩, ⟨blk_set HB3.out 0 _⟩⟩
          case measure => simp [intOf]; omega
        · have HX := Aside0.mk hJx3
          clear hJx3
          gi_wp2
          refine bodyPost_ret (results_none rfl _ _ _) rfl ?_
          exact ⟨⟨_, rfl⟩, .inr ⟨pre ++ [id], _, by rw [HCC.out, List.append_assoc]; rfl, HX.out⟩⟩
      · have hi' : isB l id = false := by simpa using hi
        rw [if_neg hi, List.append_nil] at hcc
        have HCC := Aside0.mk hcc
        clear hcc hi
        rw [hi'] at HIS
        gi_wp2_with (refine ⟨trivial, ?_⟩; gi_at_call 20; refine (callsIn_wide.2 (HIS.out _)).mono ?_; rintro e w' ⟨rfl, rfl⟩)
        refine ⟨fun _ h => (by cases h), ?_⟩
        gi_wp2
        refine bodyPost_ret (results_none rfl _ _ _) rfl ?_
        refine ⟨⟨_, rfl⟩, .inl ?_⟩
        rw [HCC.out]
        exact HJ.out _ _ _ HJ1.out (Stays.alloc Own _ _)
    · have : k = l.length := by omega
      subst this
      gi_wp2
      go_end0
      refine ⟨⟨_, rfl⟩, .inl ?_⟩
      have := HC.out
      rw [Nat.sub_self] at this
      rw [this]
      simpa [chn] using HJ1.out
end Go.Proofs.Ytnlnglfjehohpaa.Q
