import Derived.Test.YtnlnglfjehohpaaTV
import Derived.Lib.SliceRun
import Derived.Shelf.GgClosure.Gives
namespace Go.Proofs.Ytnlnglfjehohpaa.Q
open Go.RowKit Go.Proofs.YtnlnglfjehohpaaW Go.Proofs.YtnlnglfjehohpaaW.PrintWords Go.Proofs.YtnlnglfjehohpaaW.PrintLast Go.Proofs.YtnlnglfjehohpaaW.PrintMore
set_option linter.unusedVariables false
set_option linter.unusedSimpArgs false

/-! ### slices.Clone at transactions -/
def tree_Tx.f (l0 : List S35) : Option (List S35) := if l0.length < 4398046511104 then some l0 else none

set_option maxHeartbeats 1600000 in
theorem tree_Tx.calls (A0 : Option Addr) (c0 : Nat) (l0 : List S35) (r : List S35) (w : World) (hr0 : Kd.C k35 w A0 l0.length l0) (hc0 : l0.length ≤ c0) (h : tree_Tx.f l0 = some r) :
    Calls Try.prog 39 #[.slice A0 l0.length c0] w fun e w' => ∃ v0_ : Value, e = .returned v0_ ∧ Kd.R k35 35 w' w.heap.size (fun _ => True) v0_ r ∧ Below w.heap.size w w' := by
  unfold tree_Tx.f at h
  by_cases hl : l0.length < 4398046511104
  case neg => rw [if_neg hl] at h; cases h
  rw [if_pos hl] at h
  obtain rfl := Option.some.inj h
  clear h
  have q24 := fun W => Lib.run_eql_slice_nil (P := Try.prog) W 24 35 A0 l0.length c0 0 0 Try.underlying24
  cases A0 with
  | none =>
    have h0 : l0 = [] := by
      have := hr0.2.2
      by_cases hp : 0 < l0.length
      · obtain ⟨a, ha, _⟩ := this hp; cases ha
      · exact List.eq_nil_of_length_eq_zero (by omega)
    subst h0
    clear hr0
    have q24 : ∀ W, (binOp .eql 24 (.slice none 0 c0) (.slice none 0 0)).run Try.prog W = .ok (.bool true) W := q24
    go_enter Try.func39, Try.ntmps39
    go_wp2
    go_ret
    exact ⟨_, rfl, Kd.R_nil _ _ _ _ _, Below.refl _ _⟩
  | some a0 =>
    have q24 : ∀ W, (binOp .eql 24 (.slice (some a0) l0.length c0) (.slice none 0 0)).run Try.prog W = .ok (.bool false) W := q24
    have HR := Aside0.mk hr0
    have HC := Aside0.mk hc0
    have HB := Aside0.mk (Below.refl w.heap.size w)
    have HL := Aside0.mk hl
    clear hr0 hc0 hl
    go_enter Try.func39, Try.ntmps39
    go_wp2_with (first | ((with_reducible refine gate_dst (N := 5) rfl ?_); refine Kd.R_lit k35 _ 35 ?hg (N := 5) ?hd (xs := ([] : List (S35))) (inner := []) (ok := fun _ => True) (okp := fun _ => True) ?hr ?hp (fun _ hk => hk) trivial (Below.refl _ _) (Nat.le_refl _) (by simp) ?_; (case hd => rfl); (case hg => rfl); (case hr => first | (go_simp; done) | (go_simp; rfl)); (case hp => exact (Reps.none _ _)); intro v1 w1 ho1 hb hg_ hnew_; clear hg_ hnew_; have HO := Aside0.mk ho1; have HB1 := Aside0.mk hb; clear hb ho1) | ((with_reducible refine gate_builtin (b := .append) (xs := #[.tmp 5, .tmp 6]) rfl ?_); at_builtin; refine Kd.R_append_rows k35 (w0 := w) w.heap.size rfl (.tmp 5) (.tmp 6) 24 35 (.agg #[(.int .i64 0), (.int .i64 0), (.int .i64 0), (.int .i64 0)]) 32 rfl Try.underlying24 info35 rfl (by decide) (by omega) v1 [] l0 _ _ _ (fun _ => True) (fun _ => False) rfl rfl ?aO ?aR (fun _ _ h => h) (fun _ h => h.elim) ?aF ?aB ?aS ?aL ?_; (case aO => exact HO.out); (case aR => exact (Kd.C_below HR.out HB1.out)); (case aF => exact (fun _ _ => trivial)); (case aB => exact HB1.out); (case aS => exact HB1.out.size); (case aL => have := HL.out; simp only [List.length_nil]; omega); intro v2 w2 ho hb hg hat; rw [List.nil_append] at ho; have HO2 := Aside0.mk ho; have HB2 := Aside0.mk hb; clear ho hb hg hat))
    go_ret
    exact ⟨_, rfl, HO2.out, HB2.out⟩

/-! ### inside -/
/-- What a function on a transaction tells. -/
def TellsC (g : Nat) (p : S35 → Bool) : Prop := ∀ (x : S35) (W : World), Calls Try.prog g #[.agg #[.int .i64 x.f0, .int .i64 x.f1, .int .i64 x.f2, .int .i64 x.f3]] W fun e w' => e = .returned (.bool (p x)) ∧ Below W.heap.size W w'
/-- The places below n that stand in id, of which p holds. -/
def insideL (p : S35 → Bool) (l : List S35) (id : Int) (n : Nat) : List Int := ((List.range n).filter (fun k : Nat => p (rd_T35 l (k : Int)) && decide (id ∈ chain l (k : Int)))).map (fun k : Nat => (k : Int))
theorem insideL_snoc (p : S35 → Bool) (l : List S35) (id : Int) (n : Nat) : insideL p l id (n + 1) = insideL p l id n ++ (if (p (rd_T35 l (n : Int)) && decide (id ∈ chain l (n : Int))) = true then [(n : Int)] else []) := by
  unfold insideL
  rw [List.range_succ, List.filter_append, List.map_append]
  congr 1
  by_cases h : (p (rd_T35 l (n : Int)) && decide (id ∈ chain l (n : Int))) = true
  · rw [if_pos h]; simp only [List.filter_cons, h, if_true, List.filter_nil, List.map_cons, List.map_nil]
  · rw [if_neg h]; simp only [List.filter_cons, h, List.filter_nil, List.map_nil]; rfl
theorem insideL_len (p : S35 → Bool) (l : List S35) (id : Int) (n : Nat) : (insideL p l id n).length ≤ n := by
  unfold insideL
  rw [List.length_map]
  exact Nat.le_trans (List.length_filter_le _ _) (by simp)

set_option maxRecDepth 100000 in
set_option maxHeartbeats 4000000 in
theorem inside_any (g : Nat) (p : S35 → Bool) (eg : ∀ args w, (callFunc g args).run Try.prog w = .ok (.enter g args) w) (hg : TellsC g p) (A0 : Option Addr) (c0 : Nat) (l0 : List S35) (a0 : Int) (a1 : Int) (w : World) (hr0 : Kd.C k35 w A0 l0.length l0) (hc0 : l0.length ≤ c0) (hl : l0.length < 1000000000) :
    Calls Try.prog 21 #[.agg #[.slice A0 l0.length c0, .int .i64 a0], .int .i64 a1, .func (.func g) #[] #[]] w fun e w' => ∃ v0_ : Value, e = .returned v0_ ∧ Kd.R (Kd.int .i64) 3 w' w.heap.size (fun _ => True) v0_ (insideL p l0 a1 l0.length) ∧ Below w.heap.size w w' := by
  have hu := Try.underlying26
  have hu35 := Try.underlying35
  have hmax : l0.length ≤ 9223372036854775807 := hr0.2.1
  have HR := Aside0.mk hr0
  have HC := Aside0.mk hc0
  have HG := Aside0.mk hg
  have HL := Aside0.mk hl
  have HWI := Aside0.mk (fun k W (hW : Below w.heap.size w W) => tree_Within.calls A0 c0 l0 a0 k a1 _ W (Kd.C_below hr0 hW) hc0 rfl)
  clear hr0 hc0 hg hl
  go_enter Try.func21, Try.ntmps21
  go_wp2
  go_loopg [7, 13] l0.length (fun gg s7 s13 wr => ∃ (k : Nat), k ≤ l0.length ∧ l0.length - k ≤ gg ∧ s13 = .int .i64 k ∧ Aside0 (Kd.R (Kd.int .i64) 3 wr w.heap.size (fun _ => True) s7 (insideL p l0 a1 k)) ∧ Aside0 (Below w.heap.size w wr) ∧ Aside0 (wr.heap[w.heap.size]? = some (.cells #[.slice A0 l0.length c0, .int .i64 a0] 26 (0, 0))))
  case atStart =>
    exact ⟨0, Nat.zero_le _, by omega, rfl, ⟨Kd.R_nil _ _ _ _ _⟩, ⟨(Below.refl _ _).alloc (Nat.le_refl _) _⟩, ⟨blk_new w _⟩⟩
  case round =>
    obtain ⟨k, hk, hgk, rfl, HO, HB, HT⟩ := hrel
    by_cases hlt : k < l0.length
    · obtain ⟨ad, rfl, e0, e1, e2, e3⟩ := at_T35 (Kd.C_below HR.out HB.out) (k : Int) (by omega) (by omega)
      have hsn := insideL_snoc p l0 a1 k
      rw [Int.toNat_natCast] at e0 e1 e2 e3
      have HWK := Aside0.mk (HWI.out (k : Int))
      generalize rd_T35 l0 (k : Int) = x at *
      have HGX := Aside0.mk (HG.out x)
      obtain ⟨x0, x1, x2, x3⟩ := x
      simp only at e0 e1 e2 e3
      obtain ⟨b1, hb1⟩ : ∃ b, p ⟨x0, x1, x2, x3⟩ = b := ⟨_, rfl⟩
      obtain ⟨b2, hb2⟩ : ∃ b, decide (a1 ∈ chain l0 (k : Int)) = b := ⟨_, rfl⟩
      rw [hb1, hb2] at hsn
      rw [hb1] at HGX
      rw [hb2] at HWK
      have HLEN := Aside0.mk (insideL_len p l0 a1 k)
      clear hb1 hb2
      have hwl : w.heap.size < wr.heap.size := blk_lt HT.out
      cases b1 with
      | false =>
        simp only [Bool.false_and, if_neg (show ¬ (false = true) by decide), List.append_nil] at hsn
        have HSN := Aside0.mk hsn
        clear hsn
        go_wp2_with (go_at_fn g; refine (HGX.out _).mono ?_; rintro e w1 ⟨rfl, hb⟩; have T1 := Aside0.mk (blk_below (blk_alloc HT.out _) hb); have t10 := blk_cell T1.out 0; have t11 := blk_cell T1.out 1; have B1 := Aside0.mk (below_then (HB.out.alloc HB.out.size _) (HB.out.alloc HB.out.size _).size hb); have O1 := Aside0.mk (Kd.R_below (Kd.R_alloc HO.out _) hb); clear hb)
        go_roundg (l0.length - (k + 1))
        case measure => omega
        case rel => exact ⟨k + 1, by omega, by omega, by go_num, ⟨by rw [HSN.out]; exact O1.out⟩, B1, T1⟩
      | true =>
        cases b2 with
        | false =>
          simp only [Bool.and_false, if_neg (show ¬ (false = true) by decide), List.append_nil] at hsn
          have HSN := Aside0.mk hsn
          clear hsn
          go_wp2_with (first | (go_at_fn g; refine (HGX.out _).mono ?_; rintro e w1 ⟨rfl, hb⟩; have T1 := Aside0.mk (blk_below (blk_alloc HT.out _) hb); have t10 := blk_cell T1.out 0; have t11 := blk_cell T1.out 1; have B1 := Aside0.mk (below_then (HB.out.alloc HB.out.size _) (HB.out.alloc HB.out.size _).size hb); have O1 := Aside0.mk (Kd.R_below (Kd.R_alloc HO.out _) hb); clear hb) | (go_at_call 12; refine (HWK.out _ B1.out).mono ?_; rintro e w2 ⟨rfl, hb⟩; have T2 := Aside0.mk (blk_below T1.out hb); have B2 := Aside0.mk (below_then B1.out B1.out.size hb); have O2 := Aside0.mk (Kd.R_below O1.out hb); clear hb))
          go_roundg (l0.length - (k + 1))
          case measure => omega
          case rel => exact ⟨k + 1, by omega, by omega, by go_num, ⟨by rw [HSN.out]; exact O2.out⟩, B2, T2⟩
        | true =>
          simp only [Bool.and_true, if_true] at hsn
          have HSN := Aside0.mk hsn
          clear hsn
          go_wp2_with (first | (go_at_fn g; refine (HGX.out _).mono ?_; rintro e w1 ⟨rfl, hb⟩; have T1 := Aside0.mk (blk_below (blk_alloc HT.out _) hb); have t10 := blk_cell T1.out 0; have t11 := blk_cell T1.out 1; have B1 := Aside0.mk (below_then (HB.out.alloc HB.out.size _) (HB.out.alloc HB.out.size _).size hb); have O1 := Aside0.mk (Kd.R_below (Kd.R_alloc HO.out _) hb); clear hb) | (go_at_call 12; refine (HWK.out _ B1.out).mono ?_; rintro e w2 ⟨rfl, hb⟩; have T2 := Aside0.mk (blk_below T1.out hb); have B2 := Aside0.mk (below_then B1.out B1.out.size hb); have O2 := Aside0.mk (Kd.R_below O1.out hb); clear hb) | ((with_reducible refine gate_builtin (b := .append) (xs := #[.tmp 27, .tmp 29]) rfl ?_); at_builtin; refine Kd.R_append (Kd.int .i64) (w0 := w) w.heap.size rfl (.tmp 27) (.tmp 29) 28 3 (.int .i64 0) 8 rfl Try.underlying28 info3 rfl (by decide) (by omega) _ (insideL p l0 a1 k) (k : Int) [.int .i64 (k : Int)] (fun _ => True) (fun _ => False) rfl (by first | (go_simp; done) | (go_simp; rfl)) ?aP (fun _ hk => hk.elim) (fun _ _ => trivial) O2.out B2.out B2.out.size ?aL ?_; (case aP => exact rfl); (case aL => have := HLEN.out; have := HL.out; omega); intro v3 w3 ho hb hg hat; have O3 := Aside0.mk ho; have B3 := Aside0.mk hb; have T3 := Aside0.mk (blk_grown T2.out hg (fun he => Kd.R_ne O2.out T2.out (by decide) he)); clear ho hb hg hat))
          go_roundg (l0.length - (k + 1))
          case measure => omega
          case rel => exact ⟨k + 1, by omega, by omega, by go_num, ⟨by rw [HSN.out]; exact O3.out⟩, B3, T3⟩
    · have : k = l0.length := by omega
      subst this
      go_wp2
      go_ret
      exact ⟨_, rfl, HO.out, HB.out⟩
end Go.Proofs.Ytnlnglfjehohpaa.Q
