/- slices.Backward at entries: what it hands on. No condition. -/
import Derived.Test.YtjpoepiidmoegaaQ0
import Derived.Test.YtjpoepiidmoegaaRQ
import Derived.Lib.Hide
namespace Go.Proofs.Ytjpoepiidmoegaa.Q
open Go.RowKit Go.Shelf Go.Proofs.YtjpoepiidmoegaaW Go.Proofs.YtjpoepiidmoegaaW.PrintWords Go.Proofs.YtjpoepiidmoegaaW.PrintLast Go.Proofs.YtjpoepiidmoegaaW.PrintMore
open RU
attribute [local go_sem] Oper.semAt_some
set_option linter.unusedVariables false
set_option linter.unusedSimpArgs false

/-- The first j places from the end. -/
def downL (n j : Nat) : List Int := (List.range j).map (fun i : Nat => (n : Int) - 1 - i)
theorem downL_snoc (n j : Nat) : downL n (j + 1) = downL n j ++ [(n : Int) - 1 - j] := by unfold downL; rw [List.range_succ, List.map_append]; rfl
theorem downL_pre (n : Nat) : ∀ (m j : Nat), j ≤ m → ∃ post, downL n m = downL n j ++ post
  | 0, j, h => ⟨[], by obtain rfl : j = 0 := by omega
                       rfl⟩
  | m + 1, j, h => by
    by_cases he : j = m + 1
    · exact ⟨[], by rw [he, List.append_nil]⟩
    · obtain ⟨post, hp⟩ := downL_pre n m j (by omega)
      exact ⟨post ++ [(n : Int) - 1 - m], by rw [downL_snoc, hp, List.append_assoc]⟩
theorem downL_split (n j : Nat) (h : j < n) : ∃ post, downL n n = downL n j ++ ((n : Int) - 1 - j) :: post := by
  obtain ⟨post, hp⟩ := downL_pre n n (j + 1) h
  exact ⟨post, by rw [hp, downL_snoc, List.append_assoc]; rfl⟩
theorem downL_len (n j : Nat) : (downL n j).length = j := by simp [downL]
theorem downL_rd (l : List S33) : (downL l.length l.length).map (rd_T33 l) = l.reverse := by
  apply List.ext_getElem
  · simp [downL]
  · intro i h1 h2
    have hi : i < l.length := by simpa using h2
    rw [List.getElem_reverse]
    simp only [downL, List.map_map, List.getElem_map, List.getElem_range, Function.comp]
    have e : ((l.length : Int) - 1 - (i : Int)) = ((l.length - 1 - i : Nat) : Int) := by omega
    rw [e]
    have hk : l.length - 1 - i < l.length := by omega
    unfold rd_T33
    simp [List.getD_eq_getElem?_getD, List.getElem?_eq_getElem hk]

theorem backward_any (A0 : Option Addr) (c0 : Nat) (l : List S33) (w : World) : Calls Try.prog 34 #[.slice A0 l.length c0] w fun e w' =>
    e = .returned (.func (.func 55) #[] #[.pointer (some ⟨w.heap.size, 0, none⟩)]) ∧ w' = w.alloc (.cells #[.slice A0 l.length c0] 24) := by
  go_enter Try.func34, Try.ntmps34
  go_wp2
  go_ret
  exact ⟨rfl, rfl⟩

def encB (l : List S33) (x : Int) : Array Value := #[.int .i64 x, .agg #[.int .i64 (rd_T33 l x).f0, .int .i64 (rd_T33 l x).f1, .int .i64 (rd_T33 l x).f2, .bool (rd_T33 l x).f3]]
set_option maxRecDepth 100000 in
set_option maxHeartbeats 2000000 in
theorem bwd_gives (n : Nat) (hn : 1 ≤ n) (A0 : Option Addr) (c0 : Nat) (l : List S33) (T : Nat) :
    GivesQ Fence.wide n Try.prog 55 #[.pointer (some ⟨T, 0, none⟩)] (encB l)
      (fun A => A.heap[T]? = some (.cells #[.slice A0 l.length c0] 24 (0, 0)) ∧ Kd.C k33 A A0 l.length l) (downL l.length l.length) := by
  intro lp J Jx W hG hY h0
  have hu33 := Try.underlying33
  have hmax : l.length ≤ 9223372036854775807 := (hG _ _ h0).2.2.1
  have hT := (hG _ _ h0).1
  have hc0 : W.cell? ⟨T, 0, none⟩ = some (.slice A0 l.length c0) := blk_cell hT 0
  have HG := Aside0.mk hG
  have HY := Aside0.mk hY
  have H0 := Aside0.mk h0
  clear hG hY h0 hT
  show CallsIn Fence.wide n Try.prog 55 #[.func (.yield lp) #[] #[], .pointer (some ⟨T, 0, none⟩)] W _
  refine callsIn_of_wp Try.func55 rfl trivial ?_ rfl
  simp only [Try.ntmps55, List.size_toArray, List.length_cons, List.length_nil, Nat.reduceAdd, Nat.reduceSub, Array.replicate_succ, Array.replicate_zero, List.push_toArray, List.append_toArray, List.nil_append, List.cons_append]
  gi_wp2
  gi_loopw [3] (fun s3 wr => ∃ (j : Nat), j ≤ l.length ∧ s3 = .int .i64 ((l.length : Int) - 1 - j) ∧ Aside0 (J (downL l.length j) wr))
    (fun s3 wr => (intOf s3 + 1).toNat)
  case atStart =>
    exact ⟨0, Nat.zero_le _, by have : wrap64 ((l.length : Int) - 1) = (l.length : Int) - 1 := by (unfold wrap64; omega)
                                first | (rw [this]; simp; done) | (simp [this]; done), H0⟩
  case round =>
    obtain ⟨j, hj, rfl, HJ⟩ := hrel
    obtain ⟨hT1, hL1⟩ := HG.out _ _ HJ.out
    have ct0 : wr.cell? ⟨T, 0, none⟩ = some (.slice A0 l.length c0) := blk_cell hT1 0
    by_cases hlt : j < l.length
    · obtain ⟨q, hq⟩ : ∃ q, (l.length : Int) - 1 - j = q := ⟨_, rfl⟩
      obtain ⟨q0, q1⟩ : 0 ≤ q ∧ q < (l.length : Int) := by omega
      obtain ⟨ad, rfl, e0, e1, e2, e3⟩ := at_T33 hL1 q q0 q1
      have hs := downL_snoc l.length j
      rw [hq] at hs
      have hpost := downL_split l.length j hlt
      rw [hq] at hpost
      obtain ⟨fn, tmps, assign, body, hy, hR⟩ := HY.out _ q _ HJ.out hpost
      unfold encB at hy
      have hqw : q - 1 = (l.length : Int) - 1 - ((j + 1 : Nat) : Int) := by omega
      have HQW := Aside0.mk hqw
      have HS := Aside0.mk hs
      have HRR := Aside0.mk hR
      have HQ := Aside0.mk hq
      rw [hq]
      clear hR hs hq hqw hpost hT1 hL1
      generalize rd_T33 l q = x at *
      obtain ⟨x0, x1, x2, x3⟩ := x
      simp only at e0 e1 e2 e3 hy HRR
      gi_wp2
      refine HRR.out.mono ?_
      rintro e W3 (⟨rfl, hJ3⟩ | ⟨rfl, hJx3⟩)
      · have HJ3 := Aside0.mk hJ3
        clear hJ3
        gi_wp2
        go_roundw
        case rel => exact ⟨j + 1, by omega, by rw [← HQW.out], ⟨by rw [HS.out]; exact HJ3.out⟩⟩
        case measure => simp only [intOf]; omega
      · have HX := Aside0.mk hJx3
        clear hJx3
        gi_wp2
        refine bodyPost_ret (results_none rfl _ _ _) rfl ?_
        have := downL_split l.length j hlt
        rw [HQ.out] at this
        obtain ⟨post, hp⟩ := this
        exact ⟨⟨_, rfl⟩, .inr ⟨downL l.length j ++ [q], post, by rw [hp, List.append_assoc]; rfl, HX.out⟩⟩
    · have : j = l.length := by omega
      subst this
      obtain ⟨q, hq⟩ : ∃ q, (l.length : Int) - 1 - (l.length : Int) = q := ⟨_, rfl⟩
      have hq0 : ¬ (q ≥ 0) := by omega
      have hq1 : ¬ (0 ≤ q) := by omega
      rw [hq]
      gi_wp2
      go_end0
      exact ⟨⟨_, rfl⟩, .inl HJ.out⟩
end Go.Proofs.Ytjpoepiidmoegaa.Q
