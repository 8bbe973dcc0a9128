/- slices.Grow of none, slices.Concat of two rows of operations. No condition. -/
import Derived.Test.YthcikbbglpdjhaaFI
namespace Go.Proofs.Ythcikbbglpdjhaa.Q
open Go.RowKit Go.Proofs.YthcikbbglpdjhaaW Go.Proofs.YthcikbbglpdjhaaW.PrintWords Go.Proofs.YthcikbbglpdjhaaW.PrintLast Go.Proofs.YthcikbbglpdjhaaW.PrintMore
set_option linter.unusedVariables false
set_option linter.unusedSimpArgs false
set_option maxHeartbeats 1600000 in
theorem grow_ok (k : Nat) (hk : k ≤ 1000000) (w : World) : Calls Try.prog 52 #[.slice none 0 0, .int .i64 (k : Int)] w fun e w' => ∃ v, e = .returned v ∧ Kd.R k46 46 w' w.heap.size (fun _ => True) v [] ∧ Below w.heap.size w w' := by
  by_cases h0 : k = 0
  · subst h0
    go_enter Try.func52, Try.ntmps52
    go_wp2
    go_ret
    exact ⟨_, rfl, Kd.R_nil _ _ _ _ _, Below.refl _ _⟩
  · have q1 : (0 < (k : Int)) = True := eq_true (by omega)
    have q2 : ((k : Int) < 0) = False := eq_false (by omega)
    have q3 : (0 < k) = True := eq_true (by omega)
    have wk : wrap64 (k : Int) = (k : Int) := by unfold wrap64; omega
    have HK := Aside0.mk hk
    clear h0 hk
    go_enter Try.func52, Try.ntmps52
    go_wp2_with ((with_reducible refine gate_builtin (b := .append) (xs := #[.tmp 20, .tmp 21]) rfl ?_); at_builtin; refine Kd.R_append_zeros k46 (w0 := w) w.heap.size rfl (.tmp 20) (.tmp 21) 25 3 46 (.agg #[(.int .i64 0), (.int .i64 0)]) 16 rfl Try.underlying25 Try.underlying3 info46 rfl (by decide) (by omega) (.slice none 0 0) [] (⟨0, 0⟩ : S46) (wrap64 (k : Int)) (fun _ => True) rfl rfl ?aZ ?aF ?aO ?aN (Below.refl _ _) (Nat.le_refl _) ?aL ?_; (case aZ => exact k46_mkM _ _ _ (⟨0, 0⟩ : S46)); (case aF => exact (fun _ _ => trivial)); (case aO => exact Kd.R_nil _ _ _ _ _); (case aN => rw [wk]; omega); (case aL => have := HK.out; rw [wk]; simp only [List.length_nil, Int.toNat_natCast]; omega); intro v1 w1 ho hb hg hat; rw [wk, Int.toNat_natCast, List.nil_append] at ho; obtain ⟨A1, c1, e1⟩ := Kd.R_slice ho; subst e1; have HO1 := Aside0.mk (Kd.R_take (m := 0) ho (Nat.zero_le _)); have HB1 := Aside0.mk hb; clear hb hg hat ho wk)
    go_ret
    exact ⟨_, rfl, HO1.out, HB1.out⟩
set_option maxRecDepth 100000 in
set_option maxHeartbeats 3200000 in
theorem concat_ok (A B : Option Addr) (c d g : Nat) (xs ys : List S46) (w : World) (hg : w.heap[g]? = some (.cells #[.slice A xs.length c, .slice B ys.length d] 25 (0, 0))) (hx : Kd.C k46 w A xs.length xs) (hxc : xs.length ≤ c) (hy : Kd.C k46 w B ys.length ys) (hyc : ys.length ≤ d) (hxl : xs.length ≤ 400000) (hyl : ys.length ≤ 400000) :
    Calls Try.prog 32 #[.slice (some ⟨g, 0, none⟩) 2 2] w fun e w' => ∃ v, e = .returned v ∧ Kd.R k46 46 w' w.heap.size (fun _ => True) v (xs ++ ys) ∧ Below w.heap.size w w' := by
  obtain ⟨n, hn⟩ : ∃ n, xs.length = n := ⟨_, rfl⟩
  obtain ⟨m, hm⟩ : ∃ m, ys.length = m := ⟨_, rfl⟩
  rw [hn] at hg hx hxc hxl
  rw [hm] at hg hy hyc hyl
  have HX := Aside0.mk hx
  have HY := Aside0.mk hy
  have HG := Aside0.mk hg
  have HN := Aside0.mk hn
  have HM := Aside0.mk hm
  have HNM := Aside0.mk (show n ≤ 400000 ∧ m ≤ 400000 from ⟨hxl, hyl⟩)
  have HXC := Aside0.mk hxc
  have HYC := Aside0.mk hyc
  have e0 : w.cell? ⟨g, 0, none⟩ = some (.slice A n c) := (blk_cell hg 0).trans rfl
  have e1 : w.cell? ⟨g, 1, none⟩ = some (.slice B m d) := (blk_cell hg 1).trans rfl
  have GR := Aside0.mk (fun W => grow_ok (n + m) (by omega) W)
  clear hx hy hg hn hm hxl hyl hxc hyc
  go_enter Try.func32, Try.ntmps32
  go_wp2
  go_loopg [11, 3] 2 (fun gg s11 s3 wr => wr = w ∧ ((2 ≤ gg ∧ s11 = .int .i64 0 ∧ s3 = .int .i64 0) ∨ (1 ≤ gg ∧ s11 = .int .i64 1 ∧ s3 = .int .i64 (n : Int)) ∨ (s11 = .int .i64 2 ∧ s3 = .int .i64 ((n + m : Nat) : Int))))
  case atStart => exact ⟨rfl, .inl ⟨by omega, rfl, rfl⟩⟩
  case round =>
    obtain ⟨rfl, hcase⟩ := hrel
    rcases hcase with ⟨h2, rfl, rfl⟩ | ⟨h1, rfl, rfl⟩ | ⟨rfl, rfl⟩
    · have wn : wrap64 (n : Int) = (n : Int) := by have := HNM.out; unfold wrap64; omega
      have q1 : ((n : Int) < 0) = False := eq_false (by omega)
      go_wp2
      go_roundg 1
      case measure => omega
      case rel => exact ⟨rfl, .inr (.inl ⟨by omega, by go_num, by go_num⟩)⟩
    · have wk : wrap64 ((n : Int) + (m : Int)) = ((n + m : Nat) : Int) := by have := HNM.out; unfold wrap64; omega
      have q1 : (((n + m : Nat) : Int) < 0) = False := eq_false (by omega)
      have q2 : ((n : Int) + (m : Int) < 0) = False := eq_false (by omega)
      go_wp2
      go_roundg 0
      case measure => omega
      case rel => exact ⟨rfl, .inr (.inr ⟨by go_num, by first | rfl | (rw [wk]) | go_num⟩)⟩
    · go_upto_region 10 with (go_at_call 52; refine (GR.out _).mono ?_; rintro e w2 ⟨v, rfl, hr, hb⟩; have HR := Aside0.mk hr; have HB := Aside0.mk hb; clear GR hr hb)
      obtain ⟨w0, hw0⟩ : ∃ w0, w0 = wr := ⟨_, rfl⟩
      subst hw0
      have E0 := Aside0.mk e0
      have E1 := Aside0.mk e1
      clear e0 e1
      go_wp2
      go_loopg [27, 6] 2 (fun gg s27 s6 wq => ∃ v1, v1 = s6 ∧ Aside0 (Below w0.heap.size w0 wq) ∧ ((2 ≤ gg ∧ s27 = .int .i64 0 ∧ Aside0 (Kd.R k46 46 wq w0.heap.size (fun _ => True) v1 [])) ∨ (1 ≤ gg ∧ s27 = .int .i64 1 ∧ Aside0 (Kd.R k46 46 wq w0.heap.size (fun _ => True) v1 xs)) ∨ (s27 = .int .i64 2 ∧ Aside0 (Kd.R k46 46 wq w0.heap.size (fun _ => True) v1 (xs ++ ys)))))
      case atStart => exact ⟨_, rfl, HB, .inl ⟨by omega, rfl, HR⟩⟩
      case round =>
        clear HR HB
        obtain ⟨v1, rfl, HB1, hcase⟩ := hrel
        have e0 := hh_ HB1.out E0.out
        have e1 := hh_ HB1.out E1.out
        rcases hcase with ⟨h2, rfl, HR1⟩ | ⟨h1, rfl, HR1⟩ | ⟨rfl, HR1⟩
        · go_wp2_with (((with_reducible refine gate_builtin (b := .append) (xs := #[.tmp 31, .tmp 32]) rfl ?_); at_builtin; refine Kd.R_append_rows k46 (w0 := w0) w0.heap.size rfl (.tmp 31) (.tmp 32) 25 46 (.agg #[(.int .i64 0), (.int .i64 0)]) 16 rfl Try.underlying25 info46 rfl (by decide) (by omega) v1 [] xs A n c (fun _ => True) (fun _ => False) rfl rfl ?aO ?aR (fun _ _ h => h) (fun _ h => h.elim) ?aF ?aB ?aS ?aL ?_; (case aO => exact HR1.out); (case aR => exact Kd.C_below HX.out HB1.out); (case aF => exact (fun _ _ => trivial)); (case aB => exact HB1.out); (case aS => exact HB1.out.size); (case aL => have h1 := HNM.out; have h2 := HN.out; have h3 := HM.out; (try simp only [List.length_nil]); omega); intro v2 w3 ho hb hg hat; have HO2 := Aside0.mk ho; have HB2 := Aside0.mk hb; clear ho hb hg hat))
          go_roundg 1
          case measure => omega
          case rel => exact ⟨_, rfl, HB2, .inr (.inl ⟨by omega, by go_num, HO2⟩)⟩
        · go_wp2_with (((with_reducible refine gate_builtin (b := .append) (xs := #[.tmp 31, .tmp 32]) rfl ?_); at_builtin; refine Kd.R_append_rows k46 (w0 := w0) w0.heap.size rfl (.tmp 31) (.tmp 32) 25 46 (.agg #[(.int .i64 0), (.int .i64 0)]) 16 rfl Try.underlying25 info46 rfl (by decide) (by omega) v1 xs ys B m d (fun _ => True) (fun _ => False) rfl rfl ?aO ?aR (fun _ _ h => h) (fun _ h => h.elim) ?aF ?aB ?aS ?aL ?_; (case aO => exact HR1.out); (case aR => exact Kd.C_below HY.out HB1.out); (case aF => exact (fun _ _ => trivial)); (case aB => exact HB1.out); (case aS => exact HB1.out.size); (case aL => have h1 := HNM.out; have h2 := HN.out; have h3 := HM.out; (try simp only [List.length_nil]); omega); intro v2 w3 ho hb hg hat; have HO2 := Aside0.mk ho; have HB2 := Aside0.mk hb; clear ho hb hg hat))
          go_roundg 0
          case measure => omega
          case rel => exact ⟨_, rfl, HB2, .inr (.inr ⟨by go_num, HO2⟩)⟩
        · go_wp2
          go_ret
          exact ⟨_, rfl, HR1.out, HB1.out⟩
end Go.Proofs.Ythcikbbglpdjhaa.Q
