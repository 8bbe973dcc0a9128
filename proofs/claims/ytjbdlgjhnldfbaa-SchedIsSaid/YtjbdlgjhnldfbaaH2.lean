import Derived.Test.YtjbdlgjhnldfbaaH1
import Derived.Test.YtjbdlgjhnldfbaaFH
import Derived.Deep.QuietTactic
import Derived.BigQuiet
namespace Go.Proofs.Ytjbdlgjhnldfbaa.Q
open Go.RowKit Go.Proofs.YtjbdlgjhnldfbaaW Go.Proofs.YtjbdlgjhnldfbaaW.PrintWords Go.Proofs.YtjbdlgjhnldfbaaW.PrintLast Go.Proofs.YtjbdlgjhnldfbaaW.PrintMore
open FL
set_option linter.unusedVariables false
set_option linter.unusedSimpArgs false

/-! ### cmp.Compare -/
def cmpS (a b : Int) : Int := if a < b then -1 else if b < a then 1 else 0

theorem isNaN50 (a : Int) (w : World) : Calls Try.prog 50 #[.int .i64 a] w fun e w' => e = .returned (.bool false) ∧ w' = w := by
  have h : (a != a) = false := by simp
  go_enter Try.func50, Try.ntmps50
  go_wp2
  go_ret
  exact ⟨rfl, rfl⟩
theorem isNaN51 (a : Int) (w : World) : Calls Try.prog 51 #[.int .u64 a] w fun e w' => e = .returned (.bool false) ∧ w' = w := by
  have h : (a != a) = false := by simp
  go_enter Try.func51, Try.ntmps51
  go_wp2
  go_ret
  exact ⟨rfl, rfl⟩
theorem cmp35 (a b : Int) (w : World) : Calls Try.prog 35 #[.int .i64 a, .int .i64 b] w fun e w' => e = .returned (.int .i64 (cmpS a b)) ∧ w' = w := by
  unfold cmpS
  by_cases h1 : a < b
  · rw [if_pos h1]
    go_enter Try.func35, Try.ntmps35
    go_wp2_with (go_at_call 50; refine (isNaN50 _ _).mono ?_; rintro e w1 ⟨rfl, rfl⟩)
    go_ret
    exact ⟨rfl, rfl⟩
  · rw [if_neg h1]
    by_cases h2 : b < a
    · rw [if_pos h2]
      go_enter Try.func35, Try.ntmps35
      go_wp2_with (go_at_call 50; refine (isNaN50 _ _).mono ?_; rintro e w1 ⟨rfl, rfl⟩)
      go_ret
      exact ⟨rfl, rfl⟩
    · rw [if_neg h2]
      go_enter Try.func35, Try.ntmps35
      go_wp2_with (go_at_call 50; refine (isNaN50 _ _).mono ?_; rintro e w1 ⟨rfl, rfl⟩)
      go_ret
      exact ⟨rfl, rfl⟩
theorem cmp37 (a b : Int) (w : World) : Calls Try.prog 37 #[.int .u64 a, .int .u64 b] w fun e w' => e = .returned (.int .i64 (cmpS a b)) ∧ w' = w := by
  unfold cmpS
  by_cases h1 : a < b
  · rw [if_pos h1]
    go_enter Try.func37, Try.ntmps37
    go_wp2_with (go_at_call 51; refine (isNaN51 _ _).mono ?_; rintro e w1 ⟨rfl, rfl⟩)
    go_ret
    exact ⟨rfl, rfl⟩
  · rw [if_neg h1]
    by_cases h2 : b < a
    · rw [if_pos h2]
      go_enter Try.func37, Try.ntmps37
      go_wp2_with (go_at_call 51; refine (isNaN51 _ _).mono ?_; rintro e w1 ⟨rfl, rfl⟩)
      go_ret
      exact ⟨rfl, rfl⟩
    · rw [if_neg h2]
      go_enter Try.func37, Try.ntmps37
      go_wp2_with (go_at_call 51; refine (isNaN51 _ _).mono ?_; rintro e w1 ⟨rfl, rfl⟩)
      go_ret
      exact ⟨rfl, rfl⟩

/-! ### the two closures of Pick -/
theorem two_at (A0 : Option Addr) (c0 : Nat) (l : List S44) (ev : Int) (B : Nat) (W : World) (hB : W.heap[B]? = some (.cells #[.slice A0 l.length c0, .int .i64 ev] 26 (0, 0))) :
    W.cell? ⟨B, 0, none⟩ = some (.slice A0 l.length c0) := blk_cell hB 0

theorem cmp34 (A0 : Option Addr) (c0 : Nat) (l : List S44) (ev : Int) (B : Nat) (w : World) (hB : w.heap[B]? = some (.cells #[.slice A0 l.length c0, .int .i64 ev] 26 (0, 0))) (hL : Kd.C k44 w A0 l.length l)
    (a b : Int) (ha : 0 ≤ a ∧ a < l.length) (hb : 0 ≤ b ∧ b < l.length) :
    Calls Try.prog 34 #[.int .i64 a, .int .i64 b, .pointer (some ⟨B, 0, none⟩)] w fun e w' => e = .returned (.int .i64 (cmpS (rd_T44 l a).f2 (rd_T44 l b).f2)) ∧ ∃ n, w' = w.drewN n := by
  have c0' := two_at A0 c0 l ev B w hB
  obtain ⟨ad, rfl, _, _, e1⟩ := at_T44 hL a ha.1 (by omega)
  obtain ⟨ad2, h2, _, _, e2⟩ := at_T44 hL b hb.1 (by omega)
  obtain rfl := Option.some.inj h2
  clear h2 hL hB
  have hu26 := Try.underlying26
  have hu44 := Try.underlying44
  obtain ⟨ha1, ha2⟩ := ha
  obtain ⟨hb1, hb2⟩ := hb
  generalize (rd_T44 l a).f2 = x at *
  generalize (rd_T44 l b).f2 = y at *
  generalize l.length = n at *
  go_enter Try.func34, Try.ntmps34
  go_wp2_with fail
  go_quiet ((go_at_call 35; exact Calls.quiet_of_same (cmp35 _ _ _)))
  go_wp2
  go_ret
  exact ⟨rfl, _, rfl⟩

set_option maxHeartbeats 800000 in
theorem cmp36 (A0 : Option Addr) (c0 : Nat) (l : List S44) (ev : Int) (B : Nat) (w : World) (hB : w.heap[B]? = some (.cells #[.slice A0 l.length c0, .int .i64 ev] 26 (0, 0))) (hL : Kd.C k44 w A0 l.length l)
    (a b : Int) (ha : 0 ≤ a ∧ a < l.length) (hb : 0 ≤ b ∧ b < l.length) (hua : inU (rd_T44 l a).f1 = true) (hub : inU (rd_T44 l b).f1 = true) :
    Calls Try.prog 36 #[.int .i64 a, .int .i64 b, .pointer (some ⟨B, 0, none⟩)] w fun e w' => e = .returned (.int .i64 (cmpS (keyS (rd_T44 l a).f1) (keyS (rd_T44 l b).f1))) ∧ ∃ n, w' = w.drewN n := by
  have c0' := two_at A0 c0 l ev B w hB
  obtain ⟨ad, rfl, _, e1, _⟩ := at_T44 hL a ha.1 (by omega)
  obtain ⟨ad2, h2, _, e2, _⟩ := at_T44 hL b hb.1 (by omega)
  obtain rfl := Option.some.inj h2
  clear h2 hL hB
  have hu26 := Try.underlying26
  have hu44 := Try.underlying44
  obtain ⟨ha1, ha2⟩ := ha
  obtain ⟨hb1, hb2⟩ := hb
  generalize (rd_T44 l a).f1 = x at *
  generalize (rd_T44 l b).f1 = y at *
  generalize l.length = n at *
  have k1 : ∀ (z : Int), inU z = true → ∀ W, Calls Try.prog 12 #[.int .u64 z] W fun e w' => e = .returned (.int .u64 (keyS z)) ∧ ∃ n, w' = W.drewN n := fun z hz W => (float_Key.calls z (keyS z) W (by unfold float_Key.f; rw [if_pos hz])).mono (fun _ _ h => ⟨h.1, by obtain ⟨n, h⟩ := h.2; exact ⟨n, h⟩⟩)
  have K1 := Aside0.mk (k1 x hua)
  have K2 := Aside0.mk (k1 y hub)
  clear k1 hua hub
  generalize keyS x = kx at *
  generalize keyS y = ky at *
  go_enter Try.func36, Try.ntmps36
  go_wp2_with fail
  go_quiet ((first | (go_at_call 37; exact Calls.quiet_of_same (cmp37 _ _ _)) | (go_at_call 12; with_reducible exact Calls.quiet_of (K1.out _)) | (go_at_call 12; with_reducible exact Calls.quiet_of (K2.out _))))
  go_wp2
  go_ret
  exact ⟨rfl, _, rfl⟩

/-! ### slices.MaxFunc, best -/
def CmpC (g : Nat) (lb : Array Value) (cf : Int → Int → Int) (dom : Int → Prop) (w : World) : Prop := ∀ (W : World) (a b : Int), Below w.heap.size w W → dom a → dom b →
  Calls Try.prog g (#[.int .i64 a, .int .i64 b] ++ lb) W fun e w' => e = .returned (.int .i64 (cf a b)) ∧ ∃ n, w' = W.drewN n
def maxStep (cf : Int → Int → Int) (m y : Int) : Int := if 0 < cf y m then y else m
def maxBy (cf : Int → Int → Int) : List Int → Int
  | [] => 0
  | x :: xs => xs.foldl (maxStep cf) x
theorem maxBy_snoc (cf : Int → Int → Int) (xs : List Int) (k : Nat) (h1 : 1 ≤ k) (hk : k < xs.length) : maxBy cf (xs.take (k + 1)) = maxStep cf (maxBy cf (xs.take k)) xs[k] := by
  match xs, k, h1, hk with
  | x :: xs, k + 1, _, hk =>
    have hk' : k < xs.length := by simpa using hk
    show (xs.take (k + 1)).foldl (maxStep cf) x = maxStep cf ((xs.take k).foldl (maxStep cf) x) xs[k]
    rw [List.take_succ_eq_append_getElem hk', List.foldl_append]
    rfl
theorem maxBy_mem (cf : Int → Int → Int) (dom : Int → Prop) : ∀ xs : List Int, 0 < xs.length → (∀ x ∈ xs, dom x) → dom (maxBy cf xs)
  | [], h, _ => absurd h (by simp)
  | x :: xs, _, hd => by
    show dom (xs.foldl (maxStep cf) x)
    have hx := hd x List.mem_cons_self
    have hr : ∀ y ∈ xs, dom y := fun y hy => hd y (List.mem_cons_of_mem _ hy)
    clear hd
    induction xs generalizing x with
    | nil => exact hx
    | cons y ys ih =>
      have hm : dom (maxStep cf x y) := by
        unfold maxStep
        split
        · exact hr y List.mem_cons_self
        · exact hx
      have hr' : ∀ z ∈ ys, dom z := fun z hz => hr z (List.mem_cons_of_mem _ hz)
      exact ih (maxStep cf x y) (by simp) (by first | exact hm | exact hr') (by first | exact hm | exact hr')

theorem below_drawn {w W : World} (h : Below w.heap.size w W) (n : Nat) : Below w.heap.size w (W.drewN n) := pw_below_drewN h n

set_option maxHeartbeats 1600000 in
theorem max_any (g : Nat) (lb : Array Value) (cf : Int → Int → Int) (dom : Int → Prop) (eg : ∀ args w, (callFunc g args).run Try.prog w = .ok (.enter g args) w) (A : Option Addr) (c : Nat) (xs : List Int) (w : World) (hr : Kd.C (Kd.int .i64) w A xs.length xs) (hne : 0 < xs.length) (hd : ∀ x ∈ xs, dom x) (hcmp : CmpC g lb cf dom w) :
    Calls Try.prog 49 #[.slice A xs.length c, .func (.func g) #[] lb] w fun e w' => e = .returned (.int .i64 (maxBy cf xs)) ∧ Below w.heap.size w w' := by
  have hmax : xs.length ≤ 9223372036854775807 := hr.2.1
  have h1 : ¬ ((xs.length : Int) < 1) := by omega
  have h2 : (0 : Int) < (xs.length : Int) := by omega
  obtain ⟨ad, rfl, hc⟩ := Kd.at_int hr 0 (by omega) (by omega)
  have hc0 : w.cell? ad = some (.int .i64 (rd xs 0)) := by
    simp only [Int.toNat_zero] at hc
    rwa [show ad.add 0 = ad by unfold Addr.add; simp] at hc
  have HR := Aside0.mk hr
  have HD := Aside0.mk hd
  have HC := Aside0.mk hcmp
  clear hr hd hcmp hc
  obtain ⟨m0, hm0⟩ : ∃ m0, rd xs 0 = m0 := ⟨_, rfl⟩
  rw [hm0] at hc0
  have HM0 := Aside0.mk hm0
  clear hm0
  go_enter Try.func49, Try.ntmps49
  go_wp2
  go_loopg [5, 6] xs.length (fun gg s5 s6 wr => ∃ (k : Nat) (m : Int), 1 ≤ k ∧ k ≤ xs.length ∧ xs.length - k ≤ gg ∧ s6 = .int .i64 k ∧ s5 = .int .i64 m ∧ Aside0 (m = maxBy cf (xs.take k)) ∧ Aside0 (Below w.heap.size w wr))
  case atStart =>
    refine ⟨1, m0, Nat.le_refl _, hne, by omega, rfl, rfl, ⟨?_⟩, ⟨Below.refl _ _⟩⟩
    rw [← HM0.out]
    match xs, hne with
    | x :: xs, _ => simp [maxBy, rd]
  case round =>
    obtain ⟨k, m, hk1, hk, hgk, rfl, rfl, HM, HB⟩ := hrel
    by_cases hlt : k < xs.length
    · obtain ⟨ad2, h2, hc⟩ := Kd.at_int (Kd.C_below HR.out HB.out) (k : Int) (by omega) (by omega)
      obtain rfl := Option.some.inj h2
      have hx : rd xs (k : Int) = xs[k] := by simp [rd, List.getD_eq_getElem?_getD, List.getElem?_eq_getElem hlt]
      have hcell : wr.cell? (ad.add k) = some (.int .i64 (rd xs (k : Int))) := by simpa using hc
      rw [hx] at hcell
      clear hc h2
      have hs := maxBy_snoc cf xs k hk1 hlt
      rw [← HM.out] at hs
      have hdx : dom xs[k] := HD.out _ (List.getElem_mem hlt)
      have hdm : dom m := by
        rw [HM.out]
        exact maxBy_mem cf dom _ (by rw [List.length_take]; omega) (fun x hx => HD.out x (List.mem_of_mem_take hx))
      have HS := Aside0.mk hs
      have HX := Aside0.mk hdx
      have HDM := Aside0.mk hdm
      clear hs hdx hdm hx
      generalize xs[k] = x at *
      have HCC := Aside0.mk (fun W h => HC.out W x m h HX.out HDM.out)
      obtain ⟨cc, hcc⟩ : ∃ cc, cf x m = cc := ⟨_, rfl⟩
      rw [hcc] at HCC
      have HCF := Aside0.mk hcc
      clear hcc
      by_cases hpos : 0 < cc
      · go_wp2_with (go_at_fn g; refine (HCC.out _ HB.out).mono ?_; rintro e w1 ⟨rfl, nd, rfl⟩; have HB1 := Aside0.mk (below_drawn HB.out nd))
        go_roundg (xs.length - (k + 1))
        case measure => omega
        case rel => exact ⟨k + 1, x, by omega, by omega, by omega, by go_num, rfl, ⟨by rw [HS.out]; unfold maxStep; rw [HCF.out, if_pos hpos]⟩, HB1⟩
      · go_wp2_with (go_at_fn g; refine (HCC.out _ HB.out).mono ?_; rintro e w1 ⟨rfl, nd, rfl⟩; have HB1 := Aside0.mk (below_drawn HB.out nd))
        go_roundg (xs.length - (k + 1))
        case measure => omega
        case rel => exact ⟨k + 1, m, by omega, by omega, by omega, by go_num, rfl, ⟨by rw [HS.out]; unfold maxStep; rw [HCF.out, if_neg (by omega)]⟩, HB1⟩
    · have : k = xs.length := by omega
      subst this
      go_wp2
      go_ret
      exact ⟨by rw [HM.out, List.take_length]; rfl, HB.out⟩

def bestBy (cf : Int → Int → Int) (xs : List Int) : Int := if xs.length = 0 then -1 else maxBy cf xs
set_option maxHeartbeats 800000 in
theorem best_any (g : Nat) (lb : Array Value) (cf : Int → Int → Int) (dom : Int → Prop) (eg : ∀ args w, (callFunc g args).run Try.prog w = .ok (.enter g args) w) (A : Option Addr) (c : Nat) (xs : List Int) (w : World) (hr : Kd.C (Kd.int .i64) w A xs.length xs) (hd : ∀ x ∈ xs, dom x) (hcmp : CmpC g lb cf dom w) :
    Calls Try.prog 33 #[.slice A xs.length c, .func (.func g) #[] lb] w fun e w' => e = .returned (.int .i64 (bestBy cf xs)) ∧ Below w.heap.size w w' := by
  unfold bestBy
  by_cases h0 : xs.length = 0
  · rw [if_pos h0]
    have hb : ((xs.length : Int) == 0) = true := by simp [h0]
    clear hr hd hcmp h0
    go_enter Try.func33, Try.ntmps33
    go_wp2
    go_ret
    exact ⟨rfl, Below.refl _ _⟩
  · rw [if_neg h0]
    have hb : ((xs.length : Int) == 0) = false := by rw [beq_eq_false_iff_ne]; omega
    have H := Aside0.mk (max_any g lb cf dom eg A c xs w hr (by omega) hd hcmp)
    clear hr hd hcmp h0
    go_enter Try.func33, Try.ntmps33
    go_wp2_with (go_at_call 49; refine H.out.mono ?_; rintro e w1 ⟨rfl, hb1⟩; have HB1 := Aside0.mk hb1; clear hb1)
    go_ret
    exact ⟨rfl, HB1.out⟩

/-- The two that Pick asks for: the place of the one that waited longest; of the greatest rank. -/
def best34.f (l : List S44) (xs : List Int) : Option Int := if (∀ x ∈ xs, 0 ≤ x ∧ x < l.length) then some (bestBy (fun a b => cmpS (rd_T44 l a).f2 (rd_T44 l b).f2) xs) else none
def best36.f (l : List S44) (xs : List Int) : Option Int := if (∀ x ∈ xs, (0 ≤ x ∧ x < l.length) ∧ inU (rd_T44 l x).f1 = true) then some (bestBy (fun a b => cmpS (keyS (rd_T44 l a).f1) (keyS (rd_T44 l b).f1)) xs) else none

theorem best34.calls (A : Option Addr) (c : Nat) (xs : List Int) (A0 : Option Addr) (c0 : Nat) (l : List S44) (ev : Int) (B : Nat) (r : Int) (w : World) (hr : Kd.C (Kd.int .i64) w A xs.length xs) (hB : w.heap[B]? = some (.cells #[.slice A0 l.length c0, .int .i64 ev] 26 (0, 0))) (hL : Kd.C k44 w A0 l.length l) (h : best34.f l xs = some r) :
    Calls Try.prog 33 #[.slice A xs.length c, .func (.func 34) #[] #[.pointer (some ⟨B, 0, none⟩)]] w fun e w' => e = .returned (.int .i64 r) ∧ Below w.heap.size w w' := by
  unfold best34.f at h
  by_cases hd : ∀ x ∈ xs, 0 ≤ x ∧ x < l.length
  case neg => rw [if_neg hd] at h; cases h
  rw [if_pos hd] at h
  rw [← Option.some.inj h]
  refine best_any 34 _ _ (fun x => 0 ≤ x ∧ x < l.length) (enters_of Try.func34 (by kernel_rfl) rfl) A c xs w hr hd ?_
  intro W a b hW ha hb
  exact cmp34 A0 c0 l ev B W (blk_below hB hW) (Kd.C_below hL hW) a b ha hb
theorem best36.calls (A : Option Addr) (c : Nat) (xs : List Int) (A0 : Option Addr) (c0 : Nat) (l : List S44) (ev : Int) (B : Nat) (r : Int) (w : World) (hr : Kd.C (Kd.int .i64) w A xs.length xs) (hB : w.heap[B]? = some (.cells #[.slice A0 l.length c0, .int .i64 ev] 26 (0, 0))) (hL : Kd.C k44 w A0 l.length l) (h : best36.f l xs = some r) :
    Calls Try.prog 33 #[.slice A xs.length c, .func (.func 36) #[] #[.pointer (some ⟨B, 0, none⟩)]] w fun e w' => e = .returned (.int .i64 r) ∧ Below w.heap.size w w' := by
  unfold best36.f at h
  by_cases hd : ∀ x ∈ xs, (0 ≤ x ∧ x < l.length) ∧ inU (rd_T44 l x).f1 = true
  case neg => rw [if_neg hd] at h; cases h
  rw [if_pos hd] at h
  rw [← Option.some.inj h]
  refine best_any 36 _ _ (fun x => (0 ≤ x ∧ x < l.length) ∧ inU (rd_T44 l x).f1 = true) (enters_of Try.func36 (by kernel_rfl) rfl) A c xs w hr hd ?_
  intro W a b hW ha hb
  exact cmp36 A0 c0 l ev B W (blk_below hB hW) (Kd.C_below hL hW) a b ha.1 hb.1 ha.2 hb.2
end Go.Proofs.Ytjbdlgjhnldfbaa.Q
