/- slices.IndexFunc and slices.DeleteFunc at rows of whole numbers, with the closure 25 that has captured one box. No condition. -/
import Derived.Test.YtajghkmjgedikaaQ0
import Derived.Test.YtajghkmjgedikaaQA
import Derived.Lib.Hide
import Derived.Shelf.GgClosure.Gives
import Derived.Lib.SliceRun
namespace Go.Proofs.Ytajghkmjgedikaa.Q
open Go.RowKit Go.Proofs.YtajghkmjgedikaaW Go.Proofs.YtajghkmjgedikaaW.PrintWords Go.Proofs.YtajghkmjgedikaaW.PrintLast Go.Proofs.YtajghkmjgedikaaW.PrintMore
set_option linter.unusedVariables false
set_option linter.unusedSimpArgs false
def ixOf {α : Type} (p : α → Bool) (l : List α) : Int := match l.findIdx? p with | some i => (i : Int) | none => -1
theorem ixOf_at {α : Type} (p : α → Bool) (l : List α) (k : Nat) (hk : k < l.length) (hp : p l[k] = true) (hb : ∀ j (hj : j < k), p (l[j]'(by omega)) = false) : ixOf p l = (k : Int) := by
  have : l.findIdx? p = some k := by
    rw [List.findIdx?_eq_some_iff_getElem]
    exact ⟨hk, hp, fun j hj => by rw [hb j hj]; decide⟩
  unfold ixOf; rw [this]
theorem ixOf_none {α : Type} (p : α → Bool) (l : List α) (hb : ∀ j (hj : j < l.length), p l[j] = false) : ixOf p l = -1 := by
  have : l.findIdx? p = none := by
    rw [List.findIdx?_eq_none_iff]
    intro x hx
    obtain ⟨j, hj, rfl⟩ := List.mem_iff_getElem.1 hx
    exact hb j hj
  unfold ixOf; rw [this]
/-- clear of what stands behind a row's end. -/
theorem zc_len (cs : Array Value) (m : Nat) : (Builtin.zeroCells cs m).toList.length = m * cs.size := by unfold Builtin.zeroCells; simp
theorem zc_oneCell (cs : Array Value) (m : Nat) (h : ∀ u ∈ cs.toList, u.oneCell' = true) : ∀ u ∈ (Builtin.zeroCells cs m).toList, u.oneCell' = true := by
  intro u hu
  unfold Builtin.zeroCells at hu
  obtain ⟨i, hi, rfl⟩ := List.mem_iff_getElem.1 hu
  simp at hi ⊢
  have hp : 0 < cs.size := Nat.pos_of_ne_zero (fun e => by rw [e, Nat.mul_zero] at hi; omega)
  have hm : i % cs.size < cs.size := Nat.mod_lt _ hp
  rw [getElem!_pos cs _ hm]
  exact h _ (by simp)
theorem R_clear {α : Type} {P : Program} (d : Kd α) {W : World} {base e g n c t ty m c2 : Nat} {ok : Nat → Prop} {xs : List α} {z : Value} (ht : P.underlying t = some (.slice e)) (hv : ∀ w, (zeroValue e).run P w = .ok z w) (hzs : z.cells.size = d.sz) (hone : ∀ u ∈ z.cells.toList, u.oneCell' = true)
    (HO : d.R e W base ok (.slice (some ⟨g, 0, none⟩) n c) xs) (hc : n + m ≤ c) :
    ∃ w1, (Builtin.clear_ #[t] ty #[.slice (some ⟨g, n * d.sz, none⟩) m c2]).run P W = .ok (.tuple #[]) w1 ∧ d.R e w1 base ok (.slice (some ⟨g, 0, none⟩) n c) xs ∧ W.grownBy w1 (some g) := by
  by_cases h0 : m = 0
  · subst h0
    exact ⟨W, by simp [Builtin.clear_, run_underlying ht], HO, ⟨rfl, rfl, rfl, Nat.le_refl _, fun _ _ _ => rfl⟩⟩
  obtain ⟨hn, hnc, _⟩ := Kd.R_reads' HO
  obtain ⟨hok, inner, hown, hr⟩ := HO
  rcases hown.2 with ⟨hv', _⟩ | ⟨g', cap', cur, hv', hb, hh, _, hcm, hcs, htake⟩
  · cases hv'
  injection hv' with ha _ hc'
  injection ha with ha
  injection ha with hg
  subst hg; subst hc'
  rw [← hn] at htake
  have hl : (Builtin.zeroCells z.cells m).toList.length = m * d.sz := by rw [zc_len, hzs]
  have hmul : (n + m) * d.sz ≤ c * d.sz := Nat.mul_le_mul_right _ hc
  rw [Nat.add_mul] at hmul
  have hfit : n * d.sz + (Builtin.zeroCells z.cells m).toList.length ≤ cur.size := by omega
  have hone' := zc_oneCell z.cells m hone
  obtain ⟨cur', h3, h4, h5⟩ := setCells_row (Builtin.zeroCells z.cells m).toList (n * d.sz) W cur hh hfit
  obtain ⟨s1, s2, s3, s4⟩ := setCells_same g (Builtin.zeroCells z.cells m).toList (n * d.sz) W
  have hst := run_storeCells_cells (P := P) g (n * d.sz) (Builtin.zeroCells z.cells m).toList 0 W (by
      intro j hj
      rw [cell_of_row W g _ cur e (0, 0) hh]; simp; omega) (fun j _ => blk_frozen hh _) hone'
  rw [Nat.add_zero] at hst
  have hfar : ∀ k', k' ≠ g → (W.setCells g (n * d.sz) (Builtin.zeroCells z.cells m).toList).heap[k']? = W.heap[k']? := fun k' hk' => setCells_far (Builtin.zeroCells z.cells m).toList _ k' hk'
  refine ⟨_, ?_, ⟨hok, inner, ⟨hown.1, .inr ⟨g, c, cur', by rw [hn], hb, h3, by omega, hcm, by rw [h4, hcs], ?_⟩⟩, hr.imp_ (fun _ _ hp => d.M_move (fun k' hk' => hfar k' (fun he => hk'.2 (by rw [he]; simp [Value.ownBlock]))) hp)⟩, ⟨s1, s2, s3, by rw [s4]; exact Nat.le_refl _, fun k' _ hk' => hfar k' (fun he => hk' (by rw [he]))⟩⟩
  · obtain ⟨m', rfl⟩ : ∃ j, m = j + 1 := ⟨m - 1, by omega⟩
    simp [Builtin.clear_, run_underlying ht, hv, hst]
  · rw [h5, ← hn, List.append_assoc, List.take_append_of_le_length (by rw [List.length_take]; simp; omega), List.take_take, Nat.min_self, htake]
theorem take_set_snoc {α : Type} (ys : List α) (a : Nat) (x : α) (h : a < ys.length) : (ys.set a x).take (a + 1) = ys.take a ++ [x] := by
  rw [List.take_succ_eq_append_getElem (by rw [List.length_set]; exact h), List.getElem_set_self, List.take_set_of_le (Nat.le_refl _)]
theorem drop_set_far {α : Type} (ys : List α) (a b : Nat) (x : α) (h : a < b) : (ys.set a x).drop b = ys.drop b := List.drop_set_of_lt h
theorem rdI_at (l : List Int) (k : Nat) (hk : k < l.length) : rd l (k : Int) = l[k] := by simp [rd, List.getD_eq_getElem?_getD, List.getElem?_eq_getElem hk]
/-- What the closure says, in each world of K. -/
def PredI (C B : Nat) (p : Int → Bool) (K : World → Prop) : Prop :=
  (∀ (W : World) (x : Int), K W → Calls Try.prog C #[.int .i64 x, .pointer (some ⟨B, 0, none⟩)] W fun e w' => e = .returned (.bool (p x)) ∧ Below W.heap.size W w') ∧
  ∀ W W', K W → Below W.heap.size W W' → K W'
set_option maxHeartbeats 1600000 in
theorem ixI_25 (B : Nat) (p : Int → Bool) (K : World → Prop) (hp : PredI 25 B p K) (A : Option Addr) (c : Nat) (l : List Int) (w : World) (hr : Kd.C (Kd.int .i64) w A l.length l) (hk0 : K w) :
    Calls Try.prog 31 #[.slice A l.length c, .func (.func 25) #[] #[.pointer (some ⟨B, 0, none⟩)]] w fun e w' => e = .returned (.int .i64 (ixOf p l)) ∧ Below w.heap.size w w' := by
  have hmax : l.length ≤ 9223372036854775807 := hr.2.1
  have HR := Aside0.mk hr
  have HP := Aside0.mk hp
  have HK0 := Aside0.mk hk0
  clear hr hp hk0
  go_enter Try.func31, Try.ntmps31
  go_wp2
  go_loopg [8] l.length (fun gg s8 wr => ∃ k : Nat, k ≤ l.length ∧ l.length - k ≤ gg ∧ s8 = .int .i64 k ∧ Aside0 (Below w.heap.size w wr) ∧ Aside0 (K wr) ∧ Aside0 (∀ j (hj : j < l.length), j < k → p l[j] = false))
  case atStart =>
    exact ⟨0, Nat.zero_le _, by omega, rfl, ⟨Below.refl _ _⟩, HK0, ⟨fun j hj h => by omega⟩⟩
  case round =>
    obtain ⟨k, hk, hgk, rfl, HB, HK, HF⟩ := hrel
    by_cases hlt : k < l.length
    · obtain ⟨ad, rfl, e1⟩ := Kd.at_int (Kd.C_below HR.out HB.out) (k : Int) (by omega) (by omega)
      have hx := rdI_at l k hlt
      rw [hx, Int.toNat_natCast] at e1
      obtain ⟨x, hxx⟩ : ∃ x, x = l[k] := ⟨_, rfl⟩
      rw [← hxx] at e1
      have HX := Aside0.mk hxx
      clear hx hxx
      have hcall := Aside0.mk (HP.out.1 wr x HK.out)
      obtain ⟨b, hb⟩ : ∃ b, p x = b := ⟨_, rfl⟩
      rw [hb] at hcall
      have HPX := Aside0.mk hb
      clear hb
      cases b with
      | true =>
        go_wp2_with (go_at_call 25; refine hcall.out.mono ?_; rintro e w1 ⟨rfl, hb1⟩; have HB1 := Aside0.mk (below_then HB.out HB.out.size hb1); clear hb1)
        go_ret
        exact ⟨by rw [ixOf_at p l k hlt (by rw [← HX.out]; exact HPX.out) (fun j hj => HF.out j (by omega) hj)]; rfl, HB1.out⟩
      | false =>
        go_wp2_with (go_at_call 25; refine hcall.out.mono ?_; rintro e w1 ⟨rfl, hb1⟩; have HB1 := Aside0.mk (below_then HB.out HB.out.size hb1); have HK1 := Aside0.mk (HP.out.2 _ _ HK.out hb1); clear hb1)
        go_roundg (l.length - (k + 1))
        case measure => omega
        case rel =>
          exact ⟨k + 1, by omega, by omega, by go_num, HB1, HK1, ⟨fun j hj h => by
            by_cases he : j = k
            · subst he; rw [← HX.out]; exact HPX.out
            · exact HF.out j hj (by omega)⟩⟩
    · have : k = l.length := by omega
      subst this
      go_wp2
      go_ret
      exact ⟨by rw [ixOf_none p l (fun j hj => HF.out j hj hj)]; rfl, HB.out⟩
set_option maxRecDepth 100000 in
set_option maxHeartbeats 4000000 in
theorem dfI_25 (B : Nat) (p : Int → Bool) (K : World → Prop) (hp : PredI 25 B p K) (v : Value) (hKg : ∀ g W W', v.ownBlock = some g → K W → W.grownBy W' (some g) → K W')
    (l : List Int) (base : Nat) (ok : Nat → Prop) (w0 w : World) (HO : (Kd.int .i64).R 3 w base ok v l) (hB : Below base w0 w) (hbase : base ≤ w.heap.size) (hk0 : K w) :
    Calls Try.prog 24 #[v, .func (.func 25) #[] #[.pointer (some ⟨B, 0, none⟩)]] w fun e w' => ∃ v' : Value, e = .returned v' ∧ (Kd.int .i64).R 3 w' base ok v' (l.filter (fun x => !p x)) ∧ Below base w0 w' ∧ Kept w w' (fun k => v.ownBlock = some k) ∧ v'.ownBlock = v.ownBlock := by
  obtain ⟨A, cap, rfl⟩ := Kd.R_slice HO
  obtain ⟨_, hcap, hC⟩ := Kd.R_reads' HO
  have hmax : l.length ≤ 9223372036854775807 := hC.2.1
  have HIX := Aside0.mk (fun c => ixI_25 B p K hp A c l w hC hk0)
  have HOO := Aside0.mk HO
  have HBB := Aside0.mk hB
  have HBASE := Aside0.mk hbase
  have HP := Aside0.mk hp
  have HK0 := Aside0.mk hk0
  have HKG := Aside0.mk hKg
  have HC := Aside0.mk hC
  clear HO hB hp hk0 hKg hC hbase
  cases hf : l.findIdx? p with
  | none =>
    have hix : ixOf p l = -1 := by unfold ixOf; rw [hf]
    have hfl : l.filter (fun x => !p x) = l := by
      rw [List.filter_eq_self]; intro x hx
      rw [List.findIdx?_eq_none_iff] at hf
      simp [hf x hx]
    rw [hix] at HIX
    rw [hfl]
    clear hix hfl hf
    go_enter Try.func24, Try.ntmps24
    go_wp2_with (go_at_call 31; refine (HIX.out _).mono ?_; rintro e w1 ⟨rfl, hb1⟩; have HB1 := Aside0.mk hb1; clear hb1)
    go_ret
    exact ⟨_, rfl, Kd.R_below HOO.out HB1.out, below_then HBB.out HBASE.out HB1.out, Kept.of_below HB1.out _, rfl⟩
  | some i =>
    have hix : ixOf p l = (i : Int) := by unfold ixOf; rw [hf]
    rw [List.findIdx?_eq_some_iff_getElem] at hf
    obtain ⟨hi, hpi, hbi⟩ := hf
    rw [hix] at HIX
    have hft : (l.take (i + 1)).filter (fun x => !p x) = l.take i := by
      rw [List.take_succ_eq_append_getElem hi, List.filter_append]
      have h1 : (l.take i).filter (fun x => !p x) = l.take i := by
        rw [List.filter_eq_self]; intro x hx
        obtain ⟨j, hj, rfl⟩ := List.mem_iff_getElem.1 hx
        rw [List.length_take] at hj
        have := hbi j (by omega)
        rw [List.getElem_take]; simpa using this
      rw [h1]; simp [hpi]
    have HFT := Aside0.mk hft
    clear hix hpi hbi hft
    obtain ⟨g, cap', hv, hbg, hlg, cells, hcg⟩ := Kd.R_form HOO.out (by omega)
    injection hv with hA hn hcc
    subst hA; subst hcc
    have HKG := Aside0.mk (fun W W' h1 h2 => HKG.out g W W' rfl h1 h2)
    clear hcg
    go_enter Try.func24, Try.ntmps24
    go_wp2_with (go_at_call 31; refine (HIX.out _).mono ?_; rintro e w1 ⟨rfl, hb1⟩; have HB1 := Aside0.mk hb1; clear hb1)
    go_loopg [5, 6] l.length (fun gg s5 s6 wr => ∃ (a b : Nat) (ys : List Int), a < b ∧ b ≤ l.length ∧ l.length - b ≤ gg ∧ s5 = .int .i64 a ∧ s6 = .int .i64 b ∧ Aside0 (ys.length = l.length ∧ ys.take a = (l.take b).filter (fun x => !p x) ∧ ys.drop b = l.drop b) ∧ Aside0 ((Kd.int .i64).R 3 wr base ok (.slice (some ⟨g, 0, none⟩) l.length cap) ys) ∧ Aside0 (K wr) ∧ Aside0 (Below base w0 wr) ∧ Aside0 (base ≤ wr.heap.size) ∧ Aside0 (Kept w wr (fun k => g = k)))
    case atStart =>
      exact ⟨i, i + 1, l, by omega, by omega, by omega, rfl, by go_num, ⟨rfl, HFT.out.symm, rfl⟩, ⟨Kd.R_below HOO.out HB1.out⟩, ⟨HP.out.2 _ _ HK0.out HB1.out⟩, ⟨below_then HBB.out HBASE.out HB1.out⟩, ⟨Nat.le_trans HBASE.out HB1.out.size⟩, ⟨Kept.of_below HB1.out _⟩⟩
    case round =>
      clear HIX HB1
      obtain ⟨a, b, ys, hab, hbl, hgb, rfl, rfl, HY, HR, HK, HB, HBS, HKP⟩ := hrel
      by_cases hlt : b < l.length
      · obtain ⟨y1, y2, y3⟩ := HY.out
        obtain ⟨ad, had, e1⟩ := Kd.at_int (by have := (Kd.R_reads' HR.out).2.2; rw [y1] at this; exact this) (b : Int) (by omega) (by omega)
        injection had with had
        subst had
        have hx : rd ys (b : Int) = l[b] := by
          rw [rdI_at ys b (by omega)]
          have := congrArg (fun q => q[0]?) y3
          simp only [List.getElem?_drop, Nat.add_zero] at this
          rw [List.getElem?_eq_getElem (by omega), List.getElem?_eq_getElem hlt] at this
          exact Option.some.inj this
        rw [hx] at e1
        obtain ⟨x, hxx⟩ : ∃ x, x = l[b] := ⟨_, rfl⟩
        rw [← hxx] at e1
        rw [Int.toNat_natCast] at e1
        simp only [add_plain] at e1
        have HX := Aside0.mk hxx
        have hfx : (l.take (b + 1)).filter (fun x => !p x) = (l.take b).filter (fun x => !p x) ++ (if p x = true then [] else [x]) := by
          rw [List.take_succ_eq_append_getElem hlt, List.filter_append, ← hxx]
          cases h : p x <;> simp [h]
        have HFX := Aside0.mk hfx
        clear hx hxx y1 y2 y3 hfx
        have hcall := Aside0.mk (fun W h => HP.out.1 W x h)
        obtain ⟨q, hq⟩ : ∃ q, p x = q := ⟨_, rfl⟩
        rw [hq] at hcall HFX
        have HPX := Aside0.mk hq
        clear hq
        cases q with
        | true =>
          go_wp2_with (go_at_call 25; refine (hcall.out _ HK.out).mono ?_; rintro e w3 ⟨rfl, hb3⟩; have HB3 := Aside0.mk hb3; clear hb3)
          go_roundg (l.length - (b + 1))
          case measure => omega
          case rel =>
            obtain ⟨y1, y2, y3⟩ := HY.out
            exact ⟨a, b + 1, ys, by omega, by omega, by omega, by go_num, by go_num, ⟨y1, by rw [y2, HFX.out]; simp, by rw [← List.drop_drop, y3, List.drop_drop]⟩, ⟨Kd.R_below HR.out HB3.out⟩, ⟨HP.out.2 _ _ HK.out HB3.out⟩, ⟨below_then HB.out HBS.out HB3.out⟩, ⟨Nat.le_trans HBS.out HB3.out.size⟩, ⟨HKP.out.below HB3.out⟩⟩
        | false =>
          go_wp2_with (go_at_call 25; refine (hcall.out _ HK.out).mono ?_; rintro e w3 ⟨rfl, hb3⟩; have HB3 := Aside0.mk hb3; have hp5 := Kd.R_putg (Kd.R_below (by have := HR.out; rw [← HY.out.1] at this; exact this) hb3) (a : Int) x; have hcf := Kd.R_cell (0 : Int) (Kd.R_below (by have := HR.out; rw [← HY.out.1] at this; exact this) hb3) (a : Int) (by omega) (by rw [HY.out.1]; omega); rw [Int.toNat_natCast] at hp5 hcf; have hc5 := hcf.1; have hf5 := hcf.2; have HO5 := Aside0.mk (by have := hp5.1; rw [HY.out.1] at this; exact this); have HG5 := Aside0.mk hp5.2; have HB5 := Aside0.mk ((below_then HB.out HBS.out hb3).grown hp5.2 (Nat.le_trans HBS.out hb3.size) (fun k hk => by injection hk with hk; omega)); clear hp5 hcf hb3)
          go_roundg (l.length - (b + 1))
          case measure => omega
          case rel =>
            obtain ⟨y1, y2, y3⟩ := HY.out
            exact ⟨a + 1, b + 1, ys.set a x, by omega, by omega, by omega, by go_num, by go_num, ⟨by rw [List.length_set]; exact y1, by rw [take_set_snoc ys a _ (by omega), y2, HFX.out]; simp, by rw [drop_set_far ys a (b + 1) _ (by omega), ← List.drop_drop, y3, List.drop_drop]⟩, HO5, ⟨HKG.out _ _ (HP.out.2 _ _ HK.out HB3.out) HG5.out⟩, HB5, ⟨Nat.le_trans HBS.out (Nat.le_trans HB3.out.size HG5.out.size)⟩, ⟨Kept.of_grown HG5.out (HKP.out.below HB3.out) (fun k hk => .inl (by injection hk))⟩⟩
      · have hbe : b = l.length := by omega
        subst hbe
        obtain ⟨y1, y2, y3⟩ := HY.out
        rw [List.take_length] at y2
        have hr := Kd.R_take HR.out (m := a) (by omega)
        rw [y2] at hr
        obtain ⟨w2, hr2, ho2, hg2⟩ := R_clear (P := Try.prog) (Kd.int .i64) (t := 23) (ty := 0) (m := l.length - a) (c2 := cap - a) Try.underlying23 (z := .int .i64 0) (fun w => by rfl) rfl (by simp [Value.cells, Value.oneCell']) hr (by omega)
        have hr2 : Sem.run Try.prog (Builtin.clear_ #[23] 0 #[.slice (some ⟨g, a, none⟩) (l.length - a) (cap - a)]) wr = .ok (.tuple #[]) w2 := by have h := hr2; rw [show a * (Kd.int .i64).sz = a from Nat.mul_one a] at h; exact h
        have HO2 := Aside0.mk ho2
        have HG2 := Aside0.mk hg2
        clear hr ho2 hg2 y1 y2 y3
        go_wp2
        go_ret
        exact ⟨_, rfl, HO2.out, HB.out.grown HG2.out HBS.out (fun k hk => by injection hk with hk; omega), Kept.of_grown HG2.out (HKP.out.mono (fun k (hk : g = k) => by rw [← hk]; rfl)) (fun k hk => .inl (by injection hk with hk; rw [← hk]; rfl)), rfl⟩
end Go.Proofs.Ytajghkmjgedikaa.Q
