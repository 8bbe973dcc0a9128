import Derived.Test.YtjbdlgjhnldfbaaQ0
import Derived.Lib.Hide
import Derived.Shelf.GgClosure.Gives
import Derived.Lib.SliceRun
namespace Go.Proofs.Ytjbdlgjhnldfbaa.Q
open Go.RowKit Go.Proofs.YtjbdlgjhnldfbaaW Go.Proofs.YtjbdlgjhnldfbaaW.PrintWords Go.Proofs.YtjbdlgjhnldfbaaW.PrintLast Go.Proofs.YtjbdlgjhnldfbaaW.PrintMore
set_option linter.unusedVariables false
set_option linter.unusedSimpArgs false

/-! ### slices.Clone at requests -/
def sched_Req.f (l0 : List S44) : Option (List S44) := if l0.length < 5864062014805 then some l0 else none

set_option maxHeartbeats 1600000 in
theorem sched_Req.calls (A0 : Option Addr) (c0 : Nat) (l0 : List S44) (r : List S44) (w : World) (hr0 : Kd.C k44 w A0 l0.length l0) (hc0 : l0.length ≤ c0) (h : sched_Req.f l0 = some r) :
    Calls Try.prog 31 #[.slice A0 l0.length c0] w fun e w' => ∃ v0_ : Value, e = .returned v0_ ∧ Kd.R k44 44 w' w.heap.size (fun _ => True) v0_ r ∧ Below w.heap.size w w' := by
  unfold sched_Req.f at h
  by_cases hl : l0.length < 5864062014805
  case neg => rw [if_neg hl] at h; cases h
  rw [if_pos hl] at h
  obtain rfl := Option.some.inj h
  clear h
  have q24 := fun W => Lib.run_eql_slice_nil (P := Try.prog) W 24 44 A0 l0.length c0 0 0 Try.underlying24
  cases A0 with
  | none =>
    have h0 : l0 = [] := by
      have := hr0.2.2
      by_cases hp : 0 < l0.length
      · obtain ⟨a, ha, _⟩ := this hp; cases ha
      · exact List.eq_nil_of_length_eq_zero (by omega)
    subst h0
    clear hr0
    have q24 : ∀ W, (binOp .eql 24 (.slice none 0 c0) (.slice none 0 0)).run Try.prog W = .ok (.bool true) W := q24
    go_enter Try.func31, Try.ntmps31
    go_wp2
    go_ret
    exact ⟨_, rfl, Kd.R_nil _ _ _ _ _, Below.refl _ _⟩
  | some a0 =>
    have q24 : ∀ W, (binOp .eql 24 (.slice (some a0) l0.length c0) (.slice none 0 0)).run Try.prog W = .ok (.bool false) W := q24
    have HR := Aside0.mk hr0
    have HC := Aside0.mk hc0
    have HB := Aside0.mk (Below.refl w.heap.size w)
    have HL := Aside0.mk hl
    clear hr0 hc0 hl
    go_enter Try.func31, Try.ntmps31
    go_wp2_with (first | ((with_reducible refine gate_dst (N := 5) rfl ?_); refine Kd.R_lit k44 _ 44 ?hg (N := 5) ?hd (xs := ([] : List (S44))) (inner := []) (ok := fun _ => True) (okp := fun _ => True) ?hr ?hp (fun _ hk => hk) trivial (Below.refl _ _) (Nat.le_refl _) (by simp) ?_; (case hd => rfl); (case hg => rfl); (case hr => first | (go_simp; done) | (go_simp; rfl)); (case hp => exact (Reps.none _ _)); intro v1 w1 ho1 hb hg_ hnew_; clear hg_ hnew_; have HO := Aside0.mk ho1; have HB1 := Aside0.mk hb; clear hb ho1) | ((with_reducible refine gate_builtin (b := .append) (xs := #[.tmp 5, .tmp 6]) rfl ?_); at_builtin; refine Kd.R_append_rows k44 (w0 := w) w.heap.size rfl (.tmp 5) (.tmp 6) 24 44 (.agg #[(.int .i64 0), (.int .u64 0), (.int .i64 0)]) 24 rfl Try.underlying24 info44 rfl (by decide) (by omega) v1 [] l0 _ _ _ (fun _ => True) (fun _ => False) rfl rfl ?aO ?aR (fun _ _ h => h) (fun _ h => h.elim) ?aF ?aB ?aS ?aL ?_; (case aO => exact HO.out); (case aR => exact (Kd.C_below HR.out HB1.out)); (case aF => exact (fun _ _ => trivial)); (case aB => exact HB1.out); (case aS => exact HB1.out.size); (case aL => have := HL.out; simp only [List.length_nil]; omega); intro v2 w2 ho hb hg hat; rw [List.nil_append] at ho; have HO2 := Aside0.mk ho; have HB2 := Aside0.mk hb; clear ho hb hg hat))
    go_ret
    exact ⟨_, rfl, HO2.out, HB2.out⟩

/-! ### the place of the first one -/
def ixOf {α : Type} (p : α → Bool) (l : List α) : Int := match l.findIdx? p with | some i => (i : Int) | none => -1
theorem ixOf_at {α : Type} (p : α → Bool) (l : List α) (k : Nat) (hk : k < l.length) (hp : p l[k] = true) (hb : ∀ j (hj : j < k), p (l[j]'(by omega)) = false) : ixOf p l = (k : Int) := by
  have : l.findIdx? p = some k := by
    rw [List.findIdx?_eq_some_iff_getElem]
    exact ⟨hk, hp, fun j hj => by rw [hb j hj]; decide⟩
  unfold ixOf; rw [this]
theorem ixOf_none {α : Type} (p : α → Bool) (l : List α) (hb : ∀ j (hj : j < l.length), p l[j] = false) : ixOf p l = -1 := by
  have : l.findIdx? p = none := by
    rw [List.findIdx?_eq_none_iff]
    intro x hx
    obtain ⟨j, hj, rfl⟩ := List.mem_iff_getElem.1 hx
    exact hb j hj
  unfold ixOf; rw [this]

def PredC (g : Nat) (lb : Array Value) (p : S44 → Bool) (w : World) : Prop := ∀ (W : World) (x : S44), Below w.heap.size w W →
  Calls Try.prog g (#[.agg #[.int .i64 x.f0, .int .u64 x.f1, .int .i64 x.f2]] ++ lb) W fun e w' => e = .returned (.bool (p x)) ∧ Below W.heap.size W w'

theorem rd_at (l : List S44) (k : Nat) (hk : k < l.length) : rd_T44 l (k : Int) = l[k] := by
  unfold rd_T44; simp [List.getD_eq_getElem?_getD, List.getElem?_eq_getElem hk]

set_option maxHeartbeats 1600000 in
theorem index_any (g : Nat) (lb : Array Value) (p : S44 → Bool) (eg : ∀ args w, (callFunc g args).run Try.prog w = .ok (.enter g args) w) (A : Option Addr) (c : Nat) (l : List S44) (w : World) (hr : Kd.C k44 w A l.length l) (hp : PredC g lb p w) :
    Calls Try.prog 46 #[.slice A l.length c, .func (.func g) #[] lb] w fun e w' => e = .returned (.int .i64 (ixOf p l)) ∧ Below w.heap.size w w' := by
  have hmax : l.length ≤ 9223372036854775807 := hr.2.1
  have HR := Aside0.mk hr
  have HP := Aside0.mk hp
  have hu44 := Try.underlying44
  clear hr hp
  go_enter Try.func46, Try.ntmps46
  go_wp2
  go_loopg [8] l.length (fun gg s8 wr => ∃ k : Nat, k ≤ l.length ∧ l.length - k ≤ gg ∧ s8 = .int .i64 k ∧ Aside0 (Below w.heap.size w wr) ∧ Aside0 (∀ j (hj : j < l.length), j < k → p l[j] = false))
  case atStart =>
    exact ⟨0, Nat.zero_le _, by omega, rfl, ⟨Below.refl _ _⟩, ⟨fun j hj h => by omega⟩⟩
  case round =>
    obtain ⟨k, hk, hgk, rfl, HB, HF⟩ := hrel
    by_cases hlt : k < l.length
    · obtain ⟨ad, rfl, e1, e2, e3⟩ := at_T44 (Kd.C_below HR.out HB.out) (k : Int) (by omega) (by omega)
      have hx := rd_at l k hlt
      rw [hx] at e1 e2 e3
      obtain ⟨x, hxx⟩ : ∃ x, x = l[k] := ⟨_, rfl⟩
      rw [← hxx] at e1 e2 e3
      have HX := Aside0.mk hxx
      rw [Int.toNat_natCast] at e1 e2 e3
      clear hx hxx
      have hcall := Aside0.mk (fun W h => HP.out W x h)
      obtain ⟨b, hb⟩ : ∃ b, p x = b := ⟨_, rfl⟩
      rw [hb] at hcall
      have HPX := Aside0.mk hb
      clear hb
      cases b with
      | true =>
        go_wp2_with (go_at_fn g; refine (hcall.out _ HB.out).mono ?_; rintro e w1 ⟨rfl, hb1⟩; have HB1 := Aside0.mk (below_then HB.out HB.out.size hb1); clear hb1)
        go_ret
        exact ⟨by rw [ixOf_at p l k hlt (by rw [← HX.out]; exact HPX.out) (fun j hj => HF.out j (by omega) hj)]; rfl, HB1.out⟩
      | false =>
        go_wp2_with (go_at_fn g; refine (hcall.out _ HB.out).mono ?_; rintro e w1 ⟨rfl, hb1⟩; have HB1 := Aside0.mk (below_then HB.out HB.out.size hb1); clear hb1)
        go_roundg (l.length - (k + 1))
        case measure => omega
        case rel =>
          exact ⟨k + 1, by omega, by omega, by go_num, HB1, ⟨fun j hj h => by
            by_cases he : j = k
            · subst he; rw [← HX.out]; exact HPX.out
            · exact HF.out j hj (by omega)⟩⟩
    · have : k = l.length := by omega
      subst this
      go_wp2
      go_ret
      exact ⟨by rw [ixOf_none p l (fun j hj => HF.out j hj hj)]; rfl, HB.out⟩

theorem pred47 (s : Int) (B : Nat) (w : World) (hB : B < w.heap.size) (hc : w.cell? ⟨B, 0, none⟩ = some (.int .i64 s)) : PredC 47 #[.pointer (some ⟨B, 0, none⟩)] (fun x => x.f0 == s) w := by
  intro W x hb
  have hc1 : W.cell? ⟨B, 0, none⟩ = some (.int .i64 s) := (hb.cell (p := ⟨B, 0, none⟩) hB).trans hc
  have hlt : B < W.heap.size := Nat.lt_of_lt_of_le hB hb.size
  have hne : B ≠ W.heap.size := by omega
  clear hc hB hb
  show Calls Try.prog 47 #[.agg #[.int .i64 x.f0, .int .u64 x.f1, .int .i64 x.f2], .pointer (some ⟨B, 0, none⟩)] W _
  go_enter Try.func47, Try.ntmps47
  go_wp2
  go_ret
  exact ⟨rfl, (Below.refl _ _).alloc (Nat.le_refl _) _⟩

def sched_Queue_find.f (l0 : List S44) (a0 : Int) (a1 : Int) : Option Int := some (ixOf (fun x => x.f0 == a1) l0)
set_option maxHeartbeats 1600000 in
theorem sched_Queue_find.calls (A0 : Option Addr) (c0 : Nat) (l0 : List S44) (a0 : Int) (a1 : Int) (r : Int) (w : World) (hr0 : Kd.C k44 w A0 l0.length l0) (hc0 : l0.length ≤ c0) (h : sched_Queue_find.f l0 a0 a1 = some r) :
    Calls Try.prog 30 #[.agg #[.slice A0 l0.length c0, .int .i64 a0], .int .i64 a1] w fun e w' => e = .returned (.int .i64 r) ∧ Below w.heap.size w w' := by
  have h := Option.some.inj h
  have hu26 := Try.underlying26
  have e47 := enters_of Try.func47 (by kernel_rfl) rfl
  have HR := Aside0.mk hr0
  have H := Aside0.mk (fun W B hB hc hw => index_any 47 #[.pointer (some ⟨B, 0, none⟩)] (fun x => x.f0 == a1) e47 A0 c0 l0 W (Kd.C_below hr0 hw) (pred47 a1 B W hB hc))
  rw [h] at H
  clear hr0 h e47
  go_enter Try.func30, Try.ntmps30
  go_wp2_with (go_at_call 46; refine (H.out _ _ ?s1 ?s2 ?s3).mono ?_; (case s1 => simp); (case s2 => simp); (case s3 => exact ((Below.refl _ _).alloc (Nat.le_refl _) _).alloc (by simp) _); rintro e w1 ⟨rfl, hb1⟩; have HB1 := Aside0.mk (below_then (((Below.refl _ _).alloc (Nat.le_refl _) _).alloc (by simp) _) (by simp; omega) hb1); clear hb1)
  go_ret
  exact ⟨rfl, HB1.out⟩

theorem zc_one (cs : Array Value) : (Builtin.zeroCells cs 1).toList = cs.toList := by
  unfold Builtin.zeroCells
  apply List.ext_getElem
  · simp
  · intro i h1 h2
    simp at h1 h2 ⊢
    simp [Nat.mod_eq_of_lt h2, h2]

/-- clear of the one element behind a row's end. -/
theorem R_clear1 {α : Type} {P : Program} (d : Kd α) {W : World} {base e g n c t ty m c2 : Nat} {ok : Nat → Prop} {xs : List α} {z : Value} (ht : P.underlying t = some (.slice e)) (hv : ∀ w, (zeroValue e).run P w = .ok z w) (hzs : z.cells.size = d.sz) (hone : ∀ u ∈ z.cells.toList, u.oneCell' = true)
    (HO : d.R e W base ok (.slice (some ⟨g, 0, none⟩) n c) xs) (hc : n + 1 ≤ c) (hm : m = 1) :
    ∃ w1, (Builtin.clear_ #[t] ty #[.slice (some ⟨g, n * d.sz, none⟩) m c2]).run P W = .ok (.tuple #[]) w1 ∧ d.R e w1 base ok (.slice (some ⟨g, 0, none⟩) n c) xs ∧ W.grownBy w1 (some g) := by
  subst hm
  obtain ⟨hn, hnc, _⟩ := Kd.R_reads' HO
  obtain ⟨hok, inner, hown, hr⟩ := HO
  rcases hown.2 with ⟨hv', _⟩ | ⟨g', cap', cur, hv', hb, hh, _, hcm, hcs, htake⟩
  · cases hv'
  injection hv' with ha _ hc'
  injection ha with ha
  injection ha with hg
  subst hg; subst hc'
  rw [← hn] at htake
  have hl : z.cells.toList.length = d.sz := by rw [Array.length_toList, hzs]
  have hmul : (n + 1) * d.sz ≤ c * d.sz := Nat.mul_le_mul_right _ hc
  rw [Nat.succ_mul] at hmul
  have hfit : n * d.sz + z.cells.toList.length ≤ cur.size := by omega
  obtain ⟨cur', h3, h4, h5⟩ := setCells_row z.cells.toList (n * d.sz) W cur hh hfit
  obtain ⟨s1, s2, s3, s4⟩ := setCells_same g z.cells.toList (n * d.sz) W
  have hst := run_storeCells_cells (P := P) g (n * d.sz) z.cells.toList 0 W (by
      intro j hj
      rw [cell_of_row W g _ cur e (0, 0) hh]; simp; omega) (fun j _ => blk_frozen hh _) hone
  rw [Nat.add_zero] at hst
  have hfar : ∀ k', k' ≠ g → (W.setCells g (n * d.sz) z.cells.toList).heap[k']? = W.heap[k']? := fun k' hk' => setCells_far z.cells.toList _ k' hk'
  refine ⟨_, ?_, ⟨hok, inner, ⟨hown.1, .inr ⟨g, c, cur', by rw [hn], hb, h3, by omega, hcm, by rw [h4, hcs], ?_⟩⟩, hr.imp_ (fun _ _ hp => d.M_move (fun k' hk' => hfar k' (fun he => hk'.2 (by rw [he]; simp [Value.ownBlock]))) hp)⟩, ⟨s1, s2, s3, by rw [s4]; exact Nat.le_refl _, fun k' _ hk' => hfar k' (fun he => hk' (by rw [he]))⟩⟩
  · simp [Builtin.clear_, run_underlying ht, hv, zc_one, hst]
  · rw [h5, ← hn, List.append_assoc, List.take_append_of_le_length (by rw [List.length_take]; simp; omega), List.take_take, Nat.min_self, htake]

set_option maxHeartbeats 1600000 in
theorem delete_any (W : World) (base g n c k : Nat) (xs : List S44) (ok : Nat → Prop) (HO : k44.R 44 W base ok (.slice (some ⟨g, 0, none⟩) n c) xs) (hk : k < n) (hbase : base ≤ W.heap.size) :
    Calls Try.prog 52 #[.slice (some ⟨g, 0, none⟩) n c, .int .i64 k, .int .i64 (k + 1)] W fun e w' => e = .returned (.slice (some ⟨g, 0, none⟩) (n - 1) c) ∧ k44.R 44 w' base ok (.slice (some ⟨g, 0, none⟩) (n - 1) c) (xs.eraseIdx k) ∧ W.drew.grownBy w' (some g) := by
  obtain ⟨h1, h2, _⟩ := Kd.R_reads' HO
  have HOO := Aside0.mk HO
  have hmax : c ≤ 9223372036854775807 := by
    obtain ⟨inner, ho⟩ := Kd.R_own HO
    rcases ho.2 with ⟨hv, _⟩ | ⟨g', cap', cur, hv, hb, hh, _, hcm, _⟩
    · cases hv
    · injection hv with _ _ hc; subst hc; exact hcm
  have h3 : n = xs.length := h1
  clear HO h1
  obtain ⟨i0, hi0, _, hsz0, _⟩ := info_parts info44
  have hcut := cut_from (P := Try.prog) 24 44 .i64 Try.underlying24 hi0 3 hsz0 (some ⟨g, 0, none⟩) n c ((k : Int) + 1) (by omega) (by omega)
  obtain ⟨A1, hA1⟩ : ∃ A1, A1 = (if c = k + 1 then some ⟨g, 0, none⟩ else (some (⟨g, 0, none⟩ : Addr)).map (·.add ((k + 1) * 3))) := ⟨_, rfl⟩
  rw [show (((k : Int) + 1).toNat) = k + 1 by omega, ← hA1] at hcut
  have hA2 : A1 = (if c = k + 1 then some ⟨g, 0, none⟩ else (some (⟨g, 0, none⟩ : Addr)).map (·.add ((k + 1) * k44.sz))) := hA1
  have HA1 := Aside0.mk hA2
  have H3 := Aside0.mk h3
  have HB := Aside0.mk hbase
  have HK := Aside0.mk hk
  clear hA1 hA2 h3 hi0 hsz0 hbase
  have hkc : k ≤ c := by omega
  go_enter Try.func52, Try.ntmps52
  go_wp2_with fail
  go_region_law (refine Kd.R_delete_step k44 (w0 := W.drew) base rfl (.tmp 22) (.tmp 25) 24 44 rfl Try.underlying24 (by kernel_rfl) (g := g) (n := n) (c := c) (k := k) (m := n - (k + 1)) (c2 := c - (k + 1)) (A := A1) (xs := xs) (ok := ok) (by simp [Act.eval, Act.put]) (by simp [Act.eval, Act.put]) HA1.out rfl (Kd.R_drew HOO.out) HK.out (Below.refl _ _) HB.out ?_; intro w1 ho1 hb1 hg1; have HO1 := Aside0.mk ho1; have HG1 := Aside0.mk hg1; clear ho1 hg1 hb1)
  go_wp2_with fail
  obtain ⟨w2, hr2, ho2, hg2⟩ := R_clear1 (P := Try.prog) k44 (t := 24) (ty := 0) (m := n - (n - 1)) (c2 := c - (n - 1)) Try.underlying24 (z := .agg #[.int .i64 0, .int .u64 0, .int .i64 0]) (fun w => by rfl) rfl (by simp [Value.cells, Value.oneCell']) HO1.out (by omega) (by omega)
  have hr2 : Sem.run Try.prog (Builtin.clear_ #[24] 0 #[.slice (some ⟨g, (n - 1) * 3, none⟩) (n - (n - 1)) (c - (n - 1))]) w1 = .ok (.tuple #[]) w2 := hr2
  rw [hr2]
  have HO2 := Aside0.mk ho2
  have HG2 := Aside0.mk (HG1.out.trans hg2)
  clear hr2 ho2 hg2 HO1 HG1
  go_wp2
  go_ret
  exact ⟨rfl, HO2.out, HG2.out⟩

/-! ### without -/
def sched_Queue_without.f (l0_0 : List (S44)) (a0_1 : Int) (a1 : Int) : Option ((List (S44)) × Int) := if 0 ≤ a1 ∧ a1 < l0_0.length ∧ l0_0.length < 5864062014805 then some (l0_0.eraseIdx a1.toNat, a0_1) else none
def sched_Queue_without.T1 : Bool × List (List Nat × List Nat) := (true, [([], []), ([0], [0]), ([1], [1]), ([], []), ([], []), ([4], [4]), ([2, 3, 5, 2], [2, 3, 5]), ([], []), ([7], [7]), ([6, 8], [6, 8]), ([9, 6, 0, 1, 2, 3, 4, 5, 6, 7, 8, 9], [9])])
def sched_Queue_without.B1 : List Nat := [0, 1, 3, 0, 0, 16, 63, 0, 128, 511, 1023]
theorem sched_Queue_without.tab1 : rtab .any (opsOf Try.f38 1) = sched_Queue_without.T1 := by kernel_rfl
theorem sched_Queue_without.bits1 : waitsOk sched_Queue_without.T1.2 sched_Queue_without.B1 = true := by kernel_rfl
set_option maxHeartbeats 8000000 in
set_option maxRecDepth 100000 in
theorem sched_Queue_without.calls (A0_0 : Option Addr) (c0_0 : Nat) (l0_0 : List (S44)) (a0_1 : Int) (a1 : Int) (r1 : List (S44)) (r2 : Int) (w : World) (hr0_0 : Kd.C k44 w A0_0 l0_0.length l0_0) (hc0_0 : l0_0.length ≤ c0_0) (h : sched_Queue_without.f l0_0 a0_1 a1 = some (r1, r2)) :
    Calls Try.prog 38 #[.agg #[.slice A0_0 l0_0.length c0_0, .int .i64 a0_1], .int .i64 a1] w fun e w' => ∃ v0_ : Value, e = .returned (.agg #[v0_, .int .i64 r2]) ∧ Kd.R k44 44 w' w.heap.size (fun _ => True) v0_ r1 ∧ Below w.heap.size w w' := by
  have hu26 := Try.underlying26
  have HR0_0 := Aside0.mk hr0_0
  have HC0_0 := Aside0.mk hc0_0
  clear hr0_0 hc0_0
  have HB := Aside0.mk (Below.refl w.heap.size w)
  unfold sched_Queue_without.f at h
  by_cases hin : 0 ≤ a1 ∧ a1 < l0_0.length ∧ l0_0.length < 5864062014805
  case neg => rw [if_neg hin] at h; cases h
  rw [if_pos hin] at h
  obtain ⟨hi1, hi2, hi3⟩ := hin
  obtain ⟨kk, rfl⟩ : ∃ kk : Nat, a1 = kk := ⟨a1.toNat, by omega⟩
  simp only [Option.some.injEq, Prod.mk.injEq, Int.toNat_natCast] at h
  obtain ⟨rfl, rfl⟩ := h
  have HI := Aside0.mk (show kk < l0_0.length by omega)
  have hwr : wrap64 ((kk : Int) + 1) = (kk : Int) + 1 := by have := HR0_0.out.2.1; unfold wrap64; omega
  have HWR := Aside0.mk hwr
  have A3 : Aside0 (sched_Req.f l0_0 = some l0_0) := ⟨by unfold sched_Req.f; rw [if_pos hi3]⟩
  clear hi1 hi2 hi3 hwr
  go_enter Try.func38, Try.ntmps38
  try go_wp2_with (first | ((with_reducible refine gate_dst (N := 2) rfl ?_); refine box_event ?hg (N := 2) ?hd (cs := #[.slice A0_0 l0_0.length c0_0, .int .i64 a0_1]) (t := 26) ?hr ?_; (case hd => rfl); (case hg => rfl); (case hr => first | (go_simp; done) | (go_simp; rfl)); intro gb125 hg w5 hbox hb; have n0_ := Aside0.mk (below_step (by repeat (first | (with_reducible first | exact HB.out | apply below_alloc | apply pw_below_drewN | apply below_drew1) | exact HB.out)) hb); have n1_ := Aside0.mk (hbox); have n2_ := Aside0.mk ((by rw [hg]; exact (below_size (by repeat (first | (with_reducible first | exact HB.out | apply below_alloc | apply pw_below_drewN | apply below_drew1) | exact HB.out))) : w.heap.size ≤ gb125)); have n3_ := Aside0.mk ((by rw [hg]; exact (below_size (by repeat (first | (with_reducible first | exact HB.out | apply below_alloc | apply pw_below_drewN | apply below_drew1) | exact HB.out))) : w.heap.size ≤ gb125)); clear HB; have HB := n0_; have BK125 := n1_; have GW125 := n2_; have GE125 := n3_; clear n0_ n1_ n2_ n3_; clear hb hbox hg) | ((with_reducible refine gate_dst (N := 4) rfl ?_); refine box_event ?hg (N := 4) ?hd (cs := #[.slice none 0 0, .int .i64 0]) (t := 26) ?hr ?_; (case hd => rfl); (case hg => rfl); (case hr => first | (go_simp; done) | (go_simp; rfl)); intro gb126 hg w6 hbox hb; have n0_ := Aside0.mk (blk_below (g := gb125) (o := .cells #[.slice A0_0 l0_0.length c0_0, .int .i64 a0_1] 26 (0, 0)) (by (with_reducible repeat (first | refine blk_drewN ?_ _ | refine blk_drew ?_ | refine blk_alloc ?_ _)); exact BK125.out) hb); have n1_ := Aside0.mk (below_step (by repeat (first | (with_reducible first | exact HB.out | apply below_alloc | apply pw_below_drewN | apply below_drew1 | refine below_set ?_ GE125.out) | exact HB.out)) hb); have n2_ := Aside0.mk (hbox); have n3_ := Aside0.mk ((by rw [hg]; exact (below_size (by repeat (first | (with_reducible first | exact HB.out | apply below_alloc | apply pw_below_drewN | apply below_drew1 | refine below_set ?_ GE125.out) | exact HB.out))) : w.heap.size ≤ gb126)); have n4_ := Aside0.mk ((by rw [hg]; exact (below_size (by repeat (first | (with_reducible first | exact HB.out | apply below_alloc | apply pw_below_drewN | apply below_drew1 | refine below_set ?_ GE125.out) | exact HB.out))) : w.heap.size ≤ gb126)); have n5_ := Aside0.mk ((by rw [hg]; exact Nat.ne_of_lt (blk_lt (g := gb125) (o := .cells #[.slice A0_0 l0_0.length c0_0, .int .i64 a0_1] 26 (0, 0)) (by (with_reducible repeat (first | refine blk_drewN ?_ _ | refine blk_drew ?_ | refine blk_alloc ?_ _)); exact BK125.out)) : gb125 ≠ gb126)); have n6_ := Aside0.mk ((by rw [hg]; exact Nat.ne_of_gt (blk_lt (g := gb125) (o := .cells #[.slice A0_0 l0_0.length c0_0, .int .i64 a0_1] 26 (0, 0)) (by (with_reducible repeat (first | refine blk_drewN ?_ _ | refine blk_drew ?_ | refine blk_alloc ?_ _)); exact BK125.out)) : gb126 ≠ gb125)); clear BK125; clear HB; have BK125 := n0_; have HB := n1_; have BK126 := n2_; have GW126 := n3_; have GE126 := n4_; have NB125_126 := n5_; have NB126_125 := n6_; clear n0_ n1_ n2_ n3_ n4_ n5_ n6_; clear hb hbox hg))
  have n0_ := Aside0.mk (blk_drew BK125.out)
  have n1_ := Aside0.mk (blk_drew BK126.out)
  have n2_ := Aside0.mk (below_drew1 HB.out)
  clear BK125
  clear BK126
  clear HB
  have BK125 := n0_
  have BK126 := n1_
  have HB := n2_
  clear n0_ n1_ n2_
  refine start_ (n := 11) (S := fun w' => w'.cell? ⟨gb125, 0, none⟩ = some (.slice A0_0 l0_0.length c0_0) ∧ w'.cell? ⟨gb125, 1, none⟩ = some (.int .i64 a0_1)) (ds := []) #[false, false, false, false, false, false, false, false, false, false, false] (by kernel_rfl) rfl rfl ⟨(blk_cell BK125.out 0).trans rfl, (blk_cell BK125.out 1).trans rfl⟩ (fun hHeld => ?_); refine with_tabW sched_Queue_without.tab1 sched_Queue_without.bits1 (fun HT_ HW_ => ?_)
  generalize w6.drew = w7 at BK125 BK126 HB hHeld ⊢
  refine pure_ (i := 0) (N := some 5) (v := ?_) (a' := ?_) #[true, false, false, false, false, false, false, false, false, false, false] rfl rfl (any_of HT_.out (by kernel_rfl)) (fun _ _ _ h => h) (Or.inl ⟨by rfl, ?_⟩) ?_ ?_
  rotate_left
  · intro w'
    go_simp
    with_reducible rfl
  rotate_left
  · simp only [Act.put, List.setIfInBounds_toArray, List.set_cons_zero, List.set_cons_succ, i64_w, i32_w]
    rfl
  refine pure_ (i := 3) (N := some 8) (v := ?_) (a' := ?_) #[true, false, false, true, false, false, false, false, false, false, false] rfl rfl (any_of HT_.out (by kernel_rfl)) (fun _ _ _ h => h) (Or.inl ⟨by rfl, ?_⟩) ?_ ?_
  rotate_left
  · intro w'
    go_simp
    with_reducible rfl
  rotate_left
  · simp only [Act.put, List.setIfInBounds_toArray, List.set_cons_zero, List.set_cons_succ, i64_w, i32_w]
    rfl
  refine pure_ (i := 4) (N := some 9) (v := ?_) (a' := ?_) #[true, false, false, true, true, false, false, false, false, false, false] rfl rfl (any_of HT_.out (by kernel_rfl)) (fun _ _ _ h => h) (Or.inl ⟨by rfl, ?_⟩) ?_ ?_
  rotate_left
  · intro w'
    go_simp
    with_reducible rfl
  rotate_left
  · simp only [Act.put, List.setIfInBounds_toArray, List.set_cons_zero, List.set_cons_succ, i64_w, i32_w]
    rfl
  refine pure_ (i := 5) (N := some 10) (v := ?_) (a' := ?_) #[true, false, false, true, true, true, false, false, false, false, false] rfl rfl (any_of HT_.out (by kernel_rfl)) (fun _ _ _ h => h) (Or.inl ⟨by rfl, ?_⟩) ?_ ?_
  rotate_left
  · intro w'
    go_simp
    with_reducible rfl
  rotate_left
  · simp only [Act.put, List.setIfInBounds_toArray, List.set_cons_zero, List.set_cons_succ, i64_w, i32_w]
    rfl
  refine pure_ (i := 7) (N := some 12) (v := ?_) (a' := ?_) #[true, false, false, true, true, true, false, true, false, false, false] rfl rfl (any_of HT_.out (by kernel_rfl)) (fun _ _ _ h => h) (Or.inl ⟨by rfl, ?_⟩) ?_ ?_
  rotate_left
  · intro w'
    go_simp
    with_reducible rfl
  rotate_left
  · simp only [Act.put, List.setIfInBounds_toArray, List.set_cons_zero, List.set_cons_succ, i64_w, i32_w]
    rfl
  refine take_ (i := 1) (N := some 6) (v := ?_) (a' := ?_) #[true, true, false, true, true, true, false, true, false, false, false] rfl rfl (take_ofW HT_.out HW_.out (by kernel_rfl)) (fun _ _ _ h => h) (Or.inl ⟨by rfl, ?_⟩) hHeld ?_ ?_
  rotate_left
  · rintro w' ⟨s0, s1⟩
    go_simp
    with_reducible rfl
  rotate_left
  · simp only [Act.put, List.setIfInBounds_toArray, List.set_cons_zero, List.set_cons_succ, i64_w, i32_w]
    rfl
  refine take_ (i := 8) (N := some 13) (v := ?_) (a' := ?_) #[true, true, false, true, true, true, false, true, true, false, false] rfl rfl (take_ofW HT_.out HW_.out (by kernel_rfl)) (fun _ _ _ h => h) (Or.inl ⟨by rfl, ?_⟩) hHeld ?_ ?_
  rotate_left
  · rintro w' ⟨s0, s1⟩
    go_simp
    with_reducible rfl
  rotate_left
  · simp only [Act.put, List.setIfInBounds_toArray, List.set_cons_zero, List.set_cons_succ, i64_w, i32_w]
    rfl
  refine one_ (i := 2) (N := some 7) #[true, true, true, true, true, true, false, true, true, false, false] rfl rfl (one_of HT_.out (by kernel_rfl)) (by decide) (fun K hK => ?_)
  refine goes_ Try.func31 (by kernel_rfl) rfl #[.slice A0_0 l0_0.length c0_0] (by rfl) rfl rfl (by (try simp only [List.map_toArray, List.map_cons, List.map_nil]); first | done | rfl | (simp only [List.length_drop, List.length_take]; rfl)) ?_
  with_reducible refine (sched_Req.calls _ _ l0_0 l0_0 _ ?side1 ?side2 A3.out).mono ?_
  (case side1 => repeat (first | exact (Kd.C_below HR0_0.out HB.out) | (with_reducible refine Kd.C_alloc ?_ _) | (with_reducible refine Kd.C_drewN ?_ _) | (with_reducible refine Kd.C_drew ?_)))
  (case side2 => exact HC0_0.out)
  rintro e w8 ⟨v128, rfl, ho0, hb⟩
  refine ⟨_, rfl, ?_⟩
  have n0_ := Aside0.mk (Kd.R_lower ho0 (below_size (by repeat (first | (with_reducible first | exact HB.out | apply below_alloc | apply pw_below_drewN | apply below_drew1 | refine below_set ?_ GE125.out | refine below_set ?_ GE126.out) | exact HB.out))))
  have n1_ := Aside0.mk (blk_below (g := gb125) (o := .cells #[.slice A0_0 l0_0.length c0_0, .int .i64 a0_1] 26 (0, 0)) (by (with_reducible repeat (first | refine blk_drewN ?_ _ | refine blk_drew ?_ | refine blk_alloc ?_ _)); exact BK125.out) hb)
  have n2_ := Aside0.mk (blk_below (g := gb126) (o := .cells #[.slice none 0 0, .int .i64 0] 26 (0, 0)) (by (with_reducible repeat (first | refine blk_drewN ?_ _ | refine blk_drew ?_ | refine blk_alloc ?_ _)); exact BK126.out) hb)
  have n3_ := Aside0.mk (below_step (by repeat (first | (with_reducible first | exact HB.out | apply below_alloc | apply pw_below_drewN | apply below_drew1 | refine below_set ?_ GE125.out | refine below_set ?_ GE126.out) | exact HB.out)) hb)
  clear BK125
  clear BK126
  clear HB
  have HO129 := n0_
  have BK125 := n1_
  have BK126 := n2_
  have HB := n3_
  clear n0_ n1_ n2_ n3_
  (try clear hb)
  (try clear hb2)
  (try clear hk)
  (try clear hi)
  (try clear ho0)
  obtain ⟨gg9, co9, rfl, hbg9, hlt9, cells9, hc9⟩ := Kd.R_form HO129.out (by have := HI.out; omega)
  have HC9 := Aside0.mk hc9
  have HBG9 := Aside0.mk hbg9
  clear hbg9 hlt9 hc9
  refine hK.out _ _ ⟨(blk_cell BK125.out 0).trans rfl, (blk_cell BK125.out 1).trans rfl⟩ (fun hHeld => ?_)
  clear hK K
  refine norm_ (a' := ?_) ?_ ?_
  rotate_left
  · show Act.put _ (some 7) _ = _
    simp only [Act.put, List.setIfInBounds_toArray, List.set_cons_zero, List.set_cons_succ, i64_w, i32_w]
    rfl
  refine one_ (i := 6) (N := some 11) #[true, true, true, true, true, true, true, true, true, false, false] rfl rfl (one_of HT_.out (by kernel_rfl)) (by decide) (fun K hK => ?_)
  rw [HWR.out]
  refine goes_ Try.func52 (by kernel_rfl) rfl #[.slice (some ⟨gg9, 0, none⟩) l0_0.length co9, .int .i64 kk, .int .i64 ((kk : Int) + 1)] (by rfl) rfl rfl (by (try simp only [List.map_toArray, List.map_cons, List.map_nil]); first | done | rfl) ?_
  with_reducible refine (delete_any w8 w.heap.size gg9 l0_0.length co9 kk l0_0 _ HO129.out HI.out HB.out.size).mono ?_
  rintro e w10 ⟨rfl, ho0, hg⟩
  refine ⟨_, rfl, ?_⟩
  have n1_ := Aside0.mk ho0
  have n2_ := Aside0.mk (blk_grown (blk_drew BK125.out) hg (fun he => by injection he with he; exact blk_ne BK125.out HC9.out (by decide) he))
  have n3_ := Aside0.mk (blk_grown (blk_drew BK126.out) hg (fun he => by injection he with he; exact blk_ne BK126.out HC9.out (by decide) he))
  have n4_ := Aside0.mk ((below_drew1 HB.out).grown hg (by exact HB.out.size) (fun k hk => by injection hk with hk; subst hk; exact HBG9.out))
  clear HO129
  clear BK125
  clear BK126
  clear HB
  have HO132 := n1_
  have BK125 := n2_
  have BK126 := n3_
  have HB := n4_
  clear n1_ n2_ n3_ n4_ hg ho0
  refine hK.out _ _ ⟨(blk_cell BK125.out 0).trans rfl, (blk_cell BK125.out 1).trans rfl⟩ (fun hHeld => ?_)
  clear hK K
  refine norm_ (a' := ?_) ?_ ?_
  rotate_left
  · show Act.put _ (some 11) _ = _
    simp only [Act.put, List.setIfInBounds_toArray, List.set_cons_zero, List.set_cons_succ, i64_w, i32_w]
    rfl
  refine pure_ (i := 9) (N := some 14) (v := ?_) (a' := ?_) #[true, true, true, true, true, true, true, true, true, true, false] rfl rfl (any_of HT_.out (by kernel_rfl)) (fun _ _ _ h => h) (Or.inl ⟨by rfl, ?_⟩) ?_ ?_
  rotate_left
  · intro w'
    go_simp
    with_reducible rfl
  rotate_left
  · simp only [Act.put, List.setIfInBounds_toArray, List.set_cons_zero, List.set_cons_succ, i64_w, i32_w]
    rfl
  refine one_ (i := 10) (N := none) #[true, true, true, true, true, true, true, true, true, true, true] rfl rfl (one_of HT_.out (by kernel_rfl)) (by decide) (fun K hK => ?_)
  have hs12 : w10.cell? ⟨gb126, 0, none⟩ = some (.slice none 0 0) := (blk_cell BK126.out 0).trans rfl
  have hfs12 := blk_frozen BK126.out 0
  have hns12_0 := NB125_126.out
  have hms12_0 := NB126_125.out
  have hs13 : w10.cell? ⟨gb126, 1, none⟩ = some (.int .i64 0) := (blk_cell BK126.out 1).trans rfl
  have hfs13 := blk_frozen BK126.out 1
  have hns13_0 := NB125_126.out
  have hms13_0 := NB126_125.out
  refine skip_ (w1 := ?_) (by rfl) rfl ?_ ?_
  rotate_left
  · go_simp
    rfl
  refine hK.out _ _ ⟨((cell_far (p := ⟨gb126, _, none⟩) NB125_126.out _).trans (((cell_far (p := ⟨gb126, _, none⟩) NB125_126.out _).trans (hHeld.1)))), ((cell_far (p := ⟨gb126, _, none⟩) NB125_126.out _).trans (((cell_far (p := ⟨gb126, _, none⟩) NB125_126.out _).trans (hHeld.2))))⟩ (fun hHeld => ?_)
  clear hK K
  refine done_ (done_of HT_.out (by kernel_rfl)) ?_
  try go_wp2
  refine bodyPost_ret (results_cell_row rfl _ _ gb126 26 #[.slice (some ⟨gg9, 0, none⟩) (l0_0.length - 1) co9, .int .i64 a0_1] (0, 0) _ rfl (by (with_reducible repeat (first | refine blk_drewN ?_ _ | refine blk_drew ?_ | refine blk_alloc ?_ _)); refine blk_put (cs := #[.slice (some ⟨gg9, 0, none⟩) (l0_0.length - 1) co9, .int .i64 0]) ?_ 1 _ rfl; (with_reducible repeat (first | refine blk_drewN ?_ _ | refine blk_drew ?_ | refine blk_alloc ?_ _)); refine blk_put (cs := #[.slice none 0 0, .int .i64 0]) ?_ 0 _ rfl; (with_reducible repeat (first | refine blk_drewN ?_ _ | refine blk_drew ?_ | refine blk_alloc ?_ _)); exact BK126.out) Try.underlying26 rfl (by kernel_rfl)) rfl ?_
  exact ⟨_, by first | rfl | (simp [errW_none, errW_some] <;> rfl) | (simp [*, errW_none, errW_some] <;> rfl), by (with_reducible repeat (first | apply Kd.R_alloc | apply Kd.R_drewN | apply Kd.R_drew)); exact Kd.R_mono (Kd.R_far (p := ⟨gb126, 1, none⟩) (Kd.R_far (p := ⟨gb126, 0, none⟩) (Kd.R_types HO132.out BK126.out (by decide)) (fun _ hk => hk.2) (.slice (some ⟨gg9, 0, none⟩) (l0_0.length - 1) co9)) (fun _ hk => hk.2) (.int .i64 a0_1)) (fun _ hk => trivial), by repeat (first | (with_reducible first | exact HB.out | apply below_alloc | apply pw_below_drewN | apply below_drew1 | refine below_set ?_ GE125.out | refine below_set ?_ GE126.out) | exact HB.out)⟩

end Go.Proofs.Ytjbdlgjhnldfbaa.Q
