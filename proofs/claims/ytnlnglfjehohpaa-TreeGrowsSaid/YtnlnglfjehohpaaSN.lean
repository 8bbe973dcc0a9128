import Derived.Test.YtnlnglfjehohpaaSM
namespace Go.Proofs.Ytnlnglfjehohpaa.Q
open Go.RowKit Go.Proofs.YtnlnglfjehohpaaW Go.Proofs.YtnlnglfjehohpaaW.PrintWords Go.Proofs.YtnlnglfjehohpaaW.PrintLast Go.Proofs.YtnlnglfjehohpaaW.PrintMore
set_option linter.unusedVariables false
set_option linter.unusedSimpArgs false
section
variable {w1 : World} {bt : Nat} {A : Option Addr} {ct n : Nat} {l : List S35} {M b3 base b6 b7 B0 : Nat} {vals : Int → Value} {kids : Int → List Int} {par : Int → Int}
/-- What the closure that tells does. -/
def Telling (w1 : World) (bt : Nat) (n : Nat) (l : List S35) (M b3 base b6 b7 B0 : Nat) (vals : Int → Value) (kids : Int → List Int) (m : Nat) : Prop :=
  ∀ (W : World) (st : Int → List Int) (out : List Int) (p : Int), -1 ≤ p → p < n → (n : Int) - p ≤ m → Tw w1 bt M b3 base b6 b7 B0 vals kids W st out → Ahead kids n p out →
    Calls Try.prog 34 #[.int .i64 p, .pointer (some ⟨b3, 0, none⟩), .pointer (some ⟨bt, 0, none⟩), .pointer (some ⟨b6, 0, none⟩), .pointer (some ⟨b7, 0, none⟩)] W fun e w' =>
      e = .returned (.tuple #[]) ∧ ∃ (st' : Int → List Int) (K o : List Int), K.Perm (kids p) ∧ Sorted (byEnd l) K ∧ Tl kids (byEnd l) K o ∧ Tw w1 bt M b3 base b6 b7 B0 vals kids w' st' (out ++ o) ∧ (∀ q, q ≤ p → q ≠ p → st' q = st q) ∧ (out ++ o).Nodup ∧ ∀ x ∈ o, SD kids p x
/-- The loop: T1 of T is told. -/
structure Mid (w1 : World) (bt : Nat) (n : Nat) (l : List S35) (M b3 base b6 b7 B0 : Nat) (vals : Int → Value) (kids : Int → List Int) (par : Int → Int) (st : Int → List Int) (p : Int) (out T : List Int) (i : Nat) (W : World) : Prop where
  ex : ∃ (st' : Int → List Int) (o1 : List Int), Tw w1 bt M b3 base b6 b7 B0 vals kids W st' (out ++ o1) ∧ st' p = T ∧ (∀ q, q ≤ p → q ≠ p → st' q = st q) ∧ Tl kids (byEnd l) (T.take i) o1 ∧ Half kids par n p out (T.take i) o1
theorem take_snoc (T : List Int) (i : Nat) (hi : i < T.length) : T.take (i + 1) = T.take i ++ [T[i]] := by
  rw [List.take_add_one, List.getElem?_eq_getElem hi]; rfl
theorem inI_of {p : Int} {n : Nat} (h : -1 ≤ p) (hn : p < n) (h2 : n < 1000) : inI p = true := by unfold inI; simp; omega
theorem Mid.next (F : Tfix w1 bt A ct n l M b3 base b6 b7 B0 kids par) {st st1 st2 : Int → List Int} {p k : Int} {out T o1 o K : List Int} {i : Nat} {W W7 : World} (hTk : ∀ x ∈ T, x ∈ kids p) (hi : i < T.length) (hk : T[i] = k)
    (hst : st1 p = T) (hfr : ∀ q, q ≤ p → q ≠ p → st1 q = st q) (hTl : Tl kids (byEnd l) (T.take i) o1) (hH : Half kids par n p out (T.take i) o1)
    (hK : K.Perm (kids k)) (hs : Sorted (byEnd l) K) (hTo : Tl kids (byEnd l) K o) (hW : Tw w1 bt M b3 base b6 b7 B0 vals kids W7 st2 (out ++ o1 ++ [k] ++ o)) (hf2 : ∀ q, q ≤ k → q ≠ k → st2 q = st1 q) (hn : (out ++ o1 ++ [k] ++ o).Nodup) (hSD : ∀ x ∈ o, SD kids k x) :
    Mid w1 bt n l M b3 base b6 b7 B0 vals kids par st p out T (i + 1) W7 := by
  have hkk : k ∈ kids p := hTk k (hk ▸ List.getElem_mem hi)
  have hlt := (F.kin.has p k hkk).1
  refine ⟨st2, o1 ++ (k :: o), ?_, ?_, ?_, ?_, ?_⟩
  · simpa only [List.append_assoc, List.cons_append, List.nil_append] using hW
  · rw [hf2 p (by omega) (by omega)]; exact hst
  · intro q h1 h2; rw [hf2 q (by omega) (by omega)]; exact hfr q h1 h2
  · rw [take_snoc T i hi, hk]
    have := hTl.append (Tl.cons k K [] o [] hK hs hTo .nil)
    simpa only [List.append_nil] using this
  · rw [take_snoc T i hi, hk]
    exact hH.more F.kin hkk hn hSD
set_option maxRecDepth 100000 in
set_option maxHeartbeats 3200000 in
theorem tell_step (F : Tfix w1 bt A ct n l M b3 base b6 b7 B0 kids par) (m : Nat) (hIH : ∀ m', m' < m → Telling w1 bt n l M b3 base b6 b7 B0 vals kids m') : Telling w1 bt n l M b3 base b6 b7 B0 vals kids m := by
  intro W st out p hp hpn hm hW hA
  · obtain ⟨ls, hS, hlt⟩ := hW.own
    obtain ⟨v, hlk, hown, hin⟩ := hS.look2 p (inI_of hp hpn F.small)
    unfold encE at hlk
    have hin' : (∃ j : Nat, ls[j]? = some (p, v, st p)) ∨ v = .slice none 0 0 ∧ st p = [] := by
      rcases hin with h | ⟨_, h1, h2⟩
      · exact .inl h
      · exact .inr ⟨h1, h2⟩
    obtain ⟨AR, cR, rfl⟩ := own_slice hown
    have hrange : ∀ k ∈ kids p, p < k ∧ 0 ≤ k ∧ k < n := fun k hk => ⟨(F.kin.has p k hk).1, (F.kin.has p k hk).2.1, (F.kin.has p k hk).2.2.1⟩
    have hnl : (st p).length ≤ n := nodup_len n _ ((hW.perm p).nodup_iff.2 (F.kin.nod p)) (fun x hx => (hrange x ((hW.perm p).mem_iff.1 hx)).2)
    have hsmall := F.small
    have hrow : ∀ k, (Value.slice AR (st p).length cR).ownBlock = some k → base ≤ k := fun k hk => own_base hown k hk
    have hC : CmpI 36 bt (byEnd l) (fun x => 0 ≤ x ∧ x < n) (Value.slice AR (st p).length cR).ownBlock (fun W => Below w1.heap.size w1 W) := cmp36_ok w1 bt A n ct l F.len F.tcell F.row _ (fun k hk => Nat.le_trans F.s1 (hrow k hk))
    have hsort := sortStable_ok bt (byEnd l) (fun x => 0 ≤ x ∧ x < n) (fun W => Below w1.heap.size w1 W) AR cR (st p).length base (fun _ => True) W W hC (by omega) (st p) (fun x hx => (hrange x ((hW.perm p).mem_iff.1 hx)).2) ⟨ki_of hown, Below.refl _ _, hS.hi, hW.below, World.grownBy.refl _ _⟩
    have HSORT := Aside0.mk hsort
    have HNXT := Aside0.mk (fun (W' : World) (T : List Int) (hT : T.Perm (st p)) (hs : Sorted (byEnd l) T) (hr : Wr (fun W => Below w1.heap.size w1 W) AR cR (st p).length base (fun _ => True) W W T W') => (by
      have e : T.length = (st p).length := hT.length_eq
      have ho := ki_own hr.row
      rw [e] at ho
      have ho2 : W'.ownsRow base 3 1 (.slice AR (st p).length cR) T.length (iV T) := by rw [e]; exact ho
      refine ⟨upd st p T, [], ?_, ?_, ?_, .nil, Half.start hA⟩
      · rw [List.append_nil]
        exact hW.sorted F p _ hS hlt hin' hown T hT ho2 hr.k hr.grown
      · unfold upd; rw [if_pos rfl]
      · intro q _ hq; unfold upd; rw [if_neg hq] : Mid w1 bt n l M b3 base b6 b7 B0 vals kids par st p out T 0 W'))
    have HVAL := Aside0.mk (show st p ≠ [] → Value.slice AR (st p).length cR = vals p from fun h => by
      rcases hin' with ⟨j, hj⟩ | ⟨_, h2⟩
      · exact (hlt _ (List.mem_of_getElem? hj)).1
      · exact absurd h2 h)
    obtain ⟨vo, hob, hoR⟩ := hW.obox
    have c0 : W.cell? ⟨b3, 0, none⟩ = some (.map (some M)) := (blk_cell hW.mbox 0).trans rfl
    obtain ⟨L, hL⟩ : ∃ L, (st p).length = L := ⟨_, rfl⟩
    rw [hL] at hlk HSORT HNXT HVAL hnl
    have HPM := Aside0.mk (hW.perm p)
    have HLEN := Aside0.mk hL
    have HF := Aside0.mk F
    have HIH := Aside0.mk hIH
    have hrg := Aside0.mk hrange
    clear hsort hC hrow hin' hin hown hlt hS hob hoR hW hA hrange hL F hIH
    go_enter Try.func34, Try.ntmps34
    go_upto_region 1 with (fail)
    clear hlk c0
    have HMM := Aside0.mk hm
    clear hm
    go_wp2_with (go_at_call 35; refine HSORT.out.mono ?_; rintro e w2 ⟨rfl, T, hT1, hT2, hT3⟩; have HM := Aside0.mk (HNXT.out w2 T hT1 hT2 hT3); have HT := Aside0.mk (hT1.trans HPM.out); have HTS := Aside0.mk hT2; have HTL := Aside0.mk (hT1.length_eq.trans HLEN.out); have HTV := Aside0.mk (fun hne : T ≠ [] => HVAL.out (fun h => hne (by rw [h] at hT1; exact List.perm_nil.1 hT1))); clear HSORT HNXT hT1 hT2 hT3)
    clear HPM HLEN HVAL
    go_loopg [17] L (fun gg s17 wr => ∃ i : Nat, i ≤ L ∧ L - i ≤ gg ∧ s17 = .int .i64 i ∧ Aside0 (Mid w1 bt n l M b3 base b6 b7 B0 vals kids par st p out T i wr))
    case atStart => exact ⟨0, Nat.zero_le _, by omega, rfl, HM⟩
    case round =>
      clear HM
      obtain ⟨i, hi, hgg, rfl, HM⟩ := hrel
      by_cases hlt : i < L
      · obtain ⟨st1, o1, hW, hst, hfr, hTl, hH⟩ := HM.out.ex
        have hTK : ∀ x ∈ T, x ∈ kids p := fun x hx => HT.out.mem_iff.1 hx
        have hiT : i < T.length := by rw [HTL.out]; exact hlt
        obtain ⟨k, hk⟩ : ∃ k, T[i] = k := ⟨_, rfl⟩
        have hkk : k ∈ kids p := hTK k (hk ▸ List.getElem_mem hiT)
        have hkr := hrg.out k hkk
        have hTnd : T.Nodup := HT.out.nodup_iff.2 (HF.out.kin.nod p)
        have hnew : k ∉ T.take i := by
          intro hm
          obtain ⟨j, hj, e⟩ := List.getElem_of_mem hm
          rw [List.length_take] at hj
          rw [List.getElem_take] at e
          exact List.pairwise_iff_getElem.1 hTnd j i (by omega) hiT (by omega) (e.trans hk.symm)
        have hah := hH.ahead HF.out.kin (fun x hx => hTK x (List.mem_of_mem_take hx)) hkk hnew
        have hTne : T ≠ [] := fun e => by rw [e] at hiT; simp at hiT
        obtain ⟨ls, hS, hlt2⟩ := hW.own
        obtain ⟨v', _, hown, hin⟩ := hS.look2 p (inI_of hp hpn hsmall)
        rw [hst] at hown hin
        have hv' : v' = .slice AR L cR := by
          rcases hin with ⟨j, hj⟩ | ⟨_, _, h2⟩
          · rw [HTV.out hTne]; exact (hlt2 _ (List.mem_of_getElem? hj)).1
          · exact absurd h2 hTne
        rw [hv'] at hown
        obtain ⟨g, hg, _, hcell⟩ := row_cell (ki_of hown) i hiT
        subst hg
        rw [show gt T i = k by unfold gt; rw [List.getD_eq_getElem?_getD, List.getElem?_eq_getElem hiT, hk]; rfl] at hcell
        obtain ⟨vo, hob, hoR⟩ := hW.obox
        have c6 : wr.cell? ⟨b6, 0, none⟩ = some vo := (blk_cell hob 0).trans rfl
        have q1 : (0 ≤ (i : Int)) = True := eq_true (by omega)
        have q2 : ((i : Int) < (L : Int)) = True := eq_true (by omega)
        have HOB := Aside0.mk hob
        have HOR := Aside0.mk hoR
        have HWW := Aside0.mk hW
        have HAH := Aside0.mk hah
        have HBL := Aside0.mk (show Below B0 wr wr from Below.refl _ _)
        have HB0 := Aside0.mk hW.size
        have HNX := Aside0.mk (fun (W7 : World) (st2 : Int → List Int) (K o : List Int) h1 h2 h3 h4 h5 h6 h7 => Mid.next HF.out (vals := vals) (W := wr) (W7 := W7) (st := st) (st1 := st1) (st2 := st2) (K := K) (o := o) hTK hiT hk hst hfr hTl hH h1 h2 h3 h4 h5 h6 h7)
        have h67 : b6 ≠ b7 := HF.out.s3.2.2.1
        have H67 := Aside0.mk h67
        have HKR := Aside0.mk hkr
        clear hW hst hfr hTl hH hTK hk hkk hkr hTnd hnew hah hTne hlt2 hS hown hin hv' hob hoR HM h67 hiT
        go_upto_region 6 with (at_builtin; refine Kd.R_append (Kd.int .i64) (w0 := wr) B0 rfl (.tmp 21) (.tmp 23) 28 3 (.int .i64 0) 8 rfl Try.underlying28 info3 rfl (by decide) (by omega) vo (out ++ o1) k [.int .i64 k] (fun _ => True) (fun _ => False) rfl rfl ?aP (fun _ hk => hk.elim) (fun _ _ => trivial) ?aO ?aB ?aS ?aL ?_; (case aP => rfl); (case aO => exact HOR.out); (case aB => exact HBL.out); (case aS => exact HB0.out); (case aL => have := HAH.out.2; omega); intro v5 w5 ho hb hg hat; obtain ⟨A5, c5, e5⟩ := Kd.R_slice ho; obtain ⟨N5, hN5⟩ : ∃ N, ((out ++ o1) ++ [k]).length = N := ⟨_, rfl⟩; rw [hN5] at e5; subst e5; clear hN5; have HO5 := Aside0.mk ho; have HG5 := Aside0.mk hg; have H65 := Aside0.mk (blk_grown HOB.out hg (fun he => Kd.R_ne HOR.out HOB.out (by decide) he)); have c65 : w5.cell? ⟨b6, 0, none⟩ = some vo := (blk_cell H65.out 0).trans rfl; have f65 := blk_frozen H65.out 0; clear ho hb hg hat)
        have HT6 := Aside0.mk (HWW.out.push HF.out HOB.out HOR.out k HO5.out HG5.out)
        clear c65 f65 H65 HO5 HG5 c6 hcell
        generalize w5.setCell ⟨b6, 0, none⟩ (.slice A5 N5 c5) = w6 at *
        have c7 := (blk_cell HT6.out.tbox 0).trans rfl
        have HCALL := Aside0.mk (HIH.out (m - 1) (by have := HKR.out; have := HMM.out; omega) w6 st1 (out ++ o1 ++ [k]) k (by have := HKR.out; omega) HKR.out.2.2 (by have := HKR.out; have := HMM.out; omega) HT6.out HAH.out.1)
        clear HOB HOR HWW HBL HB0 HT6 HAH
        go_wp2_with (go_at_call 34; refine HCALL.out.mono ?_; rintro e w7 ⟨rfl, st2, K, o, h1, h2, h3, h4, h5, h6, h7⟩; have HM7 := Aside0.mk (HNX.out w7 st2 K o h1 h2 h3 h4 h5 h6 h7); clear HCALL HNX h1 h2 h3 h4 h5 h6 h7)
        go_roundg (L - (i + 1))
        case measure => omega
        case rel => exact ⟨i + 1, by omega, Nat.le_refl _, by go_num, HM7⟩
      · have hie : i = L := by omega
        subst hie
        obtain ⟨st1, o1, hW, hst, hfr, hTl, hH⟩ := HM.out.ex
        rw [List.take_of_length_le (by rw [HTL.out]; exact Nat.le_refl _)] at hTl hH
        have HFIN := Aside0.mk (show ∃ (st' : Int → List Int) (K o : List Int), K.Perm (kids p) ∧ Sorted (byEnd l) K ∧ Tl kids (byEnd l) K o ∧ Tw w1 bt M b3 base b6 b7 B0 vals kids wr st' (out ++ o) ∧ (∀ q, q ≤ p → q ≠ p → st' q = st q) ∧ (out ++ o).Nodup ∧ ∀ x ∈ o, SD kids p x from ⟨st1, T, o1, HT.out, HTS.out, hTl, hW, hfr, hH.done (fun x hx => HT.out.mem_iff.1 hx)⟩)
        clear hW hst hfr hTl hH HM
        go_wp2
        go_end0
        exact ⟨rfl, HFIN.out⟩
theorem tell_ok (F : Tfix w1 bt A ct n l M b3 base b6 b7 B0 kids par) (m : Nat) : Telling w1 bt n l M b3 base b6 b7 B0 vals kids m := by
  induction m using Nat.strongRecOn with
  | _ m ih => exact tell_step F m ih
end
end Go.Proofs.Ytnlnglfjehohpaa.Q
