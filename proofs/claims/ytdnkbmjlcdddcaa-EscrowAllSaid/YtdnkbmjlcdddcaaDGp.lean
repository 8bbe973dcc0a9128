/- slices.IndexFunc and slices.DeleteFunc at rows of four numbers, with the closure 65 that has captured one box. No condition. -/
import Derived.Test.YtdnkbmjlcdddcaaDF
namespace Go.Proofs.Ytdnkbmjlcdddcaa.Q
open Go.RowKit Go.Proofs.YtdnkbmjlcdddcaaW Go.Proofs.YtdnkbmjlcdddcaaW.PrintWords Go.Proofs.YtdnkbmjlcdddcaaW.PrintLast Go.Proofs.YtdnkbmjlcdddcaaW.PrintMore
set_option linter.unusedVariables false
set_option linter.unusedSimpArgs false
set_option maxHeartbeats 1600000 in
theorem ix_65 (B : Nat) (p : S83 → Bool) (K : World → Prop) (hp : PredK 65 B p K) (A : Option Addr) (c : Nat) (l : List S83) (w : World) (hr : Kd.C k83 w A l.length l) (hk0 : K w) :
    Calls Try.prog 62 #[.slice A l.length c, .func (.func 65) #[] #[.pointer (some ⟨B, 0, none⟩)]] w fun e w' => e = .returned (.int .i64 (ixOf p l)) ∧ Below w.heap.size w w' := by
  have hmax : l.length ≤ 9223372036854775807 := hr.2.1
  have HR := Aside0.mk hr
  have HP := Aside0.mk hp
  have HK0 := Aside0.mk hk0
  have hu83 := Try.underlying83
  clear hr hp hk0
  go_enter Try.func62, Try.ntmps62
  go_wp2
  go_loopg [8] l.length (fun gg s8 wr => ∃ k : Nat, k ≤ l.length ∧ l.length - k ≤ gg ∧ s8 = .int .i64 k ∧ Aside0 (Below w.heap.size w wr) ∧ Aside0 (K wr) ∧ Aside0 (∀ j (hj : j < l.length), j < k → p l[j] = false))
  case atStart =>
    exact ⟨0, Nat.zero_le _, by omega, rfl, ⟨Below.refl _ _⟩, HK0, ⟨fun j hj h => by omega⟩⟩
  case round =>
    obtain ⟨k, hk, hgk, rfl, HB, HK, HF⟩ := hrel
    by_cases hlt : k < l.length
    · obtain ⟨ad, rfl, e1, e2, e3, e4⟩ := at_T83 (Kd.C_below HR.out HB.out) (k : Int) (by omega) (by omega)
      have hx := rd_at83 l k hlt
      rw [hx] at e1 e2 e3 e4
      obtain ⟨x, hxx⟩ : ∃ x, x = l[k] := ⟨_, rfl⟩
      rw [← hxx] at e1 e2 e3 e4
      have HX := Aside0.mk hxx
      rw [Int.toNat_natCast] at e1 e2 e3 e4
      clear hx hxx
      have hcall := Aside0.mk (HP.out.1 wr x HK.out)
      obtain ⟨b, hb⟩ : ∃ b, p x = b := ⟨_, rfl⟩
      rw [hb] at hcall
      have HPX := Aside0.mk hb
      clear hb
      obtain ⟨x0, x1, x2, x3⟩ := x
      simp only at e1 e2 e3 e4 hcall
      cases b with
      | true =>
        go_wp2_with (go_at_call 65; refine hcall.out.mono ?_; rintro e w1 ⟨rfl, hb1⟩; have HB1 := Aside0.mk (below_then HB.out HB.out.size hb1); clear hb1)
        go_ret
        exact ⟨by rw [ixOf_at p l k hlt (by rw [← HX.out]; exact HPX.out) (fun j hj => HF.out j (by omega) hj)]; rfl, HB1.out⟩
      | false =>
        go_wp2_with (go_at_call 65; refine hcall.out.mono ?_; rintro e w1 ⟨rfl, hb1⟩; have HB1 := Aside0.mk (below_then HB.out HB.out.size hb1); have HK1 := Aside0.mk (HP.out.2 _ _ HK.out hb1); clear hb1)
        go_roundg (l.length - (k + 1))
        case measure => omega
        case rel =>
          exact ⟨k + 1, by omega, by omega, by go_num, HB1, HK1, ⟨fun j hj h => by
            by_cases he : j = k
            · subst he; rw [← HX.out]; exact HPX.out
            · exact HF.out j hj (by omega)⟩⟩
    · have : k = l.length := by omega
      subst this
      go_wp2
      go_ret
      exact ⟨by rw [ixOf_none p l (fun j hj => HF.out j hj hj)]; rfl, HB.out⟩
set_option maxRecDepth 100000 in
set_option maxHeartbeats 4000000 in
theorem df_65 (B : Nat) (p : S83 → Bool) (K : World → Prop) (hp : PredK 65 B p K) (v : Value) (hKg : ∀ g W W', v.ownBlock = some g → K W → W.grownBy W' (some g) → K W')
    (l : List S83) (base : Nat) (ok : Nat → Prop) (w0 w : World) (HO : k83.R 83 w base ok v l) (hB : Below base w0 w) (hbase : base ≤ w.heap.size) (hk0 : K w) :
    Calls Try.prog 39 #[v, .func (.func 65) #[] #[.pointer (some ⟨B, 0, none⟩)]] w fun e w' => ∃ v' : Value, e = .returned v' ∧ k83.R 83 w' base ok v' (l.filter (fun x => !p x)) ∧ Below base w0 w' ∧ Kept w w' (fun k => v.ownBlock = some k) ∧ v'.ownBlock = v.ownBlock := by
  obtain ⟨A, cap, rfl⟩ := Kd.R_slice HO
  obtain ⟨_, hcap, hC⟩ := Kd.R_reads' HO
  have hmax : l.length ≤ 9223372036854775807 := hC.2.1
  have HIX := Aside0.mk (fun c => ix_65 B p K hp A c l w hC hk0)
  have HOO := Aside0.mk HO
  have HBB := Aside0.mk hB
  have HBASE := Aside0.mk hbase
  have HP := Aside0.mk hp
  have HK0 := Aside0.mk hk0
  have HKG := Aside0.mk hKg
  have HC := Aside0.mk hC
  have hu83 := Try.underlying83
  clear HO hB hp hk0 hKg hC hbase
  cases hf : l.findIdx? p with
  | none =>
    have hix : ixOf p l = -1 := by unfold ixOf; rw [hf]
    have hfl : l.filter (fun x => !p x) = l := by
      rw [List.filter_eq_self]; intro x hx
      rw [List.findIdx?_eq_none_iff] at hf
      simp [hf x hx]
    rw [hix] at HIX
    rw [hfl]
    clear hix hfl hf
    go_enter Try.func39, Try.ntmps39
    go_wp2_with (go_at_call 62; refine (HIX.out _).mono ?_; rintro e w1 ⟨rfl, hb1⟩; have HB1 := Aside0.mk hb1; clear hb1)
    go_ret
    exact ⟨_, rfl, Kd.R_below HOO.out HB1.out, below_then HBB.out HBASE.out HB1.out, Kept.of_below HB1.out _, rfl⟩
  | some i =>
    have hix : ixOf p l = (i : Int) := by unfold ixOf; rw [hf]
    rw [List.findIdx?_eq_some_iff_getElem] at hf
    obtain ⟨hi, hpi, hbi⟩ := hf
    rw [hix] at HIX
    have hft : (l.take (i + 1)).filter (fun x => !p x) = l.take i := by
      rw [List.take_succ_eq_append_getElem hi, List.filter_append]
      have h1 : (l.take i).filter (fun x => !p x) = l.take i := by
        rw [List.filter_eq_self]; intro x hx
        obtain ⟨j, hj, rfl⟩ := List.mem_iff_getElem.1 hx
        rw [List.length_take] at hj
        have := hbi j (by omega)
        rw [List.getElem_take]; simpa using this
      rw [h1]; simp [hpi]
    have HFT := Aside0.mk hft
    clear hix hpi hbi hft
    obtain ⟨g, cap', hv, hbg, hlg, cells, hcg⟩ := Kd.R_form HOO.out (by omega)
    injection hv with hA hn hcc
    subst hA; subst hcc
    have HKG := Aside0.mk (fun W W' h1 h2 => HKG.out g W W' rfl h1 h2)
    clear hcg
    go_enter Try.func39, Try.ntmps39
    go_wp2_with (go_at_call 62; refine (HIX.out _).mono ?_; rintro e w1 ⟨rfl, hb1⟩; have HB1 := Aside0.mk hb1; clear hb1)
    go_loopg [5, 6] l.length (fun gg s5 s6 wr => ∃ (a b : Nat) (ys : List S83), a < b ∧ b ≤ l.length ∧ l.length - b ≤ gg ∧ s5 = .int .i64 a ∧ s6 = .int .i64 b ∧ Aside0 (ys.length = l.length ∧ ys.take a = (l.take b).filter (fun x => !p x) ∧ ys.drop b = l.drop b) ∧ Aside0 (k83.R 83 wr base ok (.slice (some ⟨g, 0, none⟩) l.length cap) ys) ∧ Aside0 (K wr) ∧ Aside0 (Below base w0 wr) ∧ Aside0 (base ≤ wr.heap.size) ∧ Aside0 (Kept w wr (fun k => g = k)))
    case atStart =>
      exact ⟨i, i + 1, l, by omega, by omega, by omega, rfl, by go_num, ⟨rfl, HFT.out.symm, rfl⟩, ⟨Kd.R_below HOO.out HB1.out⟩, ⟨HP.out.2 _ _ HK0.out HB1.out⟩, ⟨below_then HBB.out HBASE.out HB1.out⟩, ⟨Nat.le_trans HBASE.out HB1.out.size⟩, ⟨Kept.of_below HB1.out _⟩⟩
    case round =>
      clear HIX HB1
      obtain ⟨a, b, ys, hab, hbl, hgb, rfl, rfl, HY, HR, HK, HB, HBS, HKP⟩ := hrel
      by_cases hlt : b < l.length
      · obtain ⟨y1, y2, y3⟩ := HY.out
        obtain ⟨ad, had, e1, e2, e3, e4⟩ := at_T83 (by have := (Kd.R_reads' HR.out).2.2; rw [y1] at this; exact this) (b : Int) (by omega) (by omega)
        injection had with had
        subst had
        have hx : rd_T83 ys (b : Int) = l[b] := by
          rw [rd_at83 ys b (by omega)]
          have := congrArg (fun q => q[0]?) y3
          simp only [List.getElem?_drop, Nat.add_zero] at this
          rw [List.getElem?_eq_getElem (by omega), List.getElem?_eq_getElem hlt] at this
          exact Option.some.inj this
        rw [hx] at e1 e2 e3 e4
        obtain ⟨x, hxx⟩ : ∃ x, x = l[b] := ⟨_, rfl⟩
        rw [← hxx] at e1 e2 e3 e4
        rw [Int.toNat_natCast] at e1 e2 e3 e4
        simp only [add_plain] at e1 e2 e3 e4
        have HX := Aside0.mk hxx
        have hfx : (l.take (b + 1)).filter (fun x => !p x) = (l.take b).filter (fun x => !p x) ++ (if p x = true then [] else [x]) := by
          rw [List.take_succ_eq_append_getElem hlt, List.filter_append, ← hxx]
          cases h : p x <;> simp [h]
        have HFX := Aside0.mk hfx
        clear hx hxx y1 y2 y3 hfx
        have hcall := Aside0.mk (fun W h => HP.out.1 W x h)
        obtain ⟨q, hq⟩ : ∃ q, p x = q := ⟨_, rfl⟩
        rw [hq] at hcall HFX
        have HPX := Aside0.mk hq
        clear hq
        obtain ⟨x0, x1, x2, x3⟩ := x
        simp only at e1 e2 e3 e4 hcall
        cases q with
        | true =>
          go_wp2_with (first | ((with_reducible refine gate_dst (N := 7) rfl ?_); refine box_event ?hg (N := 7) ?hd (cs := #[.int .i64 0, .int .i64 0, .int .i64 0, .int .i64 0]) (t := 83) ?hr ?_; (case hd => rfl); (case hg => rfl); (case hr => first | (go_simp; done) | (go_simp; rfl)); intro gb hgb_ w2 hbox hb; have BK := Aside0.mk hbox; have HBX := Aside0.mk hb; have HGB := Aside0.mk hgb_; have hcz0 : w2.cell? ⟨gb, 0, none⟩ = some (.int .i64 0) := (blk_cell BK.out 0).trans rfl; have hcz1 : w2.cell? ⟨gb, 1, none⟩ = some (.int .i64 0) := (blk_cell BK.out 1).trans rfl; have hcz2 : w2.cell? ⟨gb, 2, none⟩ = some (.int .i64 0) := (blk_cell BK.out 2).trans rfl; have hcz3 : w2.cell? ⟨gb, 3, none⟩ = some (.int .i64 0) := (blk_cell BK.out 3).trans rfl; have hf0 := blk_frozen BK.out 0; have hf1 := blk_frozen BK.out 1; have hf2 := blk_frozen BK.out 2; have hf3 := blk_frozen BK.out 3; clear hbox hb hgb_) | (go_at_call 65; refine (hcall.out _ ?side1).mono ?_; (case side1 => exact HP.out.2 _ _ HK.out ((((HBX.out.setCell (Nat.le_of_eq HGB.out.symm) _).setCell (Nat.le_of_eq HGB.out.symm) _).setCell (Nat.le_of_eq HGB.out.symm) _).setCell (Nat.le_of_eq HGB.out.symm) _)); rintro e w3 ⟨rfl, hb1⟩; have HB3 := Aside0.mk (below_then ((((HBX.out.setCell (Nat.le_of_eq HGB.out.symm) _).setCell (Nat.le_of_eq HGB.out.symm) _).setCell (Nat.le_of_eq HGB.out.symm) _).setCell (Nat.le_of_eq HGB.out.symm) _) (by first | exact HBX.out.size | (simp; exact HBX.out.size)) hb1); clear hb1))
          go_roundg (l.length - (b + 1))
          case measure => omega
          case rel =>
            obtain ⟨y1, y2, y3⟩ := HY.out
            exact ⟨a, b + 1, ys, by omega, by omega, by omega, by go_num, by go_num, ⟨y1, by rw [y2, HFX.out]; simp, by rw [← List.drop_drop, y3, List.drop_drop]⟩, ⟨Kd.R_below HR.out HB3.out⟩, ⟨HP.out.2 _ _ HK.out HB3.out⟩, ⟨below_then HB.out HBS.out HB3.out⟩, ⟨Nat.le_trans HBS.out HB3.out.size⟩, ⟨HKP.out.below HB3.out⟩⟩
        | false =>
          go_wp2_with (first | ((with_reducible refine gate_dst (N := 7) rfl ?_); refine box_event ?hg (N := 7) ?hd (cs := #[.int .i64 0, .int .i64 0, .int .i64 0, .int .i64 0]) (t := 83) ?hr ?_; (case hd => rfl); (case hg => rfl); (case hr => first | (go_simp; done) | (go_simp; rfl)); intro gb hgb_ w2 hbox hb; have BK := Aside0.mk hbox; have HBX := Aside0.mk hb; have HGB := Aside0.mk hgb_; have hcz0 : w2.cell? ⟨gb, 0, none⟩ = some (.int .i64 0) := (blk_cell BK.out 0).trans rfl; have hcz1 : w2.cell? ⟨gb, 1, none⟩ = some (.int .i64 0) := (blk_cell BK.out 1).trans rfl; have hcz2 : w2.cell? ⟨gb, 2, none⟩ = some (.int .i64 0) := (blk_cell BK.out 2).trans rfl; have hcz3 : w2.cell? ⟨gb, 3, none⟩ = some (.int .i64 0) := (blk_cell BK.out 3).trans rfl; have hf0 := blk_frozen BK.out 0; have hf1 := blk_frozen BK.out 1; have hf2 := blk_frozen BK.out 2; have hf3 := blk_frozen BK.out 3; clear hbox hb hgb_) | (go_at_call 65; refine (hcall.out _ ?side1).mono ?_; (case side1 => exact HP.out.2 _ _ HK.out ((((HBX.out.setCell (Nat.le_of_eq HGB.out.symm) _).setCell (Nat.le_of_eq HGB.out.symm) _).setCell (Nat.le_of_eq HGB.out.symm) _).setCell (Nat.le_of_eq HGB.out.symm) _)); rintro e w3 ⟨rfl, hb1⟩; have BK3 := Aside0.mk (show w3.heap[gb]? = some (.cells #[.int .i64 x0, .int .i64 x1, .int .i64 x2, .int .i64 x3] 83 (0, 0)) from blk_below (g := gb) (o := .cells #[.int .i64 x0, .int .i64 x1, .int .i64 x2, .int .i64 x3] 83 (0, 0)) (blk_set (blk_set (blk_set (blk_set BK.out 0 _) 1 _) 2 _) 3 _) hb1); have hcy0 : w3.cell? ⟨gb, 0, none⟩ = some (.int .i64 x0) := (blk_cell BK3.out 0).trans rfl; have hcy1 : w3.cell? ⟨gb, 1, none⟩ = some (.int .i64 x1) := (blk_cell BK3.out 1).trans rfl; have hcy2 : w3.cell? ⟨gb, 2, none⟩ = some (.int .i64 x2) := (blk_cell BK3.out 2).trans rfl; have hcy3 : w3.cell? ⟨gb, 3, none⟩ = some (.int .i64 x3) := (blk_cell BK3.out 3).trans rfl; clear hcz0 hcz1 hcz2 hcz3 hf0 hf1 hf2 hf3; have HB3 := Aside0.mk (below_then ((((HBX.out.setCell (Nat.le_of_eq HGB.out.symm) _).setCell (Nat.le_of_eq HGB.out.symm) _).setCell (Nat.le_of_eq HGB.out.symm) _).setCell (Nat.le_of_eq HGB.out.symm) _) (by first | exact HBX.out.size | (simp; exact HBX.out.size)) hb1); clear hb1) | ((with_reducible refine gate_ (.store 83 (.tmp 33) (.tmp 32)) rfl ?_); have hr3 := Kd.R_below HR.out HB3.out; obtain ⟨c4, hcl, hM, hcc, _⟩ := Kd.R_elem hr3 z83 (a : Int) (by omega) (by omega); obtain rfl := k83_openM hM; refine Kd.R_store k83 (w0 := w0) base rfl rfl 83 (.tmp 33) (.tmp 32) rfl 83 (g := g) (n := l.length) (cap := cap) (o' := a * 4) (a : Int) 0 ys (⟨x0, x1, x2, x3⟩ : S83) (.agg #[.int .i64 x0, .int .i64 x1, .int .i64 x2, .int .i64 x3]) [.int .i64 x0, .int .i64 x1, .int .i64 x2, .int .i64 x3] _ ok (fun _ => False) (by simp [Act.eval]) (by rw [Int.toNat_natCast]; rfl) (by simp [Act.eval]) rfl (by kernel_rfl) (by simp [Value.oneCell']) hr3 (by omega) (by omega) rfl hcc (show 4 ≤ 4 by decide) (k83_mkM _ _ _ (⟨x0, x1, x2, x3⟩ : S83)) (fun _ h => h.elim) (below_then HB.out HBS.out HB3.out) ?_; intro w5 ho5 hb5 hg5; have HO5 := Aside0.mk ho5; have HB5 := Aside0.mk hb5; have HG5 := Aside0.mk hg5; clear ho5 hb5 hg5 hr3 hM hcc hcl))
          go_roundg (l.length - (b + 1))
          case measure => omega
          case rel =>
            obtain ⟨y1, y2, y3⟩ := HY.out
            rw [Int.toNat_natCast] at HO5
            exact ⟨a + 1, b + 1, ys.set a ⟨x0, x1, x2, x3⟩, by omega, by omega, by omega, by go_num, by go_num, ⟨by rw [List.length_set]; exact y1, by rw [take_set_snoc ys a _ (by omega), y2, HFX.out]; simp, by rw [drop_set_far ys a (b + 1) _ (by omega), ← List.drop_drop, y3, List.drop_drop]⟩, HO5, ⟨HKG.out _ _ (HP.out.2 _ _ HK.out HB3.out) HG5.out⟩, HB5, ⟨Nat.le_trans HBS.out (Nat.le_trans HB3.out.size HG5.out.size)⟩, ⟨Kept.of_grown HG5.out (HKP.out.below HB3.out) (fun k hk => .inl (by injection hk))⟩⟩
      · have hbe : b = l.length := by omega
        subst hbe
        obtain ⟨y1, y2, y3⟩ := HY.out
        rw [List.take_length] at y2
        have hr := Kd.R_take HR.out (m := a) (by omega)
        rw [y2] at hr
        obtain ⟨w2, hr2, ho2, hg2⟩ := R_clear (P := Try.prog) k83 (t := 30) (ty := 0) (m := l.length - a) (c2 := cap - a) Try.underlying30 (z := .agg #[.int .i64 0, .int .i64 0, .int .i64 0, .int .i64 0]) (fun w => by rfl) rfl (by simp [Value.cells, Value.oneCell']) hr (by omega)
        have hr2 : Sem.run Try.prog (Builtin.clear_ #[30] 0 #[.slice (some ⟨g, a * 4, none⟩) (l.length - a) (cap - a)]) wr = .ok (.tuple #[]) w2 := hr2
        have HO2 := Aside0.mk ho2
        have HG2 := Aside0.mk hg2
        clear hr ho2 hg2 y1 y2 y3
        go_wp2
        go_ret
        exact ⟨_, rfl, HO2.out, HB.out.grown HG2.out HBS.out (fun k hk => by injection hk with hk; omega), Kept.of_grown HG2.out (HKP.out.mono (fun k (hk : g = k) => by rw [← hk]; rfl)) (fun k hk => .inl (by injection hk with hk; rw [← hk]; rfl)), rfl⟩
end Go.Proofs.Ytdnkbmjlcdddcaa.Q
