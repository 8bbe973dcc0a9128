import Derived.Test.YtnlnglfjehohpaaTV
import Derived.Test.YtnlnglfjehohpaaMU
import Derived.Deep.RegionLaw
namespace Go.Proofs.Ytnlnglfjehohpaa.Q
open Go.RowKit Go.Proofs.YtnlnglfjehohpaaW Go.Proofs.YtnlnglfjehohpaaW.PrintWords Go.Proofs.YtnlnglfjehohpaaW.PrintLast Go.Proofs.YtnlnglfjehohpaaW.PrintMore
set_option linter.unusedVariables false
set_option linter.unusedSimpArgs false

/-- Did all end at times of their own, but those undone? kv: the times met, and whether of undone ones. -/
def apartF : List S35 → List (Int × Bool) → Bool
  | [], _ => true
  | x :: l, kv =>
    if x.f1 = 1 then apartF l kv
    else if (x.f1 == 3 && kv.any (fun p => p.1 == x.f3 && p.2)) = true then apartF l kv
    else if kv.any (fun p => p.1 == x.f3) = true then false
    else apartF l (kv ++ [(x.f3, x.f1 == 3)])
def kvE (kv : List (Int × Bool)) : List (Int × Value) := kv.map (fun p => (p.1, Value.bool true))
def kvU (kv : List (Int × Bool)) : List (Int × Value) := kv.map (fun p => (p.1, Value.bool p.2))
/-- The times met are apart. -/
def Keys (kv : List (Int × Bool)) : Prop := kv.Pairwise (fun a b => a.1 ≠ b.1)

theorem kvE_look {P : Program} {W : World} {M : Nat} {t kt et : TypeId} (kv : List (Int × Bool)) (h : MU.IsM W M (kvE kv)) (ht : P.underlying t = some (.map kt et)) (hk : P.underlying kt = some (.int .i64)) (hz : (zeroValue et).run P W = .ok (.bool false) W) (k : Int) :
    (Instr.lookup t (.map (some M)) (.int .i64 k) false).run P W = .ok (.bool (kv.any (fun p => p.1 == k))) W := by
  cases hf : kv.find? (fun p => p.1 == k) with
  | none =>
    have h1 : ∀ p ∈ kv, p.1 ≠ k := fun p hp => by have := List.find?_eq_none.1 hf p hp; simpa using this
    have h2 : kv.any (fun p => p.1 == k) = false := by rw [List.any_eq_false]; intro p hp; simpa using h1 p hp
    rw [h2]
    exact MU.run_lookup_none h ht hk _ hz k (fun p hp => by unfold kvE at hp; obtain ⟨q, hq, rfl⟩ := List.mem_map.1 hp; exact h1 q hq)
  | some p =>
    have h1 : (kvE kv).find? (fun p => p.1 == k) = some (p.1, Value.bool true) := by unfold kvE; rw [List.find?_map]; simp [Function.comp_def, hf]
    have h2 : kv.any (fun p => p.1 == k) = true := by rw [List.any_eq_true]; exact ⟨p, List.mem_of_find?_eq_some hf, List.find?_some (p := fun p : Int × Bool => p.1 == k) hf⟩
    rw [h2]
    exact MU.run_lookup_some h ht hk k _ h1
theorem kvU_look {P : Program} {W : World} {M : Nat} {t kt et : TypeId} (kv : List (Int × Bool)) (hK : Keys kv) (h : MU.IsM W M (kvU kv)) (ht : P.underlying t = some (.map kt et)) (hk : P.underlying kt = some (.int .i64)) (hz : (zeroValue et).run P W = .ok (.bool false) W) (k : Int) :
    (Instr.lookup t (.map (some M)) (.int .i64 k) false).run P W = .ok (.bool (kv.any (fun p => p.1 == k && p.2))) W := by
  cases hf : kv.find? (fun p => p.1 == k) with
  | none =>
    have h1 : ∀ p ∈ kv, p.1 ≠ k := fun p hp => by have := List.find?_eq_none.1 hf p hp; simpa using this
    have h2 : kv.any (fun p => p.1 == k && p.2) = false := by rw [List.any_eq_false]; intro p hp; have := h1 p hp; simp [this]
    rw [h2]
    exact MU.run_lookup_none h ht hk _ hz k (fun p hp => by unfold kvU at hp; obtain ⟨q, hq, rfl⟩ := List.mem_map.1 hp; exact h1 q hq)
  | some p =>
    have h1 : (kvU kv).find? (fun p => p.1 == k) = some (p.1, Value.bool p.2) := by unfold kvU; rw [List.find?_map]; simp [Function.comp_def, hf]
    have hpk : p.1 = k := by have := List.find?_some hf; simpa using this
    have hpm := List.mem_of_find?_eq_some hf
    have h2 : kv.any (fun p => p.1 == k && p.2) = p.2 := by
      cases hp2 : p.2 with
      | true => rw [List.any_eq_true]; exact ⟨p, hpm, by simp [hpk, hp2]⟩
      | false =>
        rw [List.any_eq_false]
        intro q hq
        by_cases hqk : q.1 = k
        · have : q = p := by
            obtain ⟨i, hi, rfl⟩ := List.mem_iff_getElem.1 hq
            obtain ⟨j, hj, rfl⟩ := List.mem_iff_getElem.1 hpm
            have hKK := List.pairwise_iff_getElem.1 hK
            rcases Nat.lt_trichotomy i j with hlt | rfl | hlt
            · exact absurd (hqk.trans hpk.symm) (hKK i j hi hj hlt)
            · rfl
            · exact absurd (hpk.trans hqk.symm) (hKK j i hj hi hlt)
          rw [this]; simp [hp2]
        · simp [hqk]
    rw [h2]
    exact MU.run_lookup_some h ht hk k _ h1

def tree_Tree_apart.f (l0 : List S35) (a0 : Int) : Option Bool := some (apartF l0 [])
theorem rd_tx (l : List S35) (k : Nat) (hk : k < l.length) : rd_T35 l (k : Int) = l[k] := by
  unfold rd_T35; simp [List.getD_eq_getElem?_getD, List.getElem?_eq_getElem hk]

set_option maxRecDepth 100000 in
set_option maxHeartbeats 4000000 in
theorem tree_Tree_apart.calls (A0 : Option Addr) (c0 : Nat) (l0 : List S35) (a0 : Int) (r : Bool) (w : World) (hr0 : Kd.C k35 w A0 l0.length l0) (hc0 : l0.length ≤ c0) (h : tree_Tree_apart.f l0 a0 = some r) :
    Calls Try.prog 33 #[.agg #[.slice A0 l0.length c0, .int .i64 a0]] w fun e w' => e = .returned (.bool r) ∧ Below w.heap.size w w' := by
  have h := Option.some.inj h
  have hu := Try.underlying26
  have hu35 := Try.underlying35
  have hmax : l0.length ≤ 9223372036854775807 := hr0.2.1
  have HR := Aside0.mk hr0
  have HH := Aside0.mk h
  clear hr0 h
  have hmm := @run_makeMap Try.prog
  go_enter Try.func33, Try.ntmps33
  go_wp2
  obtain ⟨w2, hw2⟩ : ∃ w2, ((w.alloc (.cells #[.slice A0 l0.length c0, .int .i64 a0] 26)).alloc (.map #[] 0)).alloc (.map #[] 0) = w2 := ⟨_, rfl⟩
  rw [hw2]
  have b1 : w2.heap[w.heap.size + 1]? = some (.map #[] 0) := by rw [← hw2]; simpa using blk_alloc (blk_new (w.alloc (.cells #[.slice A0 l0.length c0, .int .i64 a0] 26)) (.map #[] 0)) (.map #[] 0)
  have b2 : w2.heap[w.heap.size + 1 + 1]? = some (.map #[] 0) := by rw [← hw2]; simpa using blk_new ((w.alloc (.cells #[.slice A0 l0.length c0, .int .i64 a0] 26)).alloc (.map #[] 0)) (.map #[] 0)
  have hb2 : Below w.heap.size w w2 := by rw [← hw2]; exact (((Below.refl _ w).alloc (Nat.le_refl _) _).alloc (by simp) _).alloc (by simp; omega) _
  have B1 := Aside0.mk b1
  have B2 := Aside0.mk b2
  have HB2 := Aside0.mk hb2
  clear b1 b2 hb2 hw2 hmm
  go_loopg [12] l0.length (fun gg s12 wr => ∃ (k : Nat) (kv : List (Int × Bool)), k ≤ l0.length ∧ l0.length - k ≤ gg ∧ s12 = .int .i64 k ∧ Aside0 (Keys kv) ∧ Aside0 (apartF l0 [] = apartF (l0.drop k) kv) ∧ Aside0 (MU.IsM wr (w.heap.size + 1) (kvE kv)) ∧ Aside0 (MU.IsM wr (w.heap.size + 1 + 1) (kvU kv)) ∧ Aside0 (Below w.heap.size w wr))
  case atStart =>
    exact ⟨0, [], Nat.zero_le _, by omega, rfl, ⟨List.Pairwise.nil⟩, ⟨rfl⟩, ⟨MU.IsM.made B1.out⟩, ⟨MU.IsM.made B2.out⟩, HB2⟩
  case round =>
    obtain ⟨k, kv, hk, hgk, rfl, HK, HA, HE, HU, HB⟩ := hrel
    by_cases hlt : k < l0.length
    · obtain ⟨ad, rfl, e0, e1, e2, e3⟩ := at_T35 (Kd.C_below HR.out HB.out) (k : Int) (by omega) (by omega)
      have hx := rd_tx l0 k hlt
      rw [hx, Int.toNat_natCast] at e0 e1 e2 e3
      have hd : l0.drop k = l0[k] :: l0.drop (k + 1) := List.drop_eq_getElem_cons hlt
      have ha := HA.out
      rw [hd] at ha
      generalize l0[k] = x at *
      have HA2 := Aside0.mk ha
      clear ha hd hx
      obtain ⟨x0, x1, x2, x3⟩ := x
      simp only at e0 e1 e2 e3
      obtain ⟨W1, hW1⟩ : ∃ W1, wr.alloc (.cells #[.int .i64 x0, .int .i64 x1, .int .i64 x2, .int .i64 x3] 35) = W1 := ⟨_, rfl⟩
      have hwl : w.heap.size + 1 + 1 < wr.heap.size := HU.out.lt
      have hE1 : MU.IsM W1 (w.heap.size + 1) (kvE kv) := HE.out.same (by rw [← hW1]; exact Below.heap_alloc _ _ _ HE.out.lt)
      have hU1 : MU.IsM W1 (w.heap.size + 1 + 1) (kvU kv) := HU.out.same (by rw [← hW1]; exact Below.heap_alloc _ _ _ HU.out.lt)
      have hB1 : Below w.heap.size w W1 := by rw [← hW1]; exact HB.out.alloc HB.out.size _
      have hx1 : W1.heap[wr.heap.size]? = some (.cells #[.int .i64 x0, .int .i64 x1, .int .i64 x2, .int .i64 x3] 35 (0, 0)) := by rw [← hW1]; exact blk_new wr _
      have lE := kvE_look (P := Try.prog) kv hE1 Try.underlying56 Try.underlying3 (by rfl) x3
      have lU := kvU_look (P := Try.prog) kv HK.out hU1 Try.underlying56 Try.underlying3 (by rfl) x3
      have HE1 := Aside0.mk hE1
      have HU1 := Aside0.mk hU1
      have HB1 := Aside0.mk hB1
      have HX1 := Aside0.mk hx1
      have y1 : W1.cell? ⟨wr.heap.size, 1, none⟩ = some (.int .i64 x1) := blk_cell hx1 1
      have y3 : W1.cell? ⟨wr.heap.size, 3, none⟩ = some (.int .i64 x3) := blk_cell hx1 3
      have HW1 := Aside0.mk hW1
      rw [← hW1] at lE lU
      clear hE1 hU1 hB1 hx1 hW1 HE HU HB y1 y3
      obtain ⟨bE, hbE⟩ : ∃ b, kv.any (fun p => p.1 == x3) = b := ⟨_, rfl⟩
      obtain ⟨bU, hbU⟩ : ∃ b, kv.any (fun p => p.1 == x3 && p.2) = b := ⟨_, rfl⟩
      have hap : apartF (⟨x0, x1, x2, x3⟩ :: l0.drop (k + 1)) kv = (if x1 = 1 then apartF (l0.drop (k + 1)) kv else if (x1 == 3 && bU) = true then apartF (l0.drop (k + 1)) kv else if bE = true then false else apartF (l0.drop (k + 1)) (kv ++ [(x3, x1 == 3)])) := by rw [← hbE, ← hbU]; rfl
      rw [hbE] at lE
      rw [hbU] at lU
      have HAP := Aside0.mk (HA2.out.trans hap)
      have HBE := Aside0.mk hbE
      clear hap hbE hbU HA2
      by_cases h1 : x1 = 1
      · have t1 : (x1 == 1) = true := by simp [h1]
        have hap := HAP.out
        rw [if_pos h1] at hap
        have HAP2 := Aside0.mk hap
        clear hap h1 HAP
        go_wp2
        go_roundg (l0.length - (k + 1))
        case measure => omega
        case rel => exact ⟨k + 1, kv, by omega, by omega, by go_num, HK, HAP2, ⟨by rw [HW1.out]; exact HE1.out⟩, ⟨by rw [HW1.out]; exact HU1.out⟩, ⟨by rw [HW1.out]; exact HB1.out⟩⟩
      · have t1 : (x1 == 1) = false := by simp [h1]
        have hap := HAP.out
        rw [if_neg h1] at hap
        obtain ⟨q3, hq3⟩ : ∃ q : Bool, (x1 == 3) = q := ⟨_, rfl⟩
        rw [hq3] at hap
        by_cases h2 : (q3 && bU) = true
        · rw [if_pos h2] at hap
          simp only [Bool.and_eq_true] at h2
          obtain ⟨rfl, rfl⟩ := h2
          have HAP2 := Aside0.mk hap
          clear hap h1 HAP
          go_wp2
          go_roundg (l0.length - (k + 1))
          case measure => omega
          case rel => exact ⟨k + 1, kv, by omega, by omega, by go_num, HK, HAP2, ⟨by rw [HW1.out]; exact HE1.out⟩, ⟨by rw [HW1.out]; exact HU1.out⟩, ⟨by rw [HW1.out]; exact HB1.out⟩⟩
        · rw [if_neg h2] at hap
          cases bE with
          | true =>
            rw [if_pos rfl] at hap
            have HAP2 := Aside0.mk (HH.out.symm.trans hap)
            clear hap h1 HAP
            obtain rfl : r = false := HAP2.out
            clear HAP2
            cases q3 with
            | true =>
              have hbu : bU = false := by simpa using h2
              subst hbu
              clear h2
              go_wp2
              go_ret
              exact ⟨rfl, by rw [HW1.out]; exact HB1.out⟩
            | false =>
              clear h2
              go_wp2
              go_ret
              exact ⟨rfl, by rw [HW1.out]; exact HB1.out⟩
          | false =>
            rw [if_neg (by decide)] at hap
            have HAP2 := Aside0.mk hap
            have hKn : Keys (kv ++ [(x3, q3)]) := by
              unfold Keys
              rw [List.pairwise_append]
              refine ⟨HK.out, by simp, fun a ha b hb => ?_⟩
              simp at hb; subst hb
              have := List.any_eq_false.1 HBE.out a ha
              simpa using this
            have HKn := Aside0.mk hKn
            clear hap h1 HAP hKn
            cases q3
            case' true =>
              have hbu : bU = false := by simpa using h2
              subst hbu
            all_goals
              clear h2
              go_wp2_with fail
              obtain ⟨D, hD⟩ : ∃ D, (wr.alloc (.cells #[.int .i64 x0, .int .i64 x1, .int .i64 x2, .int .i64 x3] 35)).drew = D := ⟨_, rfl⟩
              have hDW : W1.drew = D := by rw [← HW1.out]; exact hD
              have dE : MU.IsM D (w.heap.size + 1) (kvE kv) := HE1.out.same (by rw [← hDW]; rfl)
              have dU : MU.IsM D (w.heap.size + 1 + 1) (kvU kv) := HU1.out.same (by rw [← hDW]; rfl)
              have dX : D.heap[wr.heap.size]? = some (.cells #[.int .i64 x0, .int .i64 x1, .int .i64 x2, .int .i64 x3] 35 (0, 0)) := by rw [← hDW]; exact blk_drew HX1.out
              have dB : Below w.heap.size w D := by rw [← hDW]; exact below_drew1 HB1.out
              have hnk : ∀ p ∈ kv, p.1 ≠ x3 := fun p hp => by have := List.any_eq_false.1 HBE.out p hp; simpa using this
              obtain ⟨o1, u1, m1⟩ := MU.run_update (P := Try.prog) dE Try.underlying56 Try.underlying3 x3 (.bool true) (fun p hp => by unfold kvE at hp; obtain ⟨q, hq, rfl⟩ := List.mem_map.1 hp; exact hnk q hq)
              obtain ⟨D1, hD1⟩ : ∃ D1, D1 = D.putObj (w.heap.size + 1) o1 := ⟨_, rfl⟩
              rw [← hD1] at u1 m1
              have dU1 : MU.IsM D1 (w.heap.size + 1 + 1) (kvU kv) := dU.same (by rw [hD1]; exact World.putObj_heap_other (by omega))
              have dX1 : D1.heap[wr.heap.size]? = some (.cells #[.int .i64 x0, .int .i64 x1, .int .i64 x2, .int .i64 x3] 35 (0, 0)) := by rw [hD1]; exact (World.putObj_heap_other (by omega)).trans dX
              have dB1 : Below w.heap.size w D1 := by rw [hD1]; exact below_shut dB (by omega) _
              obtain ⟨o2, u2, m2⟩ := MU.run_update (P := Try.prog) dU1 Try.underlying56 Try.underlying3 x3 (.bool (x1 == 3)) (fun p hp => by unfold kvU at hp; obtain ⟨q, hq, rfl⟩ := List.mem_map.1 hp; exact hnk q hq)
              obtain ⟨D2, hD2⟩ : ∃ D2, D2 = D1.putObj (w.heap.size + 1 + 1) o2 := ⟨_, rfl⟩
              rw [← hD2] at u2 m2
              rw [hq3] at u2 m2
              have m1' : ∀ b, MU.IsM D2 (w.heap.size + 1) (kvE (kv ++ [(x3, b)])) := by
                intro b
                have : kvE (kv ++ [(x3, b)]) = kvE kv ++ [(x3, Value.bool true)] := by unfold kvE; rw [List.map_append]; rfl
                rw [this]
                exact m1.same (by rw [hD2]; exact World.putObj_heap_other (by omega))
              have dB2 : Below w.heap.size w D2 := by rw [hD2]; exact below_shut dB1 (by omega) _
              have M1 := Aside0.mk m1'
              have M2 := Aside0.mk m2
              have DB2 := Aside0.mk dB2
              have z1 : D1.cell? ⟨wr.heap.size, 1, none⟩ = some (.int .i64 x1) := blk_cell dX1 1
              have z3 : D1.cell? ⟨wr.heap.size, 3, none⟩ = some (.int .i64 x3) := blk_cell dX1 3
              have s1 : D.cell? ⟨wr.heap.size, 1, none⟩ = some (.int .i64 x1) := blk_cell dX 1
              have s3 : D.cell? ⟨wr.heap.size, 3, none⟩ = some (.int .i64 x3) := blk_cell dX 3
              clear dE dU dX dB hnk dU1 dX1 dB1 m1 m1' m2 dB2 hD1 hD2 hDW lE lU
              rw [← hD] at u1 s1 s3
              clear hD
              go_region
              go_wp2
              go_roundg (l0.length - (k + 1))
              case measure => omega
              case rel => exact ⟨k + 1, _, by omega, by omega, by go_num, HKn, HAP2, ⟨M1.out _⟩, ⟨by have := M2.out; unfold kvU at this ⊢; rw [List.map_append]; exact this⟩, DB2⟩
    · have : k = l0.length := by omega
      subst this
      have hr : r = true := by rw [← HH.out, HA.out, List.drop_length]; rfl
      subst hr
      go_wp2
      go_ret
      exact ⟨rfl, HB.out⟩
end Go.Proofs.Ytnlnglfjehohpaa.Q
