/- Several texts of one claim, one behind the other. No condition beyond what each says. -/
import Derived.Test.YtjpoepiidmoegaaQS
import Derived.WideMake
import Derived.Maps.Own
import Derived.Maps.OwnIn
import Derived.RowKit
import Derived.RangeFuncNested
/- slices.ContainsFunc at entries: is there one that is not sound? No condition. -/
namespace Go.Proofs.Ytjpoepiidmoegaa.Q
open Go.RowKit Go.Proofs.YtjpoepiidmoegaaW Go.Proofs.YtjpoepiidmoegaaW.PrintWords Go.Proofs.YtjpoepiidmoegaaW.PrintLast Go.Proofs.YtjpoepiidmoegaaW.PrintMore
set_option linter.unusedVariables false
set_option linter.unusedSimpArgs false

def ixOf {α : Type} (p : α → Bool) (l : List α) : Int := match l.findIdx? p with | some i => (i : Int) | none => -1
theorem ixOf_at {α : Type} (p : α → Bool) (l : List α) (k : Nat) (hk : k < l.length) (hp : p l[k] = true) (hb : ∀ j (hj : j < k), p (l[j]'(by omega)) = false) : ixOf p l = (k : Int) := by
  have : l.findIdx? p = some k := by
    rw [List.findIdx?_eq_some_iff_getElem]
    exact ⟨hk, hp, fun j hj => by rw [hb j hj]; decide⟩
  unfold ixOf; rw [this]
theorem ixOf_none {α : Type} (p : α → Bool) (l : List α) (hb : ∀ j (hj : j < l.length), p l[j] = false) : ixOf p l = -1 := by
  have : l.findIdx? p = none := by
    rw [List.findIdx?_eq_none_iff]
    intro x hx
    obtain ⟨j, hj, rfl⟩ := List.mem_iff_getElem.1 hx
    exact hb j hj
  unfold ixOf; rw [this]

def PredC (g : Nat) (lb : Array Value) (p : S33 → Bool) (w : World) : Prop := ∀ (W : World) (x : S33), Below w.heap.size w W →
  Calls Try.prog g (#[.agg #[.int .i64 x.f0, .int .i64 x.f1, .int .i64 x.f2, .bool x.f3]] ++ lb) W fun e w' => e = .returned (.bool (p x)) ∧ Below W.heap.size W w'

theorem rd_at (l : List S33) (k : Nat) (hk : k < l.length) : rd_T33 l (k : Int) = l[k] := by
  unfold rd_T33; simp [List.getD_eq_getElem?_getD, List.getElem?_eq_getElem hk]

set_option maxHeartbeats 1600000 in
theorem index_any (p : S33 → Bool) (A : Option Addr) (c : Nat) (l : List S33) (w : World) (hr : Kd.C k33 w A l.length l) (hp : PredC 39 #[] p w) :
    Calls Try.prog 57 #[.slice A l.length c, .func (.func 39) #[] #[]] w fun e w' => e = .returned (.int .i64 (ixOf p l)) ∧ Below w.heap.size w w' := by
  have hmax : l.length ≤ 9223372036854775807 := hr.2.1
  have HR := Aside0.mk hr
  have HP := Aside0.mk hp
  have hu33 := Try.underlying33
  clear hr hp
  go_enter Try.func57, Try.ntmps57
  go_wp2
  go_loopg [8] l.length (fun gg s8 wr => ∃ k : Nat, k ≤ l.length ∧ l.length - k ≤ gg ∧ s8 = .int .i64 k ∧ Aside0 (Below w.heap.size w wr) ∧ Aside0 (∀ j (hj : j < l.length), j < k → p l[j] = false))
  case atStart =>
    exact ⟨0, Nat.zero_le _, by omega, rfl, ⟨Below.refl _ _⟩, ⟨fun j hj h => by omega⟩⟩
  case round =>
    obtain ⟨k, hk, hgk, rfl, HB, HF⟩ := hrel
    by_cases hlt : k < l.length
    · obtain ⟨ad, rfl, e1, e2, e3, e4⟩ := at_T33 (Kd.C_below HR.out HB.out) (k : Int) (by omega) (by omega)
      have hx := rd_at l k hlt
      rw [hx] at e1 e2 e3 e4
      obtain ⟨x, hxx⟩ : ∃ x, x = l[k] := ⟨_, rfl⟩
      rw [← hxx] at e1 e2 e3 e4
      have HX := Aside0.mk hxx
      rw [Int.toNat_natCast] at e1 e2 e3 e4
      clear hx hxx
      have hcall := Aside0.mk (fun W h => HP.out W x h)
      obtain ⟨b, hb⟩ : ∃ b, p x = b := ⟨_, rfl⟩
      rw [hb] at hcall
      have HPX := Aside0.mk hb
      clear hb
      obtain ⟨x0, x1, x2, x3⟩ := x
      simp only at e1 e2 e3 e4 hcall
      cases b with
      | true =>
        go_wp2_with (go_at_call 39; refine (hcall.out _ HB.out).mono ?_; rintro e w1 ⟨rfl, hb1⟩; have HB1 := Aside0.mk (below_then HB.out HB.out.size hb1); clear hb1)
        go_ret
        exact ⟨by rw [ixOf_at p l k hlt (by rw [← HX.out]; exact HPX.out) (fun j hj => HF.out j (by omega) hj)]; rfl, HB1.out⟩
      | false =>
        go_wp2_with (go_at_call 39; refine (hcall.out _ HB.out).mono ?_; rintro e w1 ⟨rfl, hb1⟩; have HB1 := Aside0.mk (below_then HB.out HB.out.size hb1); clear hb1)
        go_roundg (l.length - (k + 1))
        case measure => omega
        case rel =>
          exact ⟨k + 1, by omega, by omega, by go_num, HB1, ⟨fun j hj h => by
            by_cases he : j = k
            · subst he; rw [← HX.out]; exact HPX.out
            · exact HF.out j hj (by omega)⟩⟩
    · have : k = l.length := by omega
      subst this
      go_wp2
      go_ret
      exact ⟨by rw [ixOf_none p l (fun j hj => HF.out j hj hj)]; rfl, HB.out⟩

def soundB (x : S33) : Bool := decide (0 ≤ x.f0) && (decide (x.f0 < 64) && (decide (0 ≤ x.f1) && (decide (x.f1 < 64) && (x.f2 != -9223372036854775808))))
theorem sound_val (x : S33) : oplist_Entry_sound.f x.f0 x.f1 x.f2 x.f3 = some (soundB x) := by
  unfold oplist_Entry_sound.f soundB
  by_cases h1 : x.f0 ≥ 0
  · rw [if_pos h1]
    have h1' : (0 : Int) ≤ x.f0 := h1
    by_cases h2 : x.f0 < 64
    · rw [if_pos h2]
      by_cases h3 : x.f1 ≥ 0
      · rw [if_pos h3]
        have h3' : (0 : Int) ≤ x.f1 := h3
        by_cases h4 : x.f1 < 64
        · rw [if_pos h4]; simp [h1', h2, h3', h4]
        · rw [if_neg h4]; simp [h4]
      · rw [if_neg h3]; have : ¬ (0 : Int) ≤ x.f1 := h3; simp [this]
    · rw [if_neg h2]; simp [h2]
  · rw [if_neg h1]; have : ¬ (0 : Int) ≤ x.f0 := h1; simp [this]
set_option maxRecDepth 100000 in
theorem pred39 (w : World) : PredC 39 #[] (fun x => !soundB x) w := by
  intro W x hb
  clear hb
  have hu33 := Try.underlying33
  have HC := Aside0.mk (fun W => oplist_Entry_sound.calls x.f0 x.f1 x.f2 x.f3 (soundB x) W (sound_val x))
  show Calls Try.prog 39 #[.agg #[.int .i64 x.f0, .int .i64 x.f1, .int .i64 x.f2, .bool x.f3]] W _
  go_enter Try.func39, Try.ntmps39
  go_wp2_with (go_at_call 30; refine (HC.out _).mono ?_; rintro e w1 ⟨rfl, hb1⟩; have HB1 := Aside0.mk (below_then ((Below.refl _ _).alloc (Nat.le_refl _) _) (by simp) hb1); clear hb1)
  go_ret
  exact ⟨rfl, HB1.out⟩
theorem ixOf_any (p : S33 → Bool) (l : List S33) : decide (ixOf p l ≥ 0) = l.any p := by
  cases h : l.findIdx? p with
  | none =>
    have : ixOf p l = -1 := by unfold ixOf; rw [h]
    rw [this]
    rw [List.findIdx?_eq_none_iff] at h
    have : l.any p = false := by rw [List.any_eq_false]; intro x hx; simpa using h x hx
    rw [this]; rfl
  | some i =>
    have e : ixOf p l = (i : Int) := by unfold ixOf; rw [h]
    rw [e]
    rw [List.findIdx?_eq_some_iff_getElem] at h
    obtain ⟨hi, hp, _⟩ := h
    have : l.any p = true := by rw [List.any_eq_true]; exact ⟨l[i], List.getElem_mem _, hp⟩
    rw [this]; simp
def oplist_Entry_38.f (l0 : List S33) (g : Int) : Option Bool := if g = 39 then some (l0.any (fun x => !soundB x)) else none
set_option maxRecDepth 100000 in
theorem containsNot.calls (A0 : Option Addr) (c0 : Nat) (l0 : List S33) (r : Bool) (w : World) (hr0 : Kd.C k33 w A0 l0.length l0) (hc0 : l0.length ≤ c0) (h : oplist_Entry_38.f l0 39 = some r) :
    Calls Try.prog 38 #[.slice A0 l0.length c0, .func (.func 39) #[] #[]] w fun e w' => e = .returned (.bool r) ∧ Below w.heap.size w w' := by
  unfold oplist_Entry_38.f at h
  rw [if_pos rfl] at h
  have h := Option.some.inj h
  have H := Aside0.mk (fun W hw => index_any (fun x => !soundB x) A0 c0 l0 W (Kd.C_below hr0 hw) (pred39 W))
  have HR := Aside0.mk ((ixOf_any (fun x => !soundB x) l0).trans h)
  clear hr0 h
  go_enter Try.func38, Try.ntmps38
  go_wp2_with (go_at_call 57; refine (H.out _ (Below.refl _ _)).mono ?_; rintro e w1 ⟨rfl, hb1⟩; have HB1 := Aside0.mk hb1; clear hb1)
  go_ret
  exact ⟨by rw [← HR.out]; rfl, HB1.out⟩
end Go.Proofs.Ytjpoepiidmoegaa.Q
/- Maps of whole numbers, entry by entry: a new key laid, a key looked up, how many. No condition. -/
namespace Go.Proofs.Ytjpoepiidmoegaa.MU
open Go Go.RowKit

/-- The map in block M holds kv, in the order in which they came. -/
def IsM (W : World) (M : Nat) (kv : List (Int × Value)) : Prop :=
  ∃ es clock, W.heap[M]? = some (.map es clock) ∧ es.toList.map (fun e => (e.key, e.val)) = kv.map (fun p => (Value.int .i64 p.1, p.2))
theorem IsM.made {W : World} {M : Nat} (h : W.heap[M]? = some (.map #[] 0)) : IsM W M [] := ⟨#[], 0, h, rfl⟩
theorem IsM.same {W W' : World} {M : Nat} {kv : List (Int × Value)} (h : IsM W M kv) (hs : W'.heap[M]? = W.heap[M]?) : IsM W' M kv := by
  obtain ⟨es, c, h1, h2⟩ := h
  exact ⟨es, c, hs.trans h1, h2⟩
theorem IsM.lt {W : World} {M : Nat} {kv : List (Int × Value)} (h : IsM W M kv) : M < W.heap.size := by
  obtain ⟨es, c, h1, h2⟩ := h
  exact (Array.getElem?_eq_some_iff.1 h1).1
theorem findNow_new (k : Int) : ∀ (es : List MapEntry) (kv : List (Int × Value)) (i : Nat), es.map (fun e => (e.key, e.val)) = kv.map (fun p => (Value.int .i64 p.1, p.2)) → (∀ p ∈ kv, p.1 ≠ k) → Instr.findNow (.int .i64) (.int .i64 k) es i = some none
  | [], _, _, _, _ => rfl
  | e :: es, [], _, h, _ => by simp at h
  | e :: es, p :: kv, i, h, hn => by
    simp only [List.map_cons, List.cons.injEq, Prod.mk.injEq] at h
    have h1 : (k == p.1) = false := by have := hn p List.mem_cons_self; simp; omega
    unfold Instr.findNow
    rw [h.1.1]
    simp only [Instr.sameNow, h1]
    exact findNow_new k es kv (i + 1) h.2 (fun q hq => hn q (List.mem_cons_of_mem _ hq))
theorem findNow_old (k : Int) : ∀ (es : List MapEntry) (kv : List (Int × Value)) (i : Nat) (p : Int × Value), es.map (fun e => (e.key, e.val)) = kv.map (fun p => (Value.int .i64 p.1, p.2)) → kv.find? (fun p => p.1 == k) = some p → ∃ j, Instr.findNow (.int .i64) (.int .i64 k) es i = some (some (j, p.2))
  | [], [], _, _, _, h => by simp at h
  | [], q :: kv, _, _, h, _ => by simp at h
  | e :: es, [], _, _, h, _ => by simp at h
  | e :: es, q :: kv, i, p, h, hf => by
    simp only [List.map_cons, List.cons.injEq, Prod.mk.injEq] at h
    unfold Instr.findNow
    rw [h.1.1]
    by_cases hq : q.1 = k
    · have h1 : (k == q.1) = true := by simp [hq]
      have h2 : p = q := by simpa [hq] using hf.symm
      simp only [Instr.sameNow, h1]
      exact ⟨i, by rw [h.1.2, h2]; rfl⟩
    · have h1 : (k == q.1) = false := by simp; omega
      have h2 : kv.find? (fun p => p.1 == k) = some p := by simpa [hq] using hf
      simp only [Instr.sameNow, h1]
      exact findNow_old k es kv (i + 1) p h.2 h2

variable {P : Program}
theorem run_getMap {W : World} {M : Nat} {es : Array MapEntry} {c : Nat} (h : W.heap[M]? = some (.map es c)) : (getObj M).run P W = .ok (.map es c) W := by
  simp [getObj, Sem.run, h]
theorem run_setMap {W : World} {M : Nat} {es : Array MapEntry} {c : Nat} (h : W.heap[M]? = some (.map es c)) (o : Obj) : (setObj M o).run P W = .ok () (W.putObj M o) := by
  simp [setObj, Sem.run, World.putObj, h]
theorem run_check {kt : TypeId} {k : Int} (hk : P.underlying kt = some (.int .i64)) (b : Bool) (W : World) : (Instr.checkKey b 10000 kt (.int .i64 k)).run P W = .ok () W := by
  unfold Instr.checkKey
  simp [Sem.run_bind, run_underlying hk, Result.andThen]

theorem run_update {W : World} {M : Nat} {kv : List (Int × Value)} {t kt et : TypeId} (h : IsM W M kv) (ht : P.underlying t = some (.map kt et)) (hk : P.underlying kt = some (.int .i64)) (k : Int) (v : Value) (hn : ∀ p ∈ kv, p.1 ≠ k) :
    ∃ o, (Instr.mapUpdate t (.map (some M)) (.int .i64 k) v).run P W = .ok () (W.putObj M o) ∧ IsM (W.putObj M o) M (kv ++ [(k, v)]) := by
  obtain ⟨es, c, h1, h2⟩ := h
  have hf := findNow_new k es.toList kv 0 h2 hn
  refine ⟨.map (es.push { key := .int .i64 k, val := v, born := c }) (c + 1), ?_, ⟨_, _, World.putObj_heap_same (Array.getElem?_eq_some_iff.1 h1).1, by simp [h2]⟩⟩
  unfold Instr.mapUpdate
  simp only [Sem.run_bind, run_underlying ht, Result.andThen, run_getMap h1, run_check hk, Instr.findKey, run_underlying hk, hf, Sem.run_pure, run_setMap h1]

theorem run_lookup_none {W : World} {M : Nat} {kv : List (Int × Value)} {t kt et : TypeId} (h : IsM W M kv) (ht : P.underlying t = some (.map kt et)) (hk : P.underlying kt = some (.int .i64)) (z : Value) (hz : (zeroValue et).run P W = .ok z W) (k : Int) (hn : ∀ p ∈ kv, p.1 ≠ k) :
    (Instr.lookup t (.map (some M)) (.int .i64 k) false).run P W = .ok z W := by
  obtain ⟨es, c, h1, h2⟩ := h
  have hf := findNow_new k es.toList kv 0 h2 hn
  unfold Instr.lookup
  simp [Sem.run_bind, run_underlying ht, Result.andThen, run_getMap h1, run_check hk, Instr.findKey, run_underlying hk, hf, hz]
theorem run_lookup_some {W : World} {M : Nat} {kv : List (Int × Value)} {t kt et : TypeId} (h : IsM W M kv) (ht : P.underlying t = some (.map kt et)) (hk : P.underlying kt = some (.int .i64)) (k : Int) (p : Int × Value) (hp : kv.find? (fun p => p.1 == k) = some p) :
    (Instr.lookup t (.map (some M)) (.int .i64 k) false).run P W = .ok p.2 W := by
  obtain ⟨es, c, h1, h2⟩ := h
  obtain ⟨j, hf⟩ := findNow_old k es.toList kv 0 p h2 hp
  unfold Instr.lookup
  simp [Sem.run_bind, run_underlying ht, Result.andThen, run_getMap h1, run_check hk, Instr.findKey, run_underlying hk, hf, Sem.run_pure]

section
variable {ops : Array Oper} {rest : List Oper} {o : Oper} {a : Act} {Q : Exit → Act → World → Prop} {F : Fence} {nF : Nat} {W : World}
end
end Go.Proofs.Ytjpoepiidmoegaa.MU
