import Derived.Test.YtajghkmjgedikaaH3
import Derived.Test.YtajghkmjgedikaaMU
namespace Go.Proofs.Ytajghkmjgedikaa.Q
open Go.RowKit Go.Proofs.YtajghkmjgedikaaW Go.Proofs.YtajghkmjgedikaaW.PrintWords Go.Proofs.YtajghkmjgedikaaW.PrintLast Go.Proofs.YtajghkmjgedikaaW.PrintMore
set_option linter.unusedVariables false
set_option linter.unusedSimpArgs false

/-- What a slot has, as a row of whole numbers. -/
def RowOf (w : World) (l : List Int) (v : Value) : Prop := (Kd.int .i64).R 3 w 0 (fun _ => True) v l
theorem RowOf.reads {w : World} {l : List Int} {v : Value} (h : RowOf w l v) : ∃ A c, v = .slice A l.length c ∧ l.length ≤ c ∧ Kd.C (Kd.int .i64) w A l.length l := Kd.R_reads h
/-- The rows of a table. -/
def Rows3 (w : World) (ls : Nat → List Int) (tx : Nat → Value) : Prop := ∀ i, i < 16 → RowOf w (ls i) (tx i)
def okL (l : List Int) : Prop := l.Pairwise (· < ·) ∧ ∀ x ∈ l, 0 ≤ x ∧ x < 64
/-- A table that may be. -/
structure SaneT (st : Nat → Int) (op : Nat → Bool) (ls : Nat → List Int) : Prop where
  stamp : ∀ i, i < 16 → 0 ≤ st i ∧ st i ≤ 1099511627776
  shut : ∀ i, i < 16 → op i = false → ls i = []
  rows : ∀ i, i < 16 → okL (ls i)
  one : ∀ i j x, i < 16 → j < 16 → x ∈ ls i → x ∈ ls j → i = j
theorem RowOf.below {w w' : World} {l : List Int} {v : Value} (h : RowOf w l v) (hb : Below w.heap.size w w') : RowOf w' l v := by
  exact Kd.R_below h hb
theorem Rows3.below {w w' : World} {ls : Nat → List Int} {tx : Nat → Value} (h : Rows3 w ls tx) (hb : Below w.heap.size w w') : Rows3 w' ls tx := fun i hi => (h i hi).below hb
theorem below_put {B M : Nat} {a w : World} (h : Below B a w) (hM : B ≤ M) (o : Obj) : Below B a (w.putObj M o) :=
  ⟨h.os, h.tape, h.output, by have := h.size; simp [World.putObj]; exact this, fun k hk => (World.putObj_heap_other (by omega)).trans (h.block k hk)⟩
theorem sound_l (l : List Int) (hl : l.length ≤ 9223372036854775807) (hs : okL l) : ∀ m i : Nat, i + m = l.length → ∀ last : Int, (∀ (h : i < l.length), last < l[i]) → session_Slot_sound.l0 (m + 1) last l (l.length : Int) (i : Int) = some true
  | 0, i, h, last, hb => by
    rw [session_Slot_sound.l0, if_neg (by omega)]
  | m + 1, i, h, last, hb => by
    have hi : i < l.length := by omega
    have hr : rd l (i : Int) = l[i] := by simp [rd, List.getD_eq_getElem?_getD, List.getElem?_eq_getElem hi]
    have h1 := hs.2 l[i] (List.getElem_mem _)
    have h2 := hb hi
    rw [session_Slot_sound.l0, if_pos (by omega), if_pos (by omega), if_pos (by omega), hr, if_neg (by omega), if_neg (by omega)]
    have hw : wrap64 ((i : Int) + 1) = ((i + 1 : Nat) : Int) := by unfold wrap64; omega
    rw [hw]
    exact sound_l l hl hs m (i + 1) (by omega) l[i] (fun h' => List.pairwise_iff_getElem.1 hs.1 i (i + 1) hi h' (by omega))
theorem sound_ok (x : Int) (o : Bool) (l : List Int) (v : Value) (h : 0 ≤ x ∧ x ≤ 1099511627776) (ho : o = false → l = []) (hs : okL l) (w : World) (hv : RowOf w l v) :
    Calls Try.prog 17 #[.agg #[.int .i64 x, .bool o, v]] w fun e w' => e = .returned (.bool true) ∧ Below w.heap.size w w' := by
  obtain ⟨A, c, rfl, h2, h3⟩ := hv.reads
  have hl : l.length ≤ 9223372036854775807 := h3.2.1
  have h0 := sound_l l hl hs l.length 0 (by omega) (-1) (fun h => by have := hs.2 l[0] (List.getElem_mem _); omega)
  have hf : session_Slot_sound.f (l.length + 2) x o l = some true := by
    unfold session_Slot_sound.f
    rw [if_neg (by omega), if_neg (by omega)]
    cases o with
    | true => rw [if_pos rfl, session_Slot_sound.j0, if_neg (by decide)]; exact h0
    | false =>
      rw [if_neg (by decide), session_Slot_sound.j0]
      have := ho rfl
      rw [if_neg (by simp [this])]
      exact h0
  exact session_Slot_sound.calls _ x o A c l true w h3 h2 hf
/-- What the first k slots have, one behind the other. -/
def metT (ls : Nat → List Int) (k : Nat) : List Int := (List.range k).flatMap ls
theorem metT_succ (ls : Nat → List Int) (k : Nat) : metT ls (k + 1) = metT ls k ++ ls k := by
  unfold metT; rw [List.range_succ, List.flatMap_append]; simp
theorem metT_mem {ls : Nat → List Int} {k : Nat} {x : Int} (h : x ∈ metT ls k) : ∃ i, i < k ∧ x ∈ ls i := by
  unfold metT at h
  obtain ⟨i, hi, hx⟩ := List.mem_flatMap.1 h
  exact ⟨i, List.mem_range.1 hi, hx⟩
def kvB (l : List Int) : List (Int × Value) := l.map (fun x => (x, .bool true))
theorem fresh_met {st : Nat → Int} {op : Nat → Bool} {ls : Nat → List Int} (h : SaneT st op ls) (k j : Nat) (hk : k < 16) (hj : j < (ls k).length) : ∀ p ∈ kvB (metT ls k ++ (ls k).take j), p.1 ≠ (ls k)[j] := by
  intro p hp he
  obtain ⟨x, hx, rfl⟩ := List.mem_map.1 hp
  simp only at he
  subst he
  rcases List.mem_append.1 hx with hx | hx
  · obtain ⟨i, hi, hx⟩ := metT_mem hx
    have := h.one i k _ (by omega) hk hx (List.getElem_mem _)
    omega
  · obtain ⟨i, hi, he⟩ := List.mem_iff_getElem.1 hx
    rw [List.getElem_take] at he
    rw [List.length_take] at hi
    have := List.pairwise_iff_getElem.1 (h.rows k hk).1 i j (by omega) hj (by omega)
    omega
theorem kvB_snoc (l m : List Int) (j : Nat) (hj : j < m.length) : kvB (l ++ m.take j) ++ [(m[j], .bool true)] = kvB (l ++ m.take (j + 1)) := by
  unfold kvB
  rw [List.take_succ_eq_append_getElem hj, ← List.append_assoc, List.map_append (l₂ := [m[j]])]
  rfl
set_option maxHeartbeats 1600000 in
theorem sane_ok (cs : Array Value) (st : Nat → Int) (op : Nat → Bool) (ls : Nat → List Int) (tx : Nat → Value) (h : Cells cs st op tx) (hsn : SaneT st op ls) (w : World) (hrow : Rows3 w ls tx) :
    Calls Try.prog 10 #[.agg cs] w fun e w' => e = .returned (.bool true) ∧ Below w.heap.size w w' := by
  obtain ⟨hs, h1, h2, h3⟩ := h
  have H1 := Aside0.mk h1
  have H2 := Aside0.mk h2
  have H3 := Aside0.mk h3
  have HS := Aside0.mk hsn
  have HW := Aside0.mk hrow
  obtain ⟨b2, b3, hb⟩ := two_boxes w (Obj.cells cs 28) (Obj.map #[] 0)
  have HB := Aside0.mk hb
  have HM := Aside0.mk (MU.IsM.made b3)
  have hrg := (load_all (u := 26) b2 Try.underlying26 rfl (by rw [hs]; kernel_rfl)).1
  have HR := Aside0.mk hrg
  have hi26 : (Try.prog.info? 26).map (·.size) = some cs.toList.length := by rw [Array.length_toList, hs]; kernel_rfl
  have HI := Aside0.mk hi26
  clear h1 h2 h3 hsn hb b2 b3 hrg hi26 hrow
  go_enter Try.func10, Try.ntmps10
  go_wp2
  simp only [run_makeMap_plain]
  generalize hWW : (w.alloc (Obj.cells cs 28)).alloc (Obj.map #[] 0) = W at *
  have hgM : (w.alloc (Obj.cells cs 28)).heap.size = w.heap.size + 1 := by simp
  rw [hgM]
  go_wp2_with (refine wpList_load_mid rfl 26 (.tmp 9) rfl w.heap.size 0 rfl cs.toList _ HR.out Try.underlying26 rfl HI.out ?_)
  clear hgM
  go_loopg [11] 16 (fun gg s11 wr => ∃ k : Nat, k ≤ 16 ∧ 16 - k ≤ gg ∧ s11 = .int .i64 k ∧ Aside0 (Below w.heap.size w wr) ∧ Aside0 (MU.IsM wr (w.heap.size + 1) (kvB (metT ls k))))
  case atStart =>
    exact ⟨0, Nat.zero_le _, by omega, rfl, HB, HM⟩
  case round =>
    obtain ⟨k, hk, hgk, rfl, HB1, HM1⟩ := hrel
    by_cases hlt : k < 16
    · have e1 := H1.out k hlt
      have e2 := H2.out k hlt
      have e3 := H3.out k hlt
      have e4 := HS.out.stamp k hlt
      obtain ⟨A, c, e5, e6, e7⟩ := (HW.out k hlt).reads
      have HRk := Aside0.mk (HW.out k hlt)
      have hs17 := Aside0.mk (fun w (hv : RowOf w (ls k) (tx k)) => sound_ok (st k) (op k) (ls k) (tx k) e4 (HS.out.shut k hlt) (HS.out.rows k hlt) w hv)
      have hx := run_slot cs k hlt _ _ _ e1 e2 e3
      have HF := Aside0.mk (fun j hj => fresh_met HS.out k j hlt hj)
      have HC := Aside0.mk e7
      have HC6 := Aside0.mk e6
      have hmax : (ls k).length ≤ 9223372036854775807 := e7.2.1
      have hms := Aside0.mk (metT_succ ls k)
      clear e1 e2 e3 e4 e7 e6
      rw [e5] at hx hs17 HRk
      clear e5
      generalize st k = x at *
      generalize op k = o at *
      obtain ⟨l, hl⟩ : ∃ l, ls k = l := ⟨_, rfl⟩
      rw [hl] at hx hs17 HC HF HC6 hmax hms HRk
      generalize metT ls k = m0 at *
      clear hl
      go_wp2_with (go_at_call 17; refine (hs17.out _ (Kd.R_alloc (HRk.out.below HB1.out) _)).mono ?_; rintro e w1 ⟨rfl, hb1⟩; have b0 := blk_below (blk_new wr _) hb1; have d0 : w1.cell? ⟨wr.heap.size, 2, none⟩ = some (.slice A l.length c) := blk_cell b0 2; have HB2 := Aside0.mk (below_then (below_alloc HB1.out _) (below_alloc HB1.out _).size hb1); have HM2 := Aside0.mk (HM1.out.same (hb1.block _ (Nat.lt_of_lt_of_le HM1.out.lt (by simp)) |>.trans (Below.heap_alloc _ _ _ HM1.out.lt))); clear b0 hb1)
      clear d0
      go_loopg [20] l.length (fun gg s20 wr => ∃ j : Nat, j ≤ l.length ∧ l.length - j ≤ gg ∧ s20 = .int .i64 j ∧ Aside0 (Below w.heap.size w wr) ∧ Aside0 (MU.IsM wr (w.heap.size + 1) (kvB (m0 ++ l.take j))))
      case atStart =>
        exact ⟨0, Nat.zero_le _, by omega, rfl, HB2, ⟨by rw [List.take_zero, List.append_nil]; exact HM2.out⟩⟩
      case round =>
        obtain ⟨j, hj, hgj, rfl, HB3, HM3⟩ := hrel
        by_cases hjl : j < l.length
        · obtain ⟨ad, rfl, hc⟩ := Kd.at_int (Kd.C_below HC.out HB3.out) j (by omega) (by omega)
          have hx : rd l j = l[j] := by simp [rd, List.getD_eq_getElem?_getD, List.getElem?_eq_getElem hjl]
          rw [hx] at hc
          have hf := HF.out j hjl
          have hsn := kvB_snoc m0 l j hjl
          obtain ⟨y, hy⟩ : ∃ y, y = l[j] := ⟨_, rfl⟩
          rw [← hy] at hc hf hsn
          have hcell : wr.cell? (ad.add j) = some (.int .i64 y) := by simpa using hc
          clear hx hy hc
          have hlk := MU.run_lookup_none (t := 56) (P := Try.prog) HM3.out Try.underlying56 Try.underlying3 (.bool false) (by rfl) y hf
          obtain ⟨o', hup, hM'⟩ := MU.run_update (P := Try.prog) (t := 56) HM3.out Try.underlying56 Try.underlying3 y (.bool true) hf
          rw [hsn] at hM'
          have HM4 := Aside0.mk hM'
          have HMlt := Aside0.mk HM3.out.lt
          clear hf hsn hM' 
          go_wp2
          go_roundg (l.length - (j + 1))
          case measure => omega
          case rel =>
            exact ⟨j + 1, by omega, by omega, by go_num, ⟨below_put HB3.out (by omega) _⟩, HM4⟩
        · have : j = l.length := by omega
          subst this
          go_wp2
          go_roundg (16 - (k + 1))
          case measure => omega
          case rel =>
            exact ⟨k + 1, by omega, by omega, by go_num, HB3, ⟨by rw [hms.out]; have := HM3.out; rwa [List.take_length] at this⟩⟩
    · have : k = 16 := by omega
      subst this
      go_wp2
      go_ret
      exact ⟨rfl, HB1.out⟩
end Go.Proofs.Ytajghkmjgedikaa.Q
