import Derived.Test.YtajghkmjgedikaaH1
import Derived.Test.YtajghkmjgedikaaQ1
import Derived.Deep.MidRow
import Derived.WideMake
namespace Go.Proofs.Ytajghkmjgedikaa.Q
open Go.RowKit Go.Proofs.YtajghkmjgedikaaW Go.Proofs.YtajghkmjgedikaaW.PrintWords Go.Proofs.YtajghkmjgedikaaW.PrintLast Go.Proofs.YtajghkmjgedikaaW.PrintMore
set_option linter.unusedVariables false
set_option linter.unusedSimpArgs false

theorem load_all {W : World} {g : Nat} {t u : TypeId} {cs : Array Value} {d : TypeDesc} (hb : W.heap[g]? = some (.cells cs t (0, 0))) (hu : Try.prog.underlying u = some d) (hd : d.isRow = true) (hi : (Try.prog.info? u).map (·.size) = some cs.size) :
    W.rangeAt g 0 cs.toList ∧ (Instr.loadAt u (.pointer (some ⟨g, 0, none⟩))).run Try.prog W = .ok (.agg cs) W := by
  have hr : W.rangeAt g 0 cs.toList := by
    intro j v hv
    rw [Nat.zero_add, blk_cell hb j, ← hv]
    simp
  refine ⟨hr, ?_⟩
  have := run_loadAt_mid (P := Try.prog) W g 0 u cs.toList d hr hu hd (by simpa using hi)
  simpa using this

theorem sound_nil (x : Int) (o : Bool) (h : 0 ≤ x ∧ x ≤ 1099511627776) (w : World) :
    Calls Try.prog 17 #[.agg #[.int .i64 x, .bool o, .slice none 0 0]] w fun e w' => e = .returned (.bool true) ∧ Below w.heap.size w w' := by
  have hf : session_Slot_sound.f 2 x o [] = some true := by
    unfold session_Slot_sound.f
    rw [if_neg (by omega), if_neg (by omega)]
    cases o <;> rfl
  exact session_Slot_sound.calls 2 x o none 0 [] true w ⟨by simp, by simp, by simp⟩ (Nat.le_refl _) hf

theorem run_slot (cs : Array Value) (k : Nat) (hk : k < 16) (a b c : Value) (e1 : cs[k * 3]? = some a) (e2 : cs[k * 3 + 1]? = some b) (e3 : cs[k * 3 + 2]? = some c) (w : World) :
    (Instr.index 26 (.agg cs) (.int .i64 (k : Int))).run Try.prog w = .ok (.agg #[a, b, c]) w := by
  have hx : cs.extract (k * 3) (k * 3 + 3) = #[a, b, c] := by
    apply Array.ext_getElem?
    intro i
    rw [Array.getElem?_extract]
    by_cases h3 : k * 3 + 2 < cs.size
    · match i with
      | 0 => rw [if_pos (by omega), Nat.add_zero, e1]; rfl
      | 1 => rw [if_pos (by omega), e2]; rfl
      | 2 => rw [if_pos (by omega), e3]; rfl
      | i + 3 => rw [if_neg (by omega)]; simp
    · rw [Array.getElem?_eq_none (by omega)] at e3; cases e3
  have h0 : (0 : Int) ≤ (k : Int) ∧ (k : Int) < 16 := by omega
  simp [Instr.index, run_underlying Try.underlying26, asIntOf, h0, go_sem]
  rw [if_pos hk, hx]

set_option maxHeartbeats 1600000 in
theorem sane_nil (cs : Array Value) (st : Nat → Int) (op : Nat → Bool) (h : Cells cs st op (fun _ => .slice none 0 0)) (hst : ∀ i, i < 16 → 0 ≤ st i ∧ st i ≤ 1099511627776) (w : World) :
    Calls Try.prog 10 #[.agg cs] w fun e w' => e = .returned (.bool true) ∧ Below w.heap.size w w' := by
  obtain ⟨hs, h1, h2, h3⟩ := h
  have H1 := Aside0.mk h1
  have H2 := Aside0.mk h2
  have H3 := Aside0.mk h3
  have HS := Aside0.mk hst
  obtain ⟨b2, b3, hb⟩ := two_boxes w (Obj.cells cs 28) (Obj.map #[] 0)
  have HB := Aside0.mk hb
  have hl := (load_all (u := 26) b2 Try.underlying26 rfl (by rw [hs]; kernel_rfl)).2
  have hrg := (load_all (u := 26) b2 Try.underlying26 rfl (by rw [hs]; kernel_rfl)).1
  have hw : ((w.alloc (Obj.cells cs 28)).alloc (Obj.map #[] 0)).heap.size = w.heap.size + 2 := by simp
  have HW := Aside0.mk hw
  have HR := Aside0.mk hrg
  have hi26 : (Try.prog.info? 26).map (·.size) = some cs.toList.length := by rw [Array.length_toList, hs]; kernel_rfl
  have HI := Aside0.mk hi26
  clear h1 h2 h3 hst hb b3 hw hl hrg hi26
  go_enter Try.func10, Try.ntmps10
  go_wp2
  simp only [run_makeMap_plain]
  generalize hWW : (w.alloc (Obj.cells cs 28)).alloc (Obj.map #[] 0) = W at *
  go_wp2_with (refine wpList_load_mid rfl 26 (.tmp 9) rfl w.heap.size 0 rfl cs.toList _ HR.out Try.underlying26 rfl HI.out ?_)
  go_loopg [11] 16 (fun gg s11 wr => ∃ k : Nat, k ≤ 16 ∧ 16 - k ≤ gg ∧ s11 = .int .i64 k ∧ Aside0 (Below w.heap.size w wr))
  case atStart =>
    exact ⟨0, Nat.zero_le _, by omega, rfl, HB⟩
  case round =>
    obtain ⟨k, hk, hgk, rfl, HB1⟩ := hrel
    by_cases hlt : k < 16
    · have e1 := H1.out k hlt
      have e2 := H2.out k hlt
      have e3 := H3.out k hlt
      have e4 := HS.out k hlt
      have hs17 := Aside0.mk (sound_nil (st k) (op k) e4)
      have hx := run_slot cs k hlt _ _ _ e1 e2 e3
      clear e1 e2 e3
      generalize st k = x at *
      generalize op k = o at *
      go_wp2_with (go_at_call 17; refine (hs17.out _).mono ?_; rintro e w1 ⟨rfl, hb1⟩; have b0 := blk_below (blk_new wr _) hb1; have d0 : w1.cell? ⟨wr.heap.size, 2, none⟩ = some (.slice none 0 0) := blk_cell b0 2; have HB2 := Aside0.mk (below_then (below_alloc HB1.out _) (below_alloc HB1.out _).size hb1); clear b0 hb1)
      refine wp_loop_rounds 1 ?_
      rw [rounds_succ]
      go_wp2
      go_roundg (16 - (k + 1))
      case measure => omega
      case rel =>
        exact ⟨k + 1, by omega, by omega, by go_num, HB2⟩
    · have : k = 16 := by omega
      subst this
      go_wp2
      go_ret
      exact ⟨rfl, HB1.out⟩
end Go.Proofs.Ytajghkmjgedikaa.Q
