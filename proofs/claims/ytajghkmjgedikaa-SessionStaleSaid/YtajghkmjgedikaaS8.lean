import Derived.Test.YtajghkmjgedikaaS5
import Derived.Test.YtajghkmjgedikaaCI
namespace Go.Proofs.Ytajghkmjgedikaa.Q
open Go.RowKit Go.Proofs.YtajghkmjgedikaaW Go.Proofs.YtajghkmjgedikaaW.PrintWords Go.Proofs.YtajghkmjgedikaaW.PrintLast Go.Proofs.YtajghkmjgedikaaW.PrintMore
set_option linter.unusedVariables false
set_option linter.unusedSimpArgs false
theorem contains_row (x : Int) (l : List Int) (v : Value) (w : World) (hv : RowOf w l v) :
    Calls Try.prog 19 #[v, .int .i64 x] w fun e w' => e = .returned (.bool (decide (x ∈ l))) ∧ Below w.heap.size w w' := by
  obtain ⟨A, c, rfl, h2, h3⟩ := hv.reads
  exact contains_int x A c l w h3
set_option maxHeartbeats 1600000 in
theorem has_tx (x a : Int) (o : Bool) (l : List Int) (v : Value) (B : Nat) (w : World) (hv : RowOf w l v) (hB : w.cell? ⟨B, 0, none⟩ = some (.int .i64 x)) :
    Calls Try.prog 21 #[.agg #[.int .i64 a, .bool o, v], .pointer (some ⟨B, 0, none⟩)] w fun e w' => e = .returned (.bool (decide (x ∈ l))) ∧ Below w.heap.size w w' := by
  have HV := Aside0.mk hv
  have HC := Aside0.mk (fun w (h : RowOf w l v) => contains_row x l v w h)
  obtain ⟨A, c, rfl, _, _⟩ := hv.reads
  have hlt := World.block_lt_of_cell? _ _ hB
  have hB2 : (w.alloc (Obj.cells #[.int .i64 a, .bool o, .slice A l.length c] 25)).cell? ⟨B, 0, none⟩ = some (.int .i64 x) := ((below_alloc (Below.refl _ _) _).cell hlt).trans hB
  clear hv hB
  go_enter Try.func21, Try.ntmps21
  go_wp2_with (go_at_call 19; refine (HC.out _ (Kd.R_alloc HV.out _)).mono ?_; rintro e w1 ⟨rfl, hb1⟩; have HB := Aside0.mk (below_then (below_alloc (Below.refl _ _) _) (below_alloc (Below.refl _ _) _).size hb1); clear hb1)
  go_ret
  exact ⟨rfl, HB.out⟩
/-- The first slot that has a transaction; -1: none. -/
def whoseT (ls : Nat → List Int) (x : Int) : Int := match (List.range 16).find? (fun i => decide (x ∈ ls i)) with | some i => (i : Int) | none => -1
theorem whoseT_at {ls : Nat → List Int} {x : Int} {k : Nat} (hk : k < 16) (hx : x ∈ ls k) (hb : ∀ j, j < k → x ∉ ls j) : whoseT ls x = (k : Int) := by
  have : (List.range 16).find? (fun i => decide (x ∈ ls i)) = some k := by
    rw [List.find?_range_eq_some]
    exact ⟨by simpa using hx, List.mem_range.2 hk, fun j hj => by simpa using hb j hj⟩
  unfold whoseT; rw [this]
theorem whoseT_none {ls : Nat → List Int} {x : Int} (hb : ∀ j, j < 16 → x ∉ ls j) : whoseT ls x = -1 := by
  have : (List.range 16).find? (fun i => decide (x ∈ ls i)) = none := by
    rw [List.find?_eq_none]
    intro j hj
    simpa using hb j (List.mem_range.1 hj)
  unfold whoseT; rw [this]
set_option maxHeartbeats 1600000 in
theorem ix_slots (x : Int) (cs : Array Value) (st : Nat → Int) (op : Nat → Bool) (ls : Nat → List Int) (tx : Nat → Value) (h : Cells cs st op tx) (g B : Nat) (w : World) (hrow : Rows3 w ls tx) (hg : w.heap[g]? = some (.cells cs 28 (0, 0))) (hB : w.cell? ⟨B, 0, none⟩ = some (.int .i64 x)) :
    Calls Try.prog 20 #[.slice (some ⟨g, 0, none⟩) 16 16, .func (.func 21) #[] #[.pointer (some ⟨B, 0, none⟩)]] w fun e w' => e = .returned (.int .i64 (whoseT ls x)) ∧ Below w.heap.size w w' := by
  have HC := Aside0.mk h
  have HR := Aside0.mk hrow
  have HG := Aside0.mk hg
  have HB := Aside0.mk hB
  clear h hrow hg hB
  go_enter Try.func20, Try.ntmps20
  go_wp2
  go_loopg [8] 16 (fun gg s8 wr => ∃ k : Nat, k ≤ 16 ∧ 16 - k ≤ gg ∧ s8 = .int .i64 k ∧ Aside0 (Below w.heap.size w wr) ∧ Aside0 (∀ j, j < k → x ∉ ls j))
  case atStart =>
    exact ⟨0, Nat.zero_le _, by omega, rfl, ⟨Below.refl _ _⟩, ⟨fun j h => by omega⟩⟩
  case round =>
    obtain ⟨k, hk, hgk, rfl, HB1, HF⟩ := hrel
    by_cases hlt : k < 16
    · have e1 := HC.out.stamp k hlt
      have e2 := HC.out.opened k hlt
      have e3 := HC.out.txs k hlt
      have hrk := (HR.out k hlt).below HB1.out
      have hcb : wr.cell? ⟨B, 0, none⟩ = some (.int .i64 x) := (HB1.out.cell (World.block_lt_of_cell? _ _ HB.out)).trans HB.out
      have hgw := blk_below HG.out HB1.out
      have c1 : wr.cell? ⟨g, k * 3, none⟩ = some (.int .i64 (st k)) := (blk_cell hgw _).trans e1
      have c2 : wr.cell? ⟨g, k * 3 + 1, none⟩ = some (.bool (op k)) := (blk_cell hgw _).trans e2
      have c3 : wr.cell? ⟨g, k * 3 + 2, none⟩ = some (tx k) := (blk_cell hgw _).trans e3
      have hcl := Aside0.mk (has_tx x (st k) (op k) (ls k) (tx k) B wr hrk hcb)
      obtain ⟨A, c, e5, _, _⟩ := hrk.reads
      rw [e5] at c3 hcl
      clear e1 e2 e3 hrk hcb hgw e5
      by_cases hm : x ∈ ls k
      · have HM := Aside0.mk hm
        have hd : decide (x ∈ ls k) = true := decide_eq_true hm
        rw [hd] at hcl
        generalize st k = a at *
        generalize op k = o at *
        generalize (ls k).length = n at *
        clear hm hd
        go_wp2_with (go_at_call 21; refine hcl.out.mono ?_; clear hcl; rintro e w1 ⟨rfl, hb1⟩; have HB2 := Aside0.mk (below_then HB1.out HB1.out.size hb1); clear hb1)
        go_ret
        exact ⟨by rw [whoseT_at hlt HM.out (fun j hj => HF.out j hj)]; rfl, HB2.out⟩
      · have HM := Aside0.mk hm
        have hd : decide (x ∈ ls k) = false := decide_eq_false hm
        rw [hd] at hcl
        generalize st k = a at *
        generalize op k = o at *
        generalize (ls k).length = n at *
        clear hm hd
        go_wp2_with (go_at_call 21; refine hcl.out.mono ?_; clear hcl; rintro e w1 ⟨rfl, hb1⟩; have HB2 := Aside0.mk (below_then HB1.out HB1.out.size hb1); clear hb1)
        go_roundg (16 - (k + 1))
        case measure => omega
        case rel =>
          exact ⟨k + 1, by omega, by omega, by go_num, HB2, ⟨fun j hj => by
            by_cases he : j = k
            · subst he; exact HM.out
            · exact HF.out j (by omega)⟩⟩
    · have : k = 16 := by omega
      subst this
      go_wp2
      go_ret
      exact ⟨by rw [whoseT_none HF.out]; rfl, HB1.out⟩
set_option maxHeartbeats 1600000 in
theorem whose_at (x : Int) (cs : Array Value) (st : Nat → Int) (op : Nat → Bool) (ls : Nat → List Int) (tx : Nat → Value) (h : Cells cs st op tx) (w : World) (hrow : Rows3 w ls tx) (r : Int) (hr : whoseT ls x = r) :
    Calls Try.prog 13 #[.agg cs, .int .i64 x] w fun e w' => e = .returned (.int .i64 r) ∧ Below w.heap.size w w' := by
  subst hr
  obtain ⟨b0, b1, be⟩ := two_boxes w (Obj.cells cs 28) (Obj.cells #[.int .i64 x] 3)
  have HI := Aside0.mk (ix_slots x cs st op ls tx h w.heap.size (w.heap.size + 1) _ (hrow.below be) b0 (blk_cell b1 0))
  have HB := Aside0.mk be
  clear b0 b1 be h hrow
  go_enter Try.func13, Try.ntmps13
  go_wp2_with (go_at_call 20; refine HI.out.mono ?_; clear HI; rintro e w1 ⟨rfl, hb1⟩; have HB1 := Aside0.mk (below_then HB.out HB.out.size hb1); clear hb1)
  go_ret
  exact ⟨rfl, HB1.out⟩
end Go.Proofs.Ytajghkmjgedikaa.Q
