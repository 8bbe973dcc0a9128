import Derived.Test.YtajghkmjgedikaaS1
import Derived.Test.YtajghkmjgedikaaQ2
namespace Go.Proofs.Ytajghkmjgedikaa.Q
open Go.RowKit Go.Proofs.YtajghkmjgedikaaW Go.Proofs.YtajghkmjgedikaaW.PrintWords Go.Proofs.YtajghkmjgedikaaW.PrintLast Go.Proofs.YtajghkmjgedikaaW.PrintMore
set_option linter.unusedVariables false
set_option linter.unusedSimpArgs false
/-! ### slices.BinarySearch: where it lays -/
theorem less_ev (a b : Int) : cmp_Less_int.f a b = some (decide (a < b)) := by
  unfold cmp_Less_int.f cmp_isNaN_int.f
  simp
theorem nan_ev (a : Int) : slices_isNaN_int.f a = some false := by
  unfold slices_isNaN_int.f
  simp
theorem rd_of (l : List Int) (j : Nat) (h : j < l.length) : rd l (j : Int) = l[j] := by simp [rd, List.getD_eq_getElem?_getD, List.getElem?_eq_getElem h]
theorem w64_small (s : Int) (h : 0 ≤ s ∧ s < 4000000000) : wrap64 s = s := by unfold wrap64; omega
theorem mid_w (a b : Nat) (h : a + b < 4000000) : wrap64 ((IntKind.u64.wrap (wrap64 ((a : Int) + (b : Int)))) / 2) = (((a + b) / 2 : Nat) : Int) := by
  have e0 : (a : Int) + (b : Int) = ((a + b : Nat) : Int) := by omega
  rw [e0]
  generalize a + b = s at *
  rw [w64_small (s : Int) (by omega)]
  have e2 : IntKind.u64.wrap ((s : Nat) : Int) = (s : Int) := IntWalk.u64_in _ ⟨by omega, by omega⟩
  rw [e2, w64_small ((s : Int) / 2) (by omega)]
  omega
theorem bs_l (l : List Int) (x : Int) (hs : l.Pairwise (· < ·)) (hl : l.length < 1000000) : ∀ (m lo hi : Nat), hi - lo ≤ m → lo ≤ hi → hi ≤ l.length → (∀ j (h : j < l.length), j < lo → l[j] < x) → (∀ j (h : j < l.length), hi ≤ j → x ≤ l[j]) →
    ∃ (i : Nat) (b : Bool), i ≤ l.length ∧ (∀ j (h : j < l.length), j < i → l[j] < x) ∧ (∀ j (h : j < l.length), i ≤ j → x ≤ l[j]) ∧ slices_BinarySearch_int_int.l0 (m + 1) l x (l.length : Int) (lo : Int) (hi : Int) = some ((i : Int), b)
  | m, lo, hi, hm, hle, hhi, h1, h2 => by
    by_cases he : lo = hi
    · subst he
      rw [slices_BinarySearch_int_int.l0, if_neg (by omega)]
      by_cases hn : (lo : Int) < (l.length : Int)
      · rw [if_pos hn, if_pos (by omega), if_pos hn]
        by_cases hx : rd l (lo : Int) = x
        · rw [if_pos hx]; exact ⟨lo, true, by omega, h1, h2, rfl⟩
        · rw [if_neg hx, nan_ev]
          exact ⟨lo, false, by omega, h1, h2, by simp⟩
      · rw [if_neg hn]; exact ⟨lo, false, by omega, h1, h2, rfl⟩
    · cases m with
      | zero => omega
      | succ m =>
        have hmid : wrap64 ((IntKind.u64.wrap (wrap64 ((lo : Int) + (hi : Int)))) / 2) = (((lo + hi) / 2 : Nat) : Int) := mid_w lo hi (by omega)
        obtain ⟨q, hq⟩ : ∃ q : Nat, (lo + hi) / 2 = q := ⟨_, rfl⟩
        have hq1 : lo ≤ q ∧ q < hi := by omega
        have hql : q < l.length := by omega
        have c0 : (lo : Int) < (hi : Int) := by omega
        have c1 : (0 : Int) ≤ (q : Int) := by omega
        have c2 : (q : Int) < (l.length : Int) := by omega
        rw [hq] at hmid
        rw [slices_BinarySearch_int_int.l0, if_pos c0, hmid, if_pos c1, if_pos c2, less_ev, rd_of l q hql]
        rw [Option.bind_some]
        clear hmid hq c0 c1 c2
        by_cases hlt : l[q] < x
        · rw [if_pos (by simpa using hlt)]
          have hw : wrap64 ((q : Int) + 1) = ((q + 1 : Nat) : Int) := by rw [w64_small ((q : Int) + 1) (by omega)]; omega
          rw [hw]
          exact bs_l l x hs hl m (q + 1) hi (by omega) (by omega) hhi (fun j h hj => by
            by_cases e : j = q
            · subst e; exact hlt
            · have := List.pairwise_iff_getElem.1 hs j q h hql (by omega); omega) h2
        · rw [if_neg (by simpa using hlt)]
          exact bs_l l x hs hl m lo q (by omega) (by omega) (by omega) h1 (fun j h hj => by
            by_cases e : j = q
            · subst e; omega
            · have := List.pairwise_iff_getElem.1 hs q j hql h (by omega); omega)
/-- The place of x in a sorted row. -/
def insT (x : Int) (l : List Int) : List Int := l.filter (fun y => decide (y < x)) ++ x :: l.filter (fun y => decide (x ≤ y))
theorem cut_low (l : List Int) (x : Int) (i : Nat) (hi : i ≤ l.length) (h1 : ∀ j (h : j < l.length), j < i → l[j] < x) (h2 : ∀ j (h : j < l.length), i ≤ j → x ≤ l[j]) : l.take i ++ x :: l.drop i = insT x l := by
  have a1 : ∀ y ∈ l.take i, y < x := by
    intro y hy
    obtain ⟨j, hj, rfl⟩ := List.mem_iff_getElem.1 hy
    rw [List.length_take] at hj
    rw [List.getElem_take]
    exact h1 j (by omega) (by omega)
  have a2 : ∀ y ∈ l.drop i, x ≤ y := by
    intro y hy
    obtain ⟨j, hj, rfl⟩ := List.mem_iff_getElem.1 hy
    rw [List.length_drop] at hj
    rw [List.getElem_drop]
    exact h2 _ (by omega) (by omega)
  have e1 : l.filter (fun y => decide (y < x)) = l.take i := by
    conv => lhs; rw [← List.take_append_drop i l]
    rw [List.filter_append, List.filter_eq_self.2 (fun y hy => by simpa using a1 y hy), List.filter_eq_nil_iff.2 (fun y hy => by have := a2 y hy; simp; omega), List.append_nil]
  have e2 : l.filter (fun y => decide (x ≤ y)) = l.drop i := by
    conv => lhs; rw [← List.take_append_drop i l]
    rw [List.filter_append, List.filter_eq_nil_iff.2 (fun y hy => by have := a1 y hy; simp; omega), List.filter_eq_self.2 (fun y hy => by simpa using a2 y hy), List.nil_append]
  unfold insT
  rw [e1, e2]
theorem insT_mem {x y : Int} {l : List Int} : y ∈ insT x l ↔ y = x ∨ y ∈ l := by
  unfold insT
  simp only [List.mem_append, List.mem_cons, List.mem_filter, decide_eq_true_eq]
  constructor
  · rintro (h | h | h) <;> simp [*]
  · rintro (h | h)
    · exact .inr (.inl h)
    · by_cases hx : y < x
      · exact .inl ⟨h, hx⟩
      · exact .inr (.inr ⟨h, by omega⟩)
theorem insT_ok {x : Int} {l : List Int} (h : okL l) (hx : x ∉ l) (h0 : 0 ≤ x ∧ x < 64) : okL (insT x l) := by
  refine ⟨?_, fun y hy => ?_⟩
  · unfold insT
    rw [List.pairwise_append]
    refine ⟨h.1.filter _, ?_, ?_⟩
    · rw [List.pairwise_cons]
      refine ⟨fun y hy => ?_, h.1.filter _⟩
      have h2 := List.mem_filter.1 hy
      have h3 : x ≤ y := by simpa using h2.2
      have : y ≠ x := fun e => hx (e ▸ h2.1)
      omega
    · intro a ha b hb
      have h2 : a < x := by simpa using (List.mem_filter.1 ha).2
      rcases List.mem_cons.1 hb with rfl | hb
      · exact h2
      · have h3 : x ≤ b := by simpa using (List.mem_filter.1 hb).2
        omega
  · rcases insT_mem.1 hy with rfl | hy
    · exact h0
    · exact h.2 y hy
theorem search_int (l : List Int) (x : Int) (v : Value) (w : World) (hs : l.Pairwise (· < ·)) (hl : l.length < 1000000) (A : Option Addr) (c : Nat) (hc : l.length ≤ c) (hr : Kd.C (Kd.int .i64) w A l.length l) :
    ∃ (i : Nat) (b : Bool), i ≤ l.length ∧ l.take i ++ x :: l.drop i = insT x l ∧
    Calls Try.prog 22 #[.slice A l.length c, .int .i64 x] w fun e w' => e = .returned (.tuple #[.int .i64 (i : Int), .bool b]) ∧ Drawn0 w w' := by
  obtain ⟨i, b, h1, h2, h3, h4⟩ := bs_l l x hs hl l.length 0 l.length (by omega) (by omega) (Nat.le_refl _) (fun j h hj => by omega) (fun j h hj => by omega)
  exact ⟨i, b, h1, cut_low l x i h1 h2 h3, slices_BinarySearch_int_int.calls _ A c l x (i : Int) b w hr hc h4⟩
end Go.Proofs.Ytajghkmjgedikaa.Q
