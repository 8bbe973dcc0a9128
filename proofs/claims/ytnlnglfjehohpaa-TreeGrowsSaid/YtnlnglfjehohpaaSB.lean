import Derived.Test.YtnlnglfjehohpaaSA
namespace Go.Proofs.Ytnlnglfjehohpaa.Q
open Go.RowKit Go.Proofs.YtnlnglfjehohpaaW Go.Proofs.YtnlnglfjehohpaaW.PrintWords Go.Proofs.YtnlnglfjehohpaaW.PrintLast Go.Proofs.YtnlnglfjehohpaaW.PrintMore
set_option linter.unusedVariables false
set_option linter.unusedSimpArgs false
/-- A row in the midst of being turned: F when done. -/
def Turning (F : List Int) (p i j L : Nat) (K : List Int → Prop) : Prop :=
  ∃ P X Y Q : List Int, P.length = p ∧ X.length = i ∧ Y.length = j ∧ P.length + X.length + Y.length + Q.length = L ∧ P ++ (Y ++ (X ++ Q)) = F ∧ K (P ++ (X ++ (Y ++ Q)))
abbrev KI : Kd Int := Kd.int .i64
theorem swap_by (v f : Value) (base : Nat) (ok : Nat → Prop) (w0 w : World) (hB : Below base w0 w) (hbase : base ≤ w.heap.size) (L : Nat) (hL : L < 1000)
    (P X M Y Q : List Int) (a b n : Nat) (ha : P.length = a) (hb : P.length + X.length + M.length = b) (hx : X.length = n) (hy : Y.length = n) (hl : P.length + X.length + M.length + Y.length + Q.length = L)
    (HO : KI.R 3 w base ok v (P ++ (X ++ (M ++ (Y ++ Q))))) :
    Calls Try.prog 45 #[v, .int .i64 (a : Int), .int .i64 (b : Int), .int .i64 (n : Int), f] w fun e w' =>
      e = .returned (.tuple #[]) ∧ KI.R 3 w' base ok v (P ++ (Y ++ (M ++ (X ++ Q)))) ∧ Below base w0 w' ∧ w.grownBy w' v.ownBlock := by
  subst ha hb hx
  exact swap_range P X M Y Q hy.symm v f base ok w0 w HO hB hbase (by omega)
/-- i > j. -/
theorem turn_more (v f : Value) (base : Nat) (ok : Nat → Prop) (w0 w : World) (hB : Below base w0 w) (hbase : base ≤ w.heap.size) (F : List Int) (p i j L : Nat) (hL : L < 1000) (hj : j < i)
    (h : Turning F p i j L (fun l => KI.R 3 w base ok v l)) :
    Calls Try.prog 45 #[v, .int .i64 (p : Int), .int .i64 ((p + i : Nat) : Int), .int .i64 (j : Int), f] w fun e w' =>
      e = .returned (.tuple #[]) ∧ Turning F (p + j) (i - j) j L (fun l => KI.R 3 w' base ok v l) ∧ Below base w0 w' ∧ w.grownBy w' v.ownBlock := by
  obtain ⟨P, X, Y, Q, h1, h2, h3, h4, h5, h6⟩ := h
  have e : X = X.take j ++ X.drop j := (List.take_append_drop j X).symm
  have l1 : (X.take j).length = j := by rw [List.length_take]; omega
  have l2 : (X.drop j).length = i - j := by rw [List.length_drop]; omega
  refine (swap_by v f base ok w0 w hB hbase L hL P (X.take j) (X.drop j) Y Q p (p + i) j h1 (by omega) l1 h3 (by omega) (by rw [e] at h6; simpa only [List.append_assoc] using h6)).mono ?_
  rintro e' w' ⟨rfl, hr, hb, hg⟩
  refine ⟨rfl, ⟨P ++ Y, X.drop j, X.take j, Q, by rw [List.length_append]; omega, l2, l1, by rw [List.length_append]; omega, ?_, by simpa only [List.append_assoc] using hr⟩, hb, hg⟩
  rw [← h5]; conv => rhs; rw [e]
  simp only [List.append_assoc]
/-- i < j. -/
theorem turn_less (v f : Value) (base : Nat) (ok : Nat → Prop) (w0 w : World) (hB : Below base w0 w) (hbase : base ≤ w.heap.size) (F : List Int) (p i j L : Nat) (hL : L < 1000) (hj : i < j)
    (h : Turning F p i j L (fun l => KI.R 3 w base ok v l)) :
    Calls Try.prog 45 #[v, .int .i64 (p : Int), .int .i64 ((p + j : Nat) : Int), .int .i64 (i : Int), f] w fun e w' =>
      e = .returned (.tuple #[]) ∧ Turning F p i (j - i) L (fun l => KI.R 3 w' base ok v l) ∧ Below base w0 w' ∧ w.grownBy w' v.ownBlock := by
  obtain ⟨P, X, Y, Q, h1, h2, h3, h4, h5, h6⟩ := h
  have e : Y = Y.take (j - i) ++ Y.drop (j - i) := (List.take_append_drop _ Y).symm
  have l1 : (Y.take (j - i)).length = j - i := by rw [List.length_take]; omega
  have l2 : (Y.drop (j - i)).length = i := by rw [List.length_drop]; omega
  refine (swap_by v f base ok w0 w hB hbase L hL P X (Y.take (j - i)) (Y.drop (j - i)) Q p (p + j) i h1 (by omega) h2 l2 (by omega) (by rw [e] at h6; simpa only [List.append_assoc] using h6)).mono ?_
  rintro e' w' ⟨rfl, hr, hb, hg⟩
  refine ⟨rfl, ⟨P, Y.drop (j - i), Y.take (j - i), X ++ Q, h1, l2, l1, by rw [List.length_append]; omega, ?_, by simpa only [List.append_assoc] using hr⟩, hb, hg⟩
  rw [← h5]; conv => rhs; rw [e]
  simp only [List.append_assoc]
/-- i = j. -/
theorem turn_same (v f : Value) (base : Nat) (ok : Nat → Prop) (w0 w : World) (hB : Below base w0 w) (hbase : base ≤ w.heap.size) (F : List Int) (p i L : Nat) (hL : L < 1000)
    (h : Turning F p i i L (fun l => KI.R 3 w base ok v l)) :
    Calls Try.prog 45 #[v, .int .i64 (p : Int), .int .i64 ((p + i : Nat) : Int), .int .i64 (i : Int), f] w fun e w' =>
      e = .returned (.tuple #[]) ∧ KI.R 3 w' base ok v F ∧ Below base w0 w' ∧ w.grownBy w' v.ownBlock := by
  obtain ⟨P, X, Y, Q, h1, h2, h3, h4, h5, h6⟩ := h
  refine (swap_by v f base ok w0 w hB hbase L hL P X [] Y Q p (p + i) i h1 (by simp; omega) h2 h3 (by simp; omega) (by simpa using h6)).mono ?_
  rintro e' w' ⟨rfl, hr, hb, hg⟩
  exact ⟨rfl, by rw [← h5]; simpa using hr, hb, hg⟩
set_option maxRecDepth 100000 in
set_option maxHeartbeats 3200000 in
theorem rotate_ok (P X Y Q : List Int) (v f : Value) (base : Nat) (ok : Nat → Prop) (w0 w : World) (HO : KI.R 3 w base ok v (P ++ (X ++ (Y ++ Q)))) (hB : Below base w0 w) (hbase : base ≤ w.heap.size) (hl : P.length + X.length + Y.length + Q.length < 1000) (hx0 : X ≠ []) (hy0 : Y ≠ [])  :
    Calls Try.prog 44 #[v, .int .i64 (P.length : Int), .int .i64 ((P.length + X.length : Nat) : Int), .int .i64 ((P.length + X.length + Y.length : Nat) : Int), f] w fun e w' =>
      e = .returned (.tuple #[]) ∧ KI.R 3 w' base ok v (P ++ (Y ++ (X ++ Q))) ∧ Below base w0 w' ∧ w.grownBy w' v.ownBlock := by
  have hx1 : 0 < X.length := List.length_pos_iff.2 hx0
  have hy1 : 0 < Y.length := List.length_pos_iff.2 hy0
  obtain ⟨L, hL⟩ : ∃ L, P.length + X.length + Y.length + Q.length = L := ⟨_, rfl⟩
  have H0 := Aside0.mk (show Turning (P ++ (Y ++ (X ++ Q))) P.length X.length Y.length L (fun l => KI.R 3 w base ok v l) from ⟨P, X, Y, Q, rfl, rfl, rfl, hL, rfl, HO⟩)
  generalize P ++ (Y ++ (X ++ Q)) = F at H0 ⊢
  have BB := Aside0.mk hB
  have BS := Aside0.mk hbase
  obtain ⟨m, hm⟩ : ∃ m, P.length + X.length = m := ⟨_, rfl⟩
  obtain ⟨b, hb⟩ : ∃ b, P.length + X.length + Y.length = b := ⟨_, rfl⟩
  rw [hb, hm]
  have hlb : b ≤ L ∧ L < 1000 := by omega
  obtain ⟨a, ha⟩ : ∃ a, P.length = a := ⟨_, rfl⟩
  obtain ⟨x, hx⟩ : ∃ x, X.length = x := ⟨_, rfl⟩
  obtain ⟨y, hy⟩ : ∃ y, Y.length = y := ⟨_, rfl⟩
  rw [ha, hx, hy] at H0
  rw [ha] at hm hb ⊢
  rw [hx] at hm hb hx1
  rw [hy] at hb hy1
  clear HO hB hbase hl hx0 hy0 hL ha hx hy
  have w1 : IntKind.i64.wrap ((m : Int) - (a : Int)) = (x : Int) := by rw [IntKind.wrap_i64]; omega
  have w2 : IntKind.i64.wrap ((b : Int) - (m : Int)) = (y : Int) := by rw [IntKind.wrap_i64]; omega
  have H00 := Aside0.mk (show a + x = m ∧ m + y = b from ⟨by omega, by omega⟩)
  clear hm hb
  go_enter Try.func44, Try.ntmps44
  go_wp2
  clear w1 w2
  go_loopg [10, 11] (x + y) (fun gg s10 s11 wr => ∃ p i j : Nat, 0 < i ∧ 0 < j ∧ i + j ≤ gg ∧ Aside0 (p + i = m ∧ m + j ≤ b) ∧ s10 = .int .i64 i ∧ s11 = .int .i64 j ∧ Aside0 (Turning F p i j L (fun l => KI.R 3 wr base ok v l)) ∧ Aside0 (Below base w0 wr) ∧ Aside0 (base ≤ wr.heap.size) ∧ Aside0 (w.grownBy wr v.ownBlock))
  case atStart =>
    exact ⟨a, x, y, hx1, hy1, Nat.le_refl _, ⟨H00.out.1, by have := H00.out.2; omega⟩, rfl, rfl, H0, BB, BS, ⟨World.grownBy.refl _ _⟩⟩
  case round =>
    obtain ⟨p, i, j, hi, hj, hgi, HN, rfl, rfl, HT, HB1, HS1, HG1⟩ := hrel
    rcases Nat.lt_trichotomy i j with hlt | heq | hgt
    · have hcall := Aside0.mk (turn_less v f base ok w0 wr HB1.out HS1.out F p i j L hlb.2 hlt HT.out)
      have HM := HN.out.1
      have HM2 := HN.out.2
      obtain ⟨z, hz⟩ : ∃ z, m + j = z := ⟨_, rfl⟩
      obtain ⟨r, hr⟩ : ∃ r, p + j = r := ⟨_, rfl⟩
      rw [hr] at hcall
      have w1 : IntKind.i64.wrap ((m : Int) - (i : Int)) = (p : Int) := by rw [IntKind.wrap_i64]; omega
      have w2 : IntKind.i64.wrap ((m : Int) + (j : Int)) = (z : Int) := by rw [IntKind.wrap_i64]; omega
      have w3 : IntKind.i64.wrap ((z : Int) - (i : Int)) = (r : Int) := by rw [IntKind.wrap_i64]; omega
      have w4 : IntKind.i64.wrap ((j : Int) - (i : Int)) = ((j - i : Nat) : Int) := by rw [IntKind.wrap_i64]; omega
      have HR0 := Aside0.mk hr
      clear HM HM2 hz hr
      go_wp2_with (go_at_call 45; refine hcall.out.mono ?_; rintro e w1 ⟨rfl, ht1, hb1, hg1⟩; have HTN := Aside0.mk ht1; have HBN := Aside0.mk hb1; have HSN := Aside0.mk (Nat.le_trans HS1.out hg1.size); have HGN := Aside0.mk (HG1.out.trans hg1); clear hcall ht1 hb1 hg1)
      go_roundg (j)
      case measure => omega
      case rel => exact ⟨p, i, j - i, hi, by omega, by omega, ⟨HN.out.1, by have := HN.out.2; omega⟩, rfl, by go_num, HTN, HBN, HSN, HGN⟩
    · subst heq
      have hcall := Aside0.mk (turn_same v f base ok w0 wr HB1.out HS1.out F p i L hlb.2 HT.out)
      have HM := HN.out.1
      rw [HM] at hcall
      have w1 : IntKind.i64.wrap ((m : Int) - (i : Int)) = (p : Int) := by have := HN.out; rw [IntKind.wrap_i64]; omega
      clear HM
      go_wp2_with (go_at_call 45; refine hcall.out.mono ?_; rintro e w1 ⟨rfl, ht1, hb1, hg1⟩; have HTN := Aside0.mk ht1; have HBN := Aside0.mk hb1; have HGN := Aside0.mk (HG1.out.trans hg1); clear hcall ht1 hb1 hg1)
      go_end0
      exact ⟨rfl, HTN.out, HBN.out, HGN.out⟩
    · have hcall := Aside0.mk (turn_more v f base ok w0 wr HB1.out HS1.out F p i j L hlb.2 hgt HT.out)
      have HM := HN.out.1
      rw [HM] at hcall
      have w1 : IntKind.i64.wrap ((m : Int) - (i : Int)) = (p : Int) := by have := HN.out; rw [IntKind.wrap_i64]; omega
      have w4 : IntKind.i64.wrap ((i : Int) - (j : Int)) = ((i - j : Nat) : Int) := by have := HN.out; rw [IntKind.wrap_i64]; omega
      clear HM
      go_wp2_with (go_at_call 45; refine hcall.out.mono ?_; rintro e w1 ⟨rfl, ht1, hb1, hg1⟩; have HTN := Aside0.mk ht1; have HBN := Aside0.mk hb1; have HSN := Aside0.mk (Nat.le_trans HS1.out hg1.size); have HGN := Aside0.mk (HG1.out.trans hg1); clear hcall ht1 hb1 hg1)
      go_roundg (i)
      case measure => omega
      case rel => exact ⟨p + j, i - j, j, by omega, hj, by omega, ⟨by have := HN.out.1; omega, by have := HN.out.2; omega⟩, by go_num, rfl, HTN, HBN, HSN, HGN⟩
end Go.Proofs.Ytnlnglfjehohpaa.Q
