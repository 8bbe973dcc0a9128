import Derived.Test.YtnlnglfjehohpaaSI
namespace Go.Proofs.Ytnlnglfjehohpaa.Q
open Go.RowKit Go.Proofs.YtnlnglfjehohpaaW Go.Proofs.YtnlnglfjehohpaaW.PrintWords Go.Proofs.YtnlnglfjehohpaaW.PrintLast Go.Proofs.YtnlnglfjehohpaaW.PrintMore
set_option linter.unusedVariables false
set_option linter.unusedSimpArgs false
/-- Sorted blocks of s, the last one may be shorter. -/
inductive Bks (key : Int → Int) (s : Nat) : List Int → Prop
  | last (l : List Int) (hl : l.length ≤ s) (hs : Sorted key l) : Bks key s l
  | cons (x l : List Int) (hx : x.length = s) (hs : Sorted key x) (h : Bks key s l) : Bks key s (x ++ l)
/-- Whole blocks. -/
inductive Fks (key : Int → Int) (s : Nat) : List Int → Prop
  | nil : Fks key s []
  | app (T x : List Int) (h : Fks key s T) (hx : x.length = s) (hs : Sorted key x) : Fks key s (T ++ x)
theorem Fks.close {key s T} (h : Fks key s T) : ∀ {R}, Bks key s R → Bks key s (T ++ R) := by
  induction h with
  | nil => exact fun h => h
  | app T x h hx hs ih => intro R hR; rw [List.append_assoc]; exact ih (.cons x R hx hs hR)
theorem Bks.two {key s R} (h : Bks key s R) (hs : 0 < s) (hl : 2 * s ≤ R.length) : ∃ X Y R', R = X ++ (Y ++ R') ∧ X.length = s ∧ Y.length = s ∧ Sorted key X ∧ Sorted key Y ∧ Bks key s R' := by
  cases h with
  | last l hl2 _ => omega
  | cons x l hx hsx h =>
    rw [List.length_append] at hl
    cases h with
    | last l hl2 hsl => exact ⟨x, l, [], by simp, hx, by omega, hsx, hsl, .last [] (by simp) List.Pairwise.nil⟩
    | cons y l hy hsy h => exact ⟨x, y, l, rfl, hx, hy, hsx, hsy, h⟩
theorem Bks.most {key s R} (h : Bks key s R) (hl : R.length < 2 * s) : ∃ X Y, R = X ++ Y ∧ Sorted key X ∧ Sorted key Y ∧ (X.length = s ∨ Y = [] ∧ X.length < s) := by
  cases h with
  | last l hl2 hsl =>
    by_cases e : R.length = s
    · exact ⟨R, [], by simp, hsl, List.Pairwise.nil, .inl e⟩
    · exact ⟨R, [], by simp, hsl, List.Pairwise.nil, .inr ⟨rfl, by omega⟩⟩
  | cons x l hx hsx h =>
    rw [List.length_append] at hl
    cases h with
    | last l hl2 hsl => exact ⟨x, l, rfl, hsx, hsl, .inl hx⟩
    | cons y l hy hsy h => rw [List.length_append] at hl; omega
theorem Bks.whole {key s R} (h : Bks key s R) (hl : R.length ≤ s) : Sorted key R := by
  cases h with
  | last l hl2 hsl => exact hsl
  | cons x l hx hsx h =>
    rw [List.length_append] at hl
    have : l = [] := List.length_eq_zero_iff.1 (by omega)
    subst this
    simpa using hsx
/-- insertionSort and symMerge on a segment, in one form of world. -/
theorem ins_w {BX : Nat} {key : Int → Int} {dom : Int → Prop} {K : World → Prop} {A : Option Addr} {c L base : Nat} {ok : Nat → Prop} {w0 w W : World} (hC : CmpI 36 BX key dom (Value.slice A L c).ownBlock K) (hl : L < 1000) {P S Q : List Int} (hdom : ∀ x ∈ S, dom x)
    (h : Wr K A c L base ok w0 w (P ++ (S ++ Q)) W) (a b : Nat) (ha : P.length = a) (hb : a + S.length = b) :
    Calls Try.prog 42 #[.slice A L c, .int .i64 (a : Int), .int .i64 (b : Int), .func (.func 36) #[] #[.pointer (some ⟨BX, 0, none⟩)]] W fun e w' => e = .returned (.tuple #[]) ∧ ∃ T : List Int, T.Perm S ∧ Sorted key T ∧ Wr K A c L base ok w0 w (P ++ (T ++ Q)) w' := by
  have hh := insertion_ok BX key dom K A c L base ok w0 W hC h.k P S Q hdom h.row h.below h.size hl
  subst ha hb
  refine hh.mono ?_
  rintro e w' ⟨rfl, ⟨T, h1, h2, h3⟩, h4, h5⟩
  exact ⟨rfl, T, h1, h2, h3, h4, Nat.le_trans h.size h5.size, hC.lasts _ _ h.k h5, h.grown.trans h5⟩
theorem sym_w {BX : Nat} {key : Int → Int} {dom : Int → Prop} {K : World → Prop} {A : Option Addr} {c L base : Nat} {ok : Nat → Prop} {w0 w W : World} (hC : CmpI 36 BX key dom (Value.slice A L c).ownBlock K) (hl : L < 1000) {P X Y Q : List Int} (hdx : ∀ x ∈ X, dom x) (hdy : ∀ x ∈ Y, dom x) (hsx : Sorted key X) (hsy : Sorted key Y)
    (h : Wr K A c L base ok w0 w (P ++ (X ++ (Y ++ Q))) W) (a m b : Nat) (ha : P.length = a) (hm : a + X.length = m) (hb : m + Y.length = b) (hx0 : 0 < X.length) (hy0 : 0 < Y.length) :
    Calls Try.prog 43 #[.slice A L c, .int .i64 (a : Int), .int .i64 (m : Int), .int .i64 (b : Int), .func (.func 36) #[] #[.pointer (some ⟨BX, 0, none⟩)]] W fun e w' => e = .returned (.tuple #[]) ∧ ∃ T : List Int, T.Perm (X ++ Y) ∧ Sorted key T ∧ Wr K A c L base ok w0 w (P ++ (T ++ Q)) w' := by
  refine (sym_ok BX key dom K A c L base ok w0 hC hl _ W P X Y Q a m b h.k hdx hdy hsx hsy ha hm hb hx0 hy0 (Nat.le_refl _) h.row h.below h.size).mono ?_
  rintro e w' ⟨rfl, ⟨T, h1, h2, h3⟩, h4, h5⟩
  exact ⟨rfl, T, h1, h2, h3, h4, Nat.le_trans h.size h5.size, hC.lasts _ _ h.k h5, h.grown.trans h5⟩
/-- First loop: whole blocks of 20 behind, the rest ahead. -/
def Bl1 (key : Int → Int) (l0 : List Int) (a : Nat) (J : List Int → Prop) : Prop := ∃ T R : List Int, (T ++ R).Perm l0 ∧ Fks key 20 T ∧ T.length = a ∧ J (T ++ R)
/-- Second loop, inside: whole blocks of 2 s behind, blocks of s ahead. -/
def Bl2 (key : Int → Int) (l0 : List Int) (s a : Nat) (J : List Int → Prop) : Prop := ∃ T R : List Int, (T ++ R).Perm l0 ∧ Fks key (2 * s) T ∧ Bks key s R ∧ T.length = a ∧ J (T ++ R)
def Bl3 (key : Int → Int) (l0 : List Int) (s : Nat) (J : List Int → Prop) : Prop := ∃ R : List Int, R.Perm l0 ∧ Bks key s R ∧ J R
theorem perm3 {P X X' Q l0 : List Int} (h : (P ++ (X ++ Q)).Perm l0) (hx : X'.Perm X) : (P ++ (X' ++ Q)).Perm l0 := (List.Perm.append_left _ (List.Perm.append_right _ hx)).trans h
set_option maxRecDepth 100000 in
set_option maxHeartbeats 3200000 in
theorem stable_ok (BX : Nat) (key : Int → Int) (dom : Int → Prop) (K : World → Prop) (A : Option Addr) (c L base : Nat) (ok : Nat → Prop) (w0 w : World) (hC : CmpI 36 BX key dom (Value.slice A L c).ownBlock K) (hl : L < 1000) (l0 : List Int) (hdom : ∀ x ∈ l0, dom x) (hW : Wr K A c L base ok w0 w l0 w) :
    Calls Try.prog 40 #[.slice A L c, .int .i64 (L : Int), .func (.func 36) #[] #[.pointer (some ⟨BX, 0, none⟩)]] w fun e w' => e = .returned (.tuple #[]) ∧ ∃ T : List Int, T.Perm l0 ∧ Sorted key T ∧ Wr K A c L base ok w0 w T w' := by
  have hlen : l0.length = L := (Kd.R_reads' hW.row).1.symm
  have HL := Aside0.mk hlen
  have HC := Aside0.mk hC
  have HD := Aside0.mk hdom
  have HS := Aside0.mk (show Bl1 key l0 0 (fun l => Wr K A c L base ok w0 w l w) from ⟨[], l0, .refl _, .nil, rfl, hW⟩)
  clear hlen hC hdom hW
  go_enter Try.func40, Try.ntmps40
  go_wp2
  go_loopg [7, 8] (L) (fun gg s7 s8 wr => ∃ a b : Nat, a ≤ L ∧ L - a ≤ gg ∧ a + 20 = b ∧ s7 = .int .i64 a ∧ s8 = .int .i64 b ∧ Aside0 (Bl1 key l0 a (fun l => Wr K A c L base ok w0 w l wr)))
  case atStart => exact ⟨0, 20, Nat.zero_le _, by omega, rfl, rfl, rfl, HS⟩
  case round =>
    clear HS
    obtain ⟨a, b, haL, hgg, hab, rfl, rfl, HB⟩ := hrel
    by_cases hlt : b ≤ L
    · have q1 : ((b : Int) ≤ (L : Int)) = True := eq_true (by omega)
      obtain ⟨T, R, hp, hT, hl1, hw⟩ := HB.out
      have hTR := hp.length_eq
      rw [HL.out, List.length_append] at hTR
      obtain ⟨X, R', rfl, hX⟩ := take_cut R 20 (by omega)
      have HCALL := Aside0.mk (ins_w HC.out hl (P := T) (S := X) (Q := R') (fun x hx => HD.out x (hp.subset (by simp [hx]))) hw a b hl1 (by omega))
      have HN := Aside0.mk (fun (W : World) (X' : List Int) (h1 : X'.Perm X) (h2 : Sorted key X') (h3 : Wr K A c L base ok w0 w (T ++ (X' ++ R')) W) => (show Bl1 key l0 b (fun l => Wr K A c L base ok w0 w l W) from ⟨T ++ X', R', by rw [List.append_assoc]; exact perm3 hp h1, .app T X' hT (by rw [h1.length_eq]; exact hX) h2, by rw [List.length_append, h1.length_eq]; omega, by rw [List.append_assoc]; exact h3⟩))
      clear hp hT hl1 hw hTR hX HB
      have w1 : IntKind.i64.wrap ((b : Int) + 20) = ((b + 20 : Nat) : Int) := by rw [IntKind.wrap_i64]; omega
      go_upto_region 3 with (fail)
      go_wp2_with (go_at_call 42; refine HCALL.out.mono ?_; rintro e w1 ⟨rfl, X', h1, h2, h3⟩; have HBN := Aside0.mk (HN.out _ X' h1 h2 h3); clear HCALL HN h1 h2 h3)
      go_roundg (L - b)
      case measure => omega
      case rel => exact ⟨b, b + 20, hlt, Nat.le_refl _, rfl, by go_num, by go_num, HBN⟩
    · have q1 : ((b : Int) ≤ (L : Int)) = False := eq_false (by omega)
      obtain ⟨T, R, hp, hT, hl1, hw⟩ := HB.out
      have hTR := hp.length_eq
      rw [HL.out, List.length_append] at hTR
      have HCALL := Aside0.mk (ins_w HC.out hl (P := T) (S := R) (Q := []) (fun x hx => HD.out x (hp.subset (by simp [hx]))) (by simpa only [List.append_nil] using hw) a L hl1 (by omega))
      have HN := Aside0.mk (fun (W : World) (X' : List Int) (h1 : X'.Perm R) (h2 : Sorted key X') (h3 : Wr K A c L base ok w0 w (T ++ (X' ++ [])) W) => (show Bl3 key l0 20 (fun l => Wr K A c L base ok w0 w l W) from ⟨T ++ X', by have := perm3 (Q := []) (by simpa only [List.append_nil] using hp) h1; simpa only [List.append_nil] using this, hT.close (.last X' (by rw [h1.length_eq]; omega) h2), by simpa only [List.append_nil] using h3⟩))
      clear hp hT hl1 hw hTR HB
      go_upto_region 6 with (fail)
      clear q1 hlt hab haL hgg
      go_wp2_with (go_at_call 42; refine HCALL.out.mono ?_; rintro e w1 ⟨rfl, X', h1, h2, h3⟩; have HBN := Aside0.mk (HN.out _ X' h1 h2 h3); clear HCALL HN h1 h2 h3)
      go_loopg [6, 7, 8, 9] (1000) (fun gg s6 s7 s8 s9 wr => ∃ s : Nat, 20 ≤ s ∧ s < 2000 ∧ 1000 - s ≤ gg ∧ s6 = .int .i64 s ∧ Aside0 (Bl3 key l0 s (fun l => Wr K A c L base ok w0 w l wr)))
      case atStart => exact ⟨20, by omega, by omega, by omega, rfl, HBN⟩
      case round =>
        clear HBN
        obtain ⟨s, hs1, hs2, hgs, rfl, HB⟩ := hrel
        by_cases hlt : s < L
        · have q1 : ((s : Int) < (L : Int)) = True := eq_true (by omega)
          obtain ⟨ss, hss⟩ : ∃ ss, 2 * s = ss := ⟨_, rfl⟩
          have m1 : IntKind.i64.wrap (2 * (s : Int)) = (ss : Int) := by rw [IntKind.wrap_i64]; omega
          have HB2 := Aside0.mk (show Bl2 key l0 s 0 (fun l => Wr K A c L base ok w0 w l wr) from HB.out.elim fun R h => ⟨[], R, h.1, .nil, h.2.1, rfl, h.2.2⟩)
          clear HB
          go_upto_region 8 with (fail)
          go_wp2
          go_loopg [7, 8] (L) (fun gg s7 s8 wr => ∃ a b : Nat, a ≤ L ∧ L - a ≤ gg ∧ a + ss = b ∧ s7 = .int .i64 a ∧ s8 = .int .i64 b ∧ Aside0 (Bl2 key l0 s a (fun l => Wr K A c L base ok w0 w l wr)))
          case atStart => exact ⟨0, ss, Nat.zero_le _, by omega, by omega, rfl, by go_num, HB2⟩
          case round =>
            clear HB2
            obtain ⟨a, b, haL, hgg, hab, rfl, rfl, HB⟩ := hrel
            obtain ⟨T, R, hp, hT, hR, hl1, hw⟩ := HB.out
            have hTR := hp.length_eq
            rw [HL.out, List.length_append] at hTR
            obtain ⟨m, hm⟩ : ∃ m, a + s = m := ⟨_, rfl⟩
            have w1 : IntKind.i64.wrap ((a : Int) + (s : Int)) = (m : Int) := by rw [IntKind.wrap_i64]; omega
            by_cases hlt2 : b ≤ L
            · have q2 : ((b : Int) ≤ (L : Int)) = True := eq_true (by omega)
              obtain ⟨X, Y, R', rfl, hX, hY, hsX, hsY, hR'⟩ := hR.two (by omega) (by omega)
              have HCALL := Aside0.mk (sym_w HC.out hl (P := T) (X := X) (Y := Y) (Q := R') (fun x hx => HD.out x (hp.subset (by simp [hx]))) (fun x hx => HD.out x (hp.subset (by simp [hx]))) hsX hsY hw a m b hl1 (by omega) (by omega) (by omega) (by omega))
              have HN := Aside0.mk (fun (W : World) (X' : List Int) (h1 : X'.Perm (X ++ Y)) (h2 : Sorted key X') (h3 : Wr K A c L base ok w0 w (T ++ (X' ++ R')) W) => (show Bl2 key l0 s b (fun l => Wr K A c L base ok w0 w l W) from ⟨T ++ X', R', by rw [List.append_assoc]; exact perm3 (X := X ++ Y) (by simpa only [List.append_assoc] using hp) h1, .app T X' hT (by rw [h1.length_eq, List.length_append]; omega) h2, hR', by rw [List.length_append, h1.length_eq, List.length_append]; omega, by rw [List.append_assoc]; exact h3⟩))
              clear hp hT hl1 hw hTR hX hY hsX hsY hR' HB hR
              have w2 : IntKind.i64.wrap ((b : Int) + (ss : Int)) = ((b + ss : Nat) : Int) := by rw [IntKind.wrap_i64]; omega
              go_upto_region 10 with (fail)
              go_wp2_with (go_at_call 43; refine HCALL.out.mono ?_; rintro e w1 ⟨rfl, X', h1, h2, h3⟩; have HBN := Aside0.mk (HN.out _ X' h1 h2 h3); clear HCALL HN h1 h2 h3)
              go_roundg (L - b)
              case measure => omega
              case rel => exact ⟨b, b + ss, hlt2, Nat.le_refl _, rfl, by go_num, by go_num, HBN⟩
            · have q2 : ((b : Int) ≤ (L : Int)) = False := eq_false (by omega)
              obtain ⟨X, Y, rfl, hsX, hsY, hXY⟩ := hR.most (by omega)
              rw [List.length_append] at hTR
              have HN := Aside0.mk (fun (W : World) (X' : List Int) (h1 : X'.Perm (X ++ Y)) (h2 : Sorted key X') (h3 : Wr K A c L base ok w0 w (T ++ (X' ++ [])) W) => (show Bl3 key l0 ss (fun l => Wr K A c L base ok w0 w l W) from ⟨T ++ X', by have := perm3 (Q := []) (by simpa only [List.append_nil] using hp) h1; simpa only [List.append_nil] using this, hss ▸ hT.close (.last X' (by rw [h1.length_eq, List.length_append]; omega) h2), by simpa only [List.append_nil] using h3⟩))
              go_upto_if 54 with (fail)
              go_cut [54] from 63 (fun _ wc => Aside0 (Bl3 key l0 ss (fun l => Wr K A c L base ok w0 w l wc)))
              case first =>
                by_cases hml : m < L
                · have q3 : ((m : Int) < (L : Int)) = True := eq_true (by omega)
                  have hXs : X.length = s := by
                    rcases hXY with h | ⟨h, h'⟩
                    · exact h
                    · subst h; simp at hTR; omega
                  have hYs : 0 < Y.length := by omega
                  have HCALL := Aside0.mk (sym_w HC.out hl (P := T) (X := X) (Y := Y) (Q := []) (fun x hx => HD.out x (hp.subset (by simp [hx]))) (fun x hx => HD.out x (hp.subset (by simp [hx]))) hsX hsY (by simpa only [List.append_nil] using hw) a m L hl1 (by omega) (by omega) (by omega) hYs)
                  clear hXs hYs hp hT hl1 hw hTR hsX hsY hXY HB hR
                  go_wp2_with (go_at_call 43; refine HCALL.out.mono ?_; rintro e w1 ⟨rfl, X', h1, h2, h3⟩; have HBN := Aside0.mk (HN.out _ X' h1 h2 h3); clear HCALL HN h1 h2 h3)
                  go_meet
                  exact HBN
                · have q3 : ((m : Int) < (L : Int)) = False := eq_false (by omega)
                  have hY0 : Y = [] := by
                    rcases hXY with h | ⟨h, _⟩
                    · exact List.length_eq_zero_iff.1 (by omega)
                    · exact h
                  subst hY0
                  have HBN := Aside0.mk (HN.out _ X (by simp) hsX (by simpa only [List.append_nil] using hw))
                  clear hp hT hl1 hw hTR hsX hsY hXY HB hR HN
                  go_wp2
                  go_meet
                  exact HBN
              case rest =>
                clear hp hT hl1 hw hTR hsX hsY hXY HB hR HN q2 w1
                have m2 : IntKind.i64.wrap ((s : Int) * 2) = (ss : Int) := by rw [IntKind.wrap_i64]; omega
                go_upto_region 16 with (fail)
                go_wp2
                go_roundg (1000 - ss)
                case measure => omega
                case rel => exact ⟨ss, by omega, by omega, Nat.le_refl _, by go_num, hcut⟩
        · have q1 : ((s : Int) < (L : Int)) = False := eq_false (by omega)
          obtain ⟨R, hp, hR, hw⟩ := HB.out
          have HFIN := Aside0.mk (show ∃ T : List Int, T.Perm l0 ∧ Sorted key T ∧ Wr K A c L base ok w0 w T wr from ⟨R, hp, hR.whole (by rw [hp.length_eq, HL.out]; omega), hw⟩)
          clear hp hR hw HB
          go_wp2
          go_end0
          exact ⟨rfl, HFIN.out⟩
end Go.Proofs.Ytnlnglfjehohpaa.Q
