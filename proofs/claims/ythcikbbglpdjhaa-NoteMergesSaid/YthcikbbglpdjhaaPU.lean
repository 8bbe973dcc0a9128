/- Notes and bytes, in plain words: what is read is what was laid. No condition. -/
import Derived.Test.YthcikbbglpdjhaaRP
namespace Go.Proofs.Ythcikbbglpdjhaa.Q
open Go.RowKit Go.Proofs.YthcikbbglpdjhaaW Go.Proofs.YthcikbbglpdjhaaW.PrintWords Go.Proofs.YthcikbbglpdjhaaW.PrintLast Go.Proofs.YthcikbbglpdjhaaW.PrintMore
set_option linter.unusedVariables false
set_option linter.unusedSimpArgs false
abbrev Rdr (α : Type) := List Int → Except Int (α × List Int)
def pBind {α β : Type} (p : Rdr α) (f : α → Rdr β) : Rdr β := fun l => match p l with
  | .ok (x, r) => f x r
  | .error e => .error e
def pRet {α : Type} (x : α) : Rdr α := fun l => .ok (x, l)
def pFail {α : Type} (e : Int) : Rdr α := fun _ => .error e
theorem pBind_ok {α β : Type} {p : Rdr α} {f : α → Rdr β} {l r : List Int} {x : α} (h : p l = .ok (x, r)) : pBind p f l = f x r := by unfold pBind; rw [h]
def pTake (n : Nat) : Rdr (List Int) := fun l => if l.length < n then .error 2 else .ok (l.take n, l.drop n)
theorem pMany_eq : pMany = pBind (pNum 2) (fun m => if 256 < m then pFail 3 else pRet m) := by
  funext l
  unfold pMany pBind
  cases pNum 2 l with
  | ok a => obtain ⟨m, r⟩ := a; dsimp only; split <;> rfl
  | error e => rfl
theorem pImage_eq : pImage = pBind (pNum 1) (fun k => pBind (pTake 32) (fun d => pRet ⟨k, d⟩)) := by
  funext l
  unfold pImage pBind
  cases pNum 1 l with
  | ok a => obtain ⟨m, r⟩ := a; dsimp only; unfold pTake; split <;> rfl
  | error e => rfl
theorem pOp_eq : pOp = pBind (pNum 1) (fun c => pBind (pTake 8) (fun d => pRet ⟨c, wrap64 (leN d)⟩)) := by
  funext l
  unfold pOp pBind
  cases pNum 1 l with
  | ok a => obtain ⟨m, r⟩ := a; dsimp only; unfold pTake; split <;> rfl
  | error e => rfl
theorem pSome_succ {α : Type} (p : Rdr α) (n : Nat) : pSome p (n + 1) = pBind p (fun x => pBind (pSome p n) (fun xs => pRet (x :: xs))) := by
  funext l
  rw [pSome]
  unfold pBind
  cases p l with
  | ok a =>
    obtain ⟨x, r⟩ := a
    dsimp only
    cases pSome p n r with
    | ok b => rfl
    | error e => rfl
  | error e => rfl
def pAll : Rdr (Int × Int × List S44 × List S46) := pBind (pNum 1) fun k => pBind (pNum 6) fun s => pBind pMany fun m => pBind (pSome pImage m.toNat) fun im => pBind pMany fun q => pBind (pSome pOp q.toNat) fun os => pRet (k, s, im, os)
theorem pNote_eq (l : List Int) : pNote l = match pAll l with | .ok (a, r) => (if r = [] then (if saneN a.1 a.2.1 a.2.2.1 a.2.2.2 = true then .ok a else .error 3) else .error 3) | .error e => .error e := by
  unfold pNote pAll pBind
  cases pNum 1 l with
  | error e => rfl
  | ok a1 =>
    obtain ⟨k, l1⟩ := a1
    dsimp only
    cases pNum 6 l1 with
    | error e => rfl
    | ok a2 =>
      obtain ⟨s, l2⟩ := a2
      dsimp only
      unfold pN1
      cases pMany l2 with
      | error e => rfl
      | ok a3 =>
        obtain ⟨m, l3⟩ := a3
        dsimp only
        cases pSome pImage m.toNat l3 with
        | error e => rfl
        | ok a4 =>
          obtain ⟨im, l4⟩ := a4
          dsimp only
          unfold pN1b pN2
          dsimp only
          cases pMany l4 with
          | error e => rfl
          | ok a5 =>
            obtain ⟨q, l5⟩ := a5
            dsimp only
            cases pSome pOp q.toNat l5 with
            | error e => rfl
            | ok a6 => obtain ⟨os, l6⟩ := a6; rfl
/-! What is laid. -/
def le : Nat → Int → List Int
  | 0, _ => []
  | n + 1, x => x % 256 :: le n (x / 256)
theorem le_length : ∀ (n : Nat) (x : Int), (le n x).length = n
  | 0, _ => rfl
  | n + 1, x => by rw [le, List.length_cons, le_length n]
theorem leN_le : ∀ (n : Nat) (x : Int), 0 ≤ x → x < (256 : Int) ^ n → leN (le n x) = x
  | 0, x, h0, h1 => by rw [Int.pow_zero] at h1; show (0 : Int) = x; omega
  | n + 1, x, h0, h1 => by
    rw [Int.pow_succ] at h1
    have ih := leN_le n (x / 256) (by omega) (by omega)
    rw [le, leN, ih]
    omega
theorem le_bytes : ∀ (n : Nat) (x : Int), ∀ y ∈ le n x, byteB y
  | 0, _, y, hy => by simp [le] at hy
  | n + 1, x, y, hy => by
    rw [le, List.mem_cons] at hy
    rcases hy with rfl | hy
    · unfold byteB; omega
    · exact le_bytes n _ y hy
def layI (x : S44) : List Int := x.f0 % 256 :: x.f1
def layO (x : S46) : List Int := x.f0 % 256 :: le 8 (IntKind.u64.wrap x.f1)
def encN (k s : Int) (im : List S44) (os : List S46) : List Int := k % 256 :: (le 6 s ++ (le 2 (im.length : Int) ++ (im.flatMap layI ++ (le 2 (os.length : Int) ++ os.flatMap layO))))
theorem pNum_lay (n : Nat) (x : Int) (r : List Int) (h0 : 0 ≤ x) (h1 : x < (256 : Int) ^ n) : pNum n (le n x ++ r) = .ok (x, r) := by
  unfold pNum
  rw [if_neg (by rw [List.length_append, le_length]; omega), List.take_left' (le_length n x), List.drop_left' (le_length n x), leN_le n x h0 h1]
theorem pTake_lay (d r : List Int) : pTake d.length (d ++ r) = .ok (d, r) := by
  unfold pTake
  rw [if_neg (by rw [List.length_append]; omega), List.take_left' rfl, List.drop_left' rfl]
theorem wrap_forth (v : Int) (h0 : -9223372036854775808 ≤ v) (h1 : v < 9223372036854775808) : wrap64 (IntKind.u64.wrap v) = v := by rw [IntKind.wrap_u64]; unfold wrap64; omega
theorem p256_8 : (256 : Int) ^ 8 = 18446744073709551616 := by decide
theorem p256_6 : (256 : Int) ^ 6 = 281474976710656 := by decide
theorem p256_2 : (256 : Int) ^ 2 = 65536 := by decide
theorem le_one (x : Int) : le 1 x = [x % 256] := rfl
theorem pImage_lay (x : S44) (r : List Int) (h0 : 0 ≤ x.f0) (h1 : x.f0 < 256) (hd : x.f1.length = 32) : pImage (layI x ++ r) = .ok (x, r) := by
  rw [pImage_eq]
  have e : layI x ++ r = le 1 x.f0 ++ (x.f1 ++ r) := rfl
  rw [e, pBind_ok (pNum_lay 1 x.f0 _ h0 h1), ← hd, pBind_ok (pTake_lay x.f1 r)]
  rfl
theorem pOp_lay (x : S46) (r : List Int) (h0 : 0 ≤ x.f0) (h1 : x.f0 < 256) (h2 : -9223372036854775808 ≤ x.f1) (h3 : x.f1 < 9223372036854775808) : pOp (layO x ++ r) = .ok (x, r) := by
  rw [pOp_eq]
  have e : layO x ++ r = le 1 x.f0 ++ (le 8 (IntKind.u64.wrap x.f1) ++ r) := rfl
  have hq := pTake_lay (le 8 (IntKind.u64.wrap x.f1)) r
  rw [le_length] at hq
  rw [e, pBind_ok (pNum_lay 1 x.f0 _ h0 h1), pBind_ok hq, leN_le 8 _ (by rw [IntKind.wrap_u64]; omega) (by rw [p256_8, IntKind.wrap_u64]; omega), wrap_forth _ h2 h3]
  rfl
theorem pSome_lay {α : Type} {p : Rdr α} {lay : α → List Int} : ∀ (xs : List α) (r : List Int), (∀ x ∈ xs, ∀ r, p (lay x ++ r) = .ok (x, r)) → pSome p xs.length (xs.flatMap lay ++ r) = .ok (xs, r)
  | [], r, _ => rfl
  | x :: xs, r, h => by
    rw [List.length_cons, pSome_succ, List.flatMap_cons, List.append_assoc, pBind_ok (h x List.mem_cons_self _), pBind_ok (pSome_lay xs r (fun y hy => h y (List.mem_cons_of_mem _ hy)))]
    rfl
theorem pMany_lay (m : Nat) (r : List Int) (h : m ≤ 256) : pMany (le 2 (m : Int) ++ r) = .ok ((m : Int), r) := by
  rw [pMany_eq, pBind_ok (pNum_lay 2 _ _ (by omega) (by rw [p256_2]; omega)), if_neg (by omega)]
  rfl
theorem saneN_parts {k s : Int} {im : List S44} {os : List S46} (h : saneN k s im os = true) : 0 ≤ s ∧ s ≤ 1099511627776 ∧ (k = 2 ∧ im = [] ∧ os = [] ∨ k = 1 ∧ goodI (-1) im = true ∧ im.length ≤ 256 ∧ os.length ≤ 256 ∧ ∀ o ∈ os, badO o = false) := by
  unfold saneN at h
  simp only [Bool.and_eq_true, decide_eq_true_eq] at h
  obtain ⟨⟨h1, h2⟩, h⟩ := h
  refine ⟨h1, h2, ?_⟩
  split at h
  · rename_i hk
    rw [decide_eq_true_eq] at h
    exact Or.inl ⟨hk, List.length_eq_zero_iff.1 (by omega), List.length_eq_zero_iff.1 (by omega)⟩
  · split at h
    · rename_i hk
      simp only [Bool.and_eq_true, decide_eq_true_eq, Bool.not_eq_true', List.any_eq_false] at h
      exact Or.inr ⟨hk, h.1.1, h.1.2, h.2.1, fun o ho => by simpa using h.2.2 o ho⟩
    · cases h
theorem goodI_mem : ∀ (im : List S44) (last : Int), goodI last im = true → ∀ x ∈ im, last < x.f0 ∧ x.f0 < 256 ∧ x.f1.length = 32
  | [], _, _, x, hx => by cases hx
  | y :: r, last, h, x, hx => by
    unfold goodI at h
    simp only [Bool.and_eq_true, decide_eq_true_eq] at h
    obtain ⟨⟨⟨h1, h2⟩, h3⟩, h4⟩ := h
    rcases List.mem_cons.1 hx with rfl | hx
    · exact ⟨h1, h2, h3⟩
    · obtain ⟨a, b⟩ := goodI_mem r y.f0 h4 x hx
      exact ⟨by omega, b⟩
def wfO (x : S46) : Prop := -9223372036854775808 ≤ x.f1 ∧ x.f1 < 9223372036854775808
/-- THERE AND BACK. -/
theorem pAll_lay {k s : Int} {im : List S44} {os : List S46} (r : List Int) (h : saneN k s im os = true) (ho : ∀ o ∈ os, wfO o) : pAll (encN k s im os ++ r) = .ok ((k, s, im, os), r) := by
  obtain ⟨s0, s1, hh⟩ := saneN_parts h
  have hk : 0 ≤ k ∧ k < 256 := by rcases hh with ⟨rfl, _⟩ | ⟨rfl, _⟩ <;> omega
  have hi : im.length ≤ 256 ∧ ∀ x ∈ im, 0 ≤ x.f0 ∧ x.f0 < 256 ∧ x.f1.length = 32 := by
    rcases hh with ⟨_, rfl, _⟩ | ⟨_, hg, hl, _⟩
    · exact ⟨by simp, fun x hx => by cases hx⟩
    · exact ⟨hl, fun x hx => by obtain ⟨a, b⟩ := goodI_mem im _ hg x hx; exact ⟨by omega, b⟩⟩
  have hq : os.length ≤ 256 ∧ ∀ x ∈ os, 0 ≤ x.f0 ∧ x.f0 < 256 := by
    rcases hh with ⟨_, _, rfl⟩ | ⟨_, _, _, hl, hb⟩
    · exact ⟨by simp, fun x hx => by cases hx⟩
    · refine ⟨hl, fun x hx => ?_⟩
      have := hb x hx
      unfold badO at this
      simp only [Bool.or_eq_false_iff, decide_eq_false_iff_not] at this
      omega
  have e : encN k s im os ++ r = le 1 k ++ (le 6 s ++ (le 2 (im.length : Int) ++ (im.flatMap layI ++ (le 2 (os.length : Int) ++ (os.flatMap layO ++ r))))) := by
    unfold encN
    simp [le_one]
  have h3 := pSome_lay (p := pImage) (lay := layI) im (le 2 (os.length : Int) ++ (os.flatMap layO ++ r)) (fun x hx r => pImage_lay x r (hi.2 x hx).1 (hi.2 x hx).2.1 (hi.2 x hx).2.2)
  have h4 := pSome_lay (p := pOp) (lay := layO) os r (fun x hx r => pOp_lay x r (hq.2 x hx).1 (hq.2 x hx).2 (ho x hx).1 (ho x hx).2)
  unfold pAll
  rw [e, pBind_ok (pNum_lay 1 k _ hk.1 hk.2), pBind_ok (pNum_lay 6 s _ s0 (by rw [p256_6]; omega)), pBind_ok (pMany_lay im.length _ hi.1), Int.toNat_natCast, pBind_ok h3, pBind_ok (pMany_lay os.length _ hq.1), Int.toNat_natCast, pBind_ok h4]
  rfl
theorem pNote_lay {k s : Int} {im : List S44} {os : List S46} (h : saneN k s im os = true) (ho : ∀ o ∈ os, wfO o) : pNote (encN k s im os) = .ok (k, s, im, os) := by
  have := pAll_lay [] h ho
  rw [List.append_nil] at this
  rw [pNote_eq, this]
  dsimp only
  rw [if_pos rfl, if_pos h]
theorem sane_data {k s : Int} {im : List S44} {os : List S46} (h : saneN k s im os = true) : (∀ x ∈ im, x.f1.length = 32) ∧ im.length ≤ 256 ∧ os.length ≤ 256 := by
  obtain ⟨_, _, ⟨_, rfl, rfl⟩ | ⟨_, hg, hl, hl2, _⟩⟩ := saneN_parts h
  · exact ⟨fun x hx => (by cases hx), by simp, by simp⟩
  · exact ⟨fun x hx => (goodI_mem im _ hg x hx).2.2, hl, hl2⟩
end Go.Proofs.Ythcikbbglpdjhaa.Q
