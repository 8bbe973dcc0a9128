/- What Encode lays, and the document's example. No condition. -/
import Derived.Test.YthcikbbglpdjhaaQ4
import Derived.Test.YthcikbbglpdjhaaQ5
import Derived.Test.YthcikbbglpdjhaaPU
namespace Go.Proofs.Ythcikbbglpdjhaa.Q
open Go.RowKit Go.Proofs.YthcikbbglpdjhaaW Go.Proofs.YthcikbbglpdjhaaW.PrintWords Go.Proofs.YthcikbbglpdjhaaW.PrintLast Go.Proofs.YthcikbbglpdjhaaW.PrintMore
set_option linter.unusedVariables false
set_option linter.unusedSimpArgs false
theorem put_go : ∀ (n i : Nat) (x : Int) (acc : List Int), acc.length + n ≤ 1000000000 → i + n ≤ 8 → Evals (fun k => wire_Put.l0 k x acc (((i + n : Nat) : Int)) (i : Int)) (acc ++ le n x)
  | 0, i, x, acc, h, h8 => by
    refine Evals.succ (Evals.of fun k => ?_)
    rw [wire_Put.l0, if_neg (by omega), le, List.append_nil]
  | n + 1, i, x, acc, h, h8 => by
    have ih := put_go n (i + 1) (x / 256) (acc ++ [x % 256]) (by rw [List.length_append, List.length_singleton]; omega) (by omega)
    have e1 : wrap64 ((i : Int) + 1) = ((i + 1 : Nat) : Int) := by rw [w64_of (by omega) (by omega)]; omega
    have e2 : (((i + (n + 1) : Nat) : Int)) = ((i + 1 + n : Nat) : Int) := by omega
    rw [le, List.append_cons acc (x % 256) (le n (x / 256))]
    refine Evals.succ (Evals.congr (fun k => ?_) ih)
    rw [wire_Put.l0, if_pos (by omega), if_pos (by omega), e1, e2]
theorem put_ev (n : Nat) (x : Int) (l : List Int) (h : l.length ≤ 900000000) (h8 : n ≤ 8) : Evals (fun k => wire_Put.f k l x (n : Int)) (l ++ le n x) := by
  have hc : bytes_Clone.f l = some l := by unfold bytes_Clone.f; rw [if_pos (by omega)]
  have hm : mn (n : Int) 8 = (n : Int) := by unfold mn; split <;> omega
  have hg := put_go n 0 x l (by omega) (by omega)
  refine Evals.congr (fun k => ?_) hg
  unfold wire_Put.f
  rw [hc, Option.bind_some, hm, Nat.zero_add]
  rfl
theorem signed_ev (x : Int) (l : List Int) (h : l.length ≤ 900000000) : Evals (fun k => wire_Signed.f k l x) (l ++ le 8 (IntKind.u64.wrap x)) := by
  unfold wire_Signed.f
  exact Evals.bind (put_ev 8 (IntKind.u64.wrap x) l h (by omega)) (Evals.of fun _ => rfl)
theorem enc_ops (os : List S46) (hl : os.length ≤ 256) : ∀ (n i : Nat) (acc : List Int), i + n = os.length → acc.length + 9 * n ≤ 1000000 → Evals (fun k => note_Encode.l1 k acc os (os.length : Int) (i : Int)) (acc ++ (os.drop i).flatMap layO, 0)
  | 0, i, acc, hi, h => by
    refine Evals.succ (Evals.of fun k => ?_)
    rw [note_Encode.l1, if_neg (by omega), List.drop_eq_nil_of_le (by omega), List.flatMap_nil, List.append_nil]
  | n + 1, i, acc, hi, h => by
    have hil : i < os.length := by omega
    have hs := signed_ev (os[i]).f1 (acc ++ [(os[i]).f0 % 256]) (by rw [List.length_append, List.length_singleton]; omega)
    have ih := enc_ops os hl n (i + 1) (acc ++ [(os[i]).f0 % 256] ++ le 8 (IntKind.u64.wrap (os[i]).f1)) (by omega) (by rw [List.length_append, List.length_append, List.length_singleton, le_length]; omega)
    have e1 : wrap64 ((i : Int) + 1) = ((i + 1 : Nat) : Int) := by rw [w64_of (by omega) (by omega)]; omega
    have e2 : acc ++ (os.drop i).flatMap layO = acc ++ [(os[i]).f0 % 256] ++ le 8 (IntKind.u64.wrap (os[i]).f1) ++ (os.drop (i + 1)).flatMap layO := by
      rw [List.drop_eq_getElem_cons hil, List.flatMap_cons, layO]; simp
    rw [e2]
    have c1 : (i : Int) < (os.length : Int) := by omega
    have c2 : (0 : Int) ≤ (i : Int) := by omega
    have c3 : acc.length < 140737488355328 := by omega
    refine Evals.succ ?_
    simp only [note_Encode.l1, if_pos c1, if_pos c2, if_pos c3, rd46_at os i hil, e1]
    exact Evals.bind hs ih
theorem enc_imgs (L : List S44) (os : List S46) (hl : L.length ≤ 256) (ho : os.length ≤ 256) (hd : ∀ x ∈ L, x.f1.length = 32) (a b : Int) (L2 : List S44) : ∀ (n i : Nat) (acc : List Int), i + n = L.length → acc.length + 33 * n ≤ 100000 →
    Evals (fun k => note_Encode.l0 k acc L (L.length : Int) (i : Int) a b L2 os) (acc ++ (L.drop i).flatMap layI ++ (le 2 (os.length : Int) ++ os.flatMap layO), 0)
  | 0, i, acc, hi, h => by
    have e0 : IntKind.u64.wrap ((os.length : Int)) = (os.length : Int) := by rw [IntKind.wrap_u64]; omega
    have hp := put_ev 2 (os.length : Int) acc (by omega) (by omega)
    have hq := enc_ops os ho os.length 0 (acc ++ le 2 (os.length : Int)) (by omega) (by rw [List.length_append, le_length]; omega)
    rw [List.drop_eq_nil_of_le (by omega), List.flatMap_nil, List.append_nil, ← List.append_assoc]
    rw [List.drop_zero] at hq
    have c1 : ¬ (i : Int) < (L.length : Int) := by omega
    refine Evals.succ ?_
    simp only [note_Encode.l0, if_neg c1, e0]
    exact Evals.bind hp hq
  | n + 1, i, acc, hi, h => by
    have hil : i < L.length := by omega
    have h32 := hd L[i] (List.getElem_mem hil)
    have ih := enc_imgs L os hl ho hd a b L2 n (i + 1) (acc ++ [(L[i]).f0 % 256] ++ (L[i]).f1) (by omega) (by rw [List.length_append, List.length_append, List.length_singleton, h32]; omega)
    have e1 : wrap64 ((i : Int) + 1) = ((i + 1 : Nat) : Int) := by rw [w64_of (by omega) (by omega)]; omega
    have e2 : acc ++ (L.drop i).flatMap layI = acc ++ [(L[i]).f0 % 256] ++ (L[i]).f1 ++ (L.drop (i + 1)).flatMap layI := by
      rw [List.drop_eq_getElem_cons hil, List.flatMap_cons, layI]; simp
    rw [e2]
    refine Evals.succ (Evals.congr (fun k => ?_) ih)
    rw [note_Encode.l0, if_pos (by omega), if_pos (by omega), if_pos (by omega), if_pos (by omega), Option.bind_some, rd44_at L i hil, if_pos (by rw [List.length_append, List.length_singleton, h32]; omega), e1]
theorem enc_ev (kd s : Int) (im : List S44) (os : List S46) (h1 : im.length < 1000000000) (h2 : os.length < 1000000000) (hk : saneN kd s im os = true) : Evals (fun k => note_Encode.f k kd s im os) (encN kd s im os, 0) := by
  obtain ⟨hd, hl, ho⟩ := sane_data hk
  obtain ⟨s0, s1, _⟩ := saneN_parts hk
  have hs := sane_ev kd s im os h1 h2
  rw [hk] at hs
  have e0 : IntKind.u64.wrap s = s := by rw [IntKind.wrap_u64]; omega
  have e1 : IntKind.u64.wrap ((im.length : Int)) = (im.length : Int) := by rw [IntKind.wrap_u64]; omega
  have hp := put_ev 6 s [kd % 256] (by simp) (by omega)
  have hq := put_ev 2 (im.length : Int) ([kd % 256] ++ le 6 s) (by simp [le_length]) (by omega)
  have hr := enc_imgs im os hl ho hd kd s im im.length 0 ([kd % 256] ++ le 6 s ++ le 2 (im.length : Int)) (by omega) (by simp only [List.length_append, List.length_singleton, le_length]; omega)
  have e2 : encN kd s im os = [kd % 256] ++ le 6 s ++ le 2 (im.length : Int) ++ (im.drop 0).flatMap layI ++ (le 2 (os.length : Int) ++ os.flatMap layO) := by
    unfold encN
    rw [List.drop_zero]
    simp
  rw [e2]
  unfold note_Encode.f
  simp only [e0, e1]
  refine Evals.bind hs ?_
  simp only [if_pos]
  exact Evals.bind hp (Evals.bind hq hr)
theorem encN_bytes (k s : Int) (im : List S44) (os : List S46) (h : ∀ x ∈ im, ∀ y ∈ x.f1, byteB y) : ∀ y ∈ encN k s im os, byteB y := by
  intro y hy
  unfold encN at hy
  simp only [List.mem_cons, List.mem_append, List.mem_flatMap] at hy
  rcases hy with rfl | hy | hy | ⟨x, hx, hy⟩ | hy | ⟨x, hx, hy⟩
  · unfold byteB; omega
  · exact le_bytes _ _ y hy
  · exact le_bytes _ _ y hy
  · rw [layI, List.mem_cons] at hy
    rcases hy with rfl | hy
    · unfold byteB; omega
    · exact h x hx y hy
  · exact le_bytes _ _ y hy
  · rw [layO, List.mem_cons] at hy
    rcases hy with rfl | hy
    · unfold byteB; omega
    · exact le_bytes _ _ y hy
theorem sane_mark : saneN 2 3 [] [] = true := by decide
theorem enc_mark : encN 2 3 [] [] = [2, 3, 0, 0, 0, 0, 0, 0, 0, 0, 0] := by decide
theorem awake_ev : Evals (fun k => heronrylaw18_awake.f k) true := by
  have he := enc_ev 2 3 [] [] (by simp) (by simp) sane_mark
  have hd : note_Decode.f (encN 2 3 [] []) = some (2, 3, [], [], 0) := by
    rw [note_Decode.at_ (encN_bytes 2 3 [] [] (fun x hx => by cases hx)), pNote_lay sane_mark (fun o ho => by cases ho)]
    rfl
  unfold heronrylaw18_awake.f
  refine Evals.bind he ?_
  refine Evals.of fun _ => ?_
  dsimp only
  rw [hd, enc_mark]
  decide
end Go.Proofs.Ythcikbbglpdjhaa.Q
