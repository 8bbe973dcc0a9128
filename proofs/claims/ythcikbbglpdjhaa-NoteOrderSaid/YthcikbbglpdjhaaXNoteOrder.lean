/- Several texts of one claim, one behind the other. No condition beyond what each says. -/
import Derived.Test.YthcikbbglpdjhaaPM
import Derived.Test.YthcikbbglpdjhaaLO
/- What Merge answers, by cases; notes' numbers. No condition. -/
namespace Go.Proofs.Ythcikbbglpdjhaa.Q
open Go.RowKit Go.Proofs.YthcikbbglpdjhaaW Go.Proofs.YthcikbbglpdjhaaW.PrintWords Go.Proofs.YthcikbbglpdjhaaW.PrintLast Go.Proofs.YthcikbbglpdjhaaW.PrintMore
set_option linter.unusedVariables false
theorem sane_srt {k s : Int} {im : List S44} {os : List S46} (h : saneN k s im os = true) : SrtS im ∧ ∀ x ∈ im, 0 ≤ x.f0 ∧ x.f0 < 256 ∧ x.f1.length = 32 := by
  obtain ⟨_, _, ⟨_, rfl, _⟩ | ⟨_, hg, _⟩⟩ := saneN_parts h
  · exact ⟨List.Pairwise.nil, fun x hx => by cases hx⟩
  · obtain ⟨h1, h2⟩ := (good_srt im (-1)).1 hg
    exact ⟨h1, fun x hx => by have := h2 x hx; omega⟩
theorem merge_cases (ak as_ : Int) (ai : List S44) (ao : List S46) (bk bs : Int) (bi : List S44) (bo : List S46) :
    (∃ r, (r = 1 ∨ r = 13 ∧ saneN 1 bs (mergeI ai bi) (ao ++ bo) = false ∧ saneN ak as_ ai ao = true ∧ saneN bk bs bi bo = true ∧ ak = 1 ∧ bk = 1) ∧ mergeR ak as_ ai ao bk bs bi bo = (0, 0, [], [], r)) ∨
    (saneN ak as_ ai ao = true ∧ saneN bk bs bi bo = true ∧ ak = 1 ∧ bk = 1 ∧ saneN 1 bs (mergeI ai bi) (ao ++ bo) = true ∧ mergeR ak as_ ai ao bk bs bi bo = (1, bs, mergeI ai bi, ao ++ bo, 0)) := by
  unfold mergeR
  by_cases h : saneN ak as_ ai ao = true ∧ saneN bk bs bi bo = true ∧ ak = 1 ∧ bk = 1
  · rw [if_pos h]
    by_cases h2 : saneN 1 bs (mergeI ai bi) (ao ++ bo) = true
    · rw [if_pos h2]
      exact .inr ⟨h.1, h.2.1, h.2.2.1, h.2.2.2, h2, rfl⟩
    · rw [if_neg h2]
      exact .inl ⟨13, .inr ⟨rfl, by simpa using h2, h.1, h.2.1, h.2.2.1, h.2.2.2⟩, rfl⟩
  · rw [if_neg h]
    exact .inl ⟨1, .inl rfl, rfl⟩
end Go.Proofs.Ythcikbbglpdjhaa.Q
/- NoteOrder: at every input the law returns true and its arguments read as before. No condition. -/
namespace Go.Proofs.Ythcikbbglpdjhaa.Q
open Go.RowKit Go.Proofs.YthcikbbglpdjhaaW Go.Proofs.YthcikbbglpdjhaaW.PrintWords Go.Proofs.YthcikbbglpdjhaaW.PrintLast Go.Proofs.YthcikbbglpdjhaaW.PrintMore
set_option linter.unusedVariables false
theorem merge_assoc {a b c : List S44} (hb : SrtS b) (hc : SrtS c) : mergeI (mergeI a b) c = mergeI a (mergeI b c) := by
  refine srt_ext _ _ (srt_merge _ c hc) (srt_merge a _ (srt_merge b c hc)) (fun k => ?_)
  rw [look_merge, look_merge, look_merge, look_merge, Option.or_assoc]
theorem order_same {as_ bs cs_ : Int} {ai bi ci : List S44} {ao bo co : List S46} (ha : saneN 1 as_ ai ao = true) (hb : saneN 1 bs bi bo = true) (hc : saneN 1 cs_ ci co = true) (hx : saneN 1 bs (mergeI ai bi) (ao ++ bo) = true) (hy : saneN 1 cs_ (mergeI bi ci) (bo ++ co) = true) :
    mergeR 1 bs (mergeI ai bi) (ao ++ bo) 1 cs_ ci co = mergeR 1 as_ ai ao 1 cs_ (mergeI bi ci) (bo ++ co) := by
  unfold mergeR
  have h1 : saneN 1 bs (mergeI ai bi) (ao ++ bo) = true ∧ saneN 1 cs_ ci co = true ∧ (1 : Int) = 1 ∧ (1 : Int) = 1 := ⟨hx, hc, rfl, rfl⟩
  have h2 : saneN 1 as_ ai ao = true ∧ saneN 1 cs_ (mergeI bi ci) (bo ++ co) = true ∧ (1 : Int) = 1 ∧ (1 : Int) = 1 := ⟨ha, hy, rfl, rfl⟩
  rw [if_pos h1, if_pos h2, merge_assoc (sane_srt hb).1 (sane_srt hc).1, List.append_assoc]
end Go.Proofs.Ythcikbbglpdjhaa.Q
namespace Go.Proofs.Ythcikbbglpdjhaa
open Go.RowKit Go.Proofs.YthcikbbglpdjhaaW Go.Proofs.YthcikbbglpdjhaaW.PrintWords Go.Proofs.YthcikbbglpdjhaaW.PrintLast Go.Proofs.YthcikbbglpdjhaaW.PrintMore Go.Proofs.Ythcikbbglpdjhaa.Q
theorem noteOrder_holds : Rows.NoteOrderSaid := noteOrder.said fun x0 A2 c2 A3 c3 x1 B2 d2 B3 d3 x2 C2 e2 C3 e3 w _ hc2 hC2 hc3 hC3 _ hd2 hD2 hd3 hD3 _ he2 hE2 he3 hE3 => by
  have hna : NC w A2 c2 x0.f2 A3 c3 x0.f3 := ⟨hC2, hc2, hC3, hc3⟩
  have hnb : NC w B2 d2 x1.f2 B3 d3 x1.f3 := ⟨hD2, hd2, hD3, hd3⟩
  have hnc : NC w C2 e2 x2.f2 C3 e3 x2.f3 := ⟨hE2, he2, hE3, he3⟩
  obtain ⟨ak, as_, ai, ao⟩ := x0
  obtain ⟨bk, bs, bi, bo⟩ := x1
  obtain ⟨ck, cs_, ci, co⟩ := x2
  simp only at hna hnb hnc ⊢
  cases hf : fewB 60 ai ao with
  | false => exact order_few1 ak as_ A2 c2 ai A3 c3 ao bk bs B2 d2 bi B3 d3 bo ck cs_ C2 e2 ci C3 e3 co w hna hnb hnc hf
  | true =>
    cases hg : fewB 60 bi bo with
    | false => exact order_few2 ak as_ A2 c2 ai A3 c3 ao bk bs B2 d2 bi B3 d3 bo ck cs_ C2 e2 ci C3 e3 co w hna hnb hnc hf hg
    | true =>
      cases hh : fewB 60 ci co with
      | false => exact order_few3 ak as_ A2 c2 ai A3 c3 ao bk bs B2 d2 bi B3 d3 bo ck cs_ C2 e2 ci C3 e3 co w hna hnb hnc hf hg hh
      | true =>
        rcases h0 : mergeR ak as_ ai ao bk bs bi bo with ⟨k0, s0, im0, os0, r0⟩
        rcases h1 : mergeR bk bs bi bo ck cs_ ci co with ⟨k1, s1, im1, os1, r1⟩
        rcases h2 : mergeR k0 s0 im0 os0 ck cs_ ci co with ⟨k2, s2, im2, os2, r2⟩
        rcases h3 : mergeR ak as_ ai ao k1 s1 im1 os1 with ⟨k3, s3, im3, os3, r3⟩
        by_cases hr : r0 = 0 ∧ r1 = 0
        · obtain ⟨rfl, rfl⟩ := hr
          rcases merge_cases ak as_ ai ao bk bs bi bo with ⟨r, hr, hm⟩ | ⟨sa, sb, rfl, rfl, sx, hm⟩
          · rw [hm] at h0
            simp only [Prod.mk.injEq] at h0
            exact absurd h0.2.2.2.2 (by rcases hr with rfl | ⟨rfl, _⟩ <;> decide)
          · rcases merge_cases 1 bs bi bo ck cs_ ci co with ⟨r, hr, hn⟩ | ⟨_, sc, _, rfl, sy, hn⟩
            · rw [hn] at h1
              simp only [Prod.mk.injEq] at h1
              exact absurd h1.2.2.2.2 (by rcases hr with rfl | ⟨rfl, _⟩ <;> decide)
            · have e0 := hm.symm.trans h0
              have e1 := hn.symm.trans h1
              simp only [Prod.mk.injEq] at e0 e1
              obtain ⟨rfl, rfl, rfl, rfl, _⟩ := e0
              obtain ⟨rfl, rfl, rfl, rfl, _⟩ := e1
              have e := (order_same sa sb sc sx sy).symm.trans h2
              exact order_ok 1 as_ A2 c2 ai A3 c3 ao 1 bs B2 d2 bi B3 d3 bo 1 cs_ C2 e2 ci C3 e3 co w hna hnb hnc hf hg hh _ _ _ _ _ _ _ _ k2 s2 im2 os2 r2 h0 h1 h2 e
        · exact order_bad ak as_ A2 c2 ai A3 c3 ao bk bs B2 d2 bi B3 d3 bo ck cs_ C2 e2 ci C3 e3 co w hna hnb hnc hf hg hh k0 s0 im0 os0 r0 k1 s1 im1 os1 r1 k2 s2 im2 os2 r2 k3 s3 im3 os3 r3 h0 h1 h2 h3 (by omega)
end Go.Proofs.Ythcikbbglpdjhaa
