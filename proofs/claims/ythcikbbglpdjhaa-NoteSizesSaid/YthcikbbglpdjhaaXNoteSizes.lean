/- Several texts of one claim, one behind the other. No condition beyond what each says. -/
import Derived.Test.YthcikbbglpdjhaaPM
import Derived.Test.YthcikbbglpdjhaaLS
/- What Merge answers, by cases; notes' numbers. No condition. -/
namespace Go.Proofs.Ythcikbbglpdjhaa.Q
open Go.RowKit Go.Proofs.YthcikbbglpdjhaaW Go.Proofs.YthcikbbglpdjhaaW.PrintWords Go.Proofs.YthcikbbglpdjhaaW.PrintLast Go.Proofs.YthcikbbglpdjhaaW.PrintMore
set_option linter.unusedVariables false
theorem sane_srt {k s : Int} {im : List S44} {os : List S46} (h : saneN k s im os = true) : SrtS im ∧ ∀ x ∈ im, 0 ≤ x.f0 ∧ x.f0 < 256 ∧ x.f1.length = 32 := by
  obtain ⟨_, _, ⟨_, rfl, _⟩ | ⟨_, hg, _⟩⟩ := saneN_parts h
  · exact ⟨List.Pairwise.nil, fun x hx => by cases hx⟩
  · obtain ⟨h1, h2⟩ := (good_srt im (-1)).1 hg
    exact ⟨h1, fun x hx => by have := h2 x hx; omega⟩
theorem merge_cases (ak as_ : Int) (ai : List S44) (ao : List S46) (bk bs : Int) (bi : List S44) (bo : List S46) :
    (∃ r, (r = 1 ∨ r = 13 ∧ saneN 1 bs (mergeI ai bi) (ao ++ bo) = false ∧ saneN ak as_ ai ao = true ∧ saneN bk bs bi bo = true ∧ ak = 1 ∧ bk = 1) ∧ mergeR ak as_ ai ao bk bs bi bo = (0, 0, [], [], r)) ∨
    (saneN ak as_ ai ao = true ∧ saneN bk bs bi bo = true ∧ ak = 1 ∧ bk = 1 ∧ saneN 1 bs (mergeI ai bi) (ao ++ bo) = true ∧ mergeR ak as_ ai ao bk bs bi bo = (1, bs, mergeI ai bi, ao ++ bo, 0)) := by
  unfold mergeR
  by_cases h : saneN ak as_ ai ao = true ∧ saneN bk bs bi bo = true ∧ ak = 1 ∧ bk = 1
  · rw [if_pos h]
    by_cases h2 : saneN 1 bs (mergeI ai bi) (ao ++ bo) = true
    · rw [if_pos h2]
      exact .inr ⟨h.1, h.2.1, h.2.2.1, h.2.2.2, h2, rfl⟩
    · rw [if_neg h2]
      exact .inl ⟨13, .inr ⟨rfl, by simpa using h2, h.1, h.2.1, h.2.2.1, h.2.2.2⟩, rfl⟩
  · rw [if_neg h]
    exact .inl ⟨1, .inl rfl, rfl⟩
end Go.Proofs.Ythcikbbglpdjhaa.Q
/- NoteSizes: at every input the law returns true and its arguments read as before. No condition. -/
namespace Go.Proofs.Ythcikbbglpdjhaa
open Go.RowKit Go.Proofs.YthcikbbglpdjhaaW Go.Proofs.YthcikbbglpdjhaaW.PrintWords Go.Proofs.YthcikbbglpdjhaaW.PrintLast Go.Proofs.YthcikbbglpdjhaaW.PrintMore Go.Proofs.Ythcikbbglpdjhaa.Q
theorem noteSizes_holds : Rows.NoteSizesSaid := noteSizes.said fun x0 A2 c2 A3 c3 x1 B2 d2 B3 d3 w ha hc2 hC2 hc3 hC3 hb hd2 hD2 hd3 hD3 => by
  have hna : NC w A2 c2 x0.f2 A3 c3 x0.f3 := ⟨hC2, hc2, hC3, hc3⟩
  have hnb : NC w B2 d2 x1.f2 B3 d3 x1.f3 := ⟨hD2, hd2, hD3, hd3⟩
  cases hf : fewB 100 x0.f2 x0.f3 with
  | false => exact sizes_few1 x0.f0 x0.f1 A2 c2 x0.f2 A3 c3 x0.f3 x1.f0 x1.f1 B2 d2 x1.f2 B3 d3 x1.f3 w hna hnb hf
  | true =>
    cases hg : fewB 100 x1.f2 x1.f3 with
    | false => exact sizes_few2 x0.f0 x0.f1 A2 c2 x0.f2 A3 c3 x0.f3 x1.f0 x1.f1 B2 d2 x1.f2 B3 d3 x1.f3 w hna hnb hf hg
    | true =>
      rcases merge_cases x0.f0 x0.f1 x0.f2 x0.f3 x1.f0 x1.f1 x1.f2 x1.f3 with ⟨r, hr, hm⟩ | ⟨hs, ht, h1, h2, h3, hm⟩
      · exact sizes_bad x0.f0 x0.f1 A2 c2 x0.f2 A3 c3 x0.f3 x1.f0 x1.f1 B2 d2 x1.f2 B3 d3 x1.f3 w hna hnb hf hg r hm (by rcases hr with rfl | ⟨rfl, _⟩ <;> decide)
      · have hl := merge_length x0.f2 x1.f2
        exact sizes_ok x0.f0 x0.f1 A2 c2 x0.f2 A3 c3 x0.f3 x1.f0 x1.f1 B2 d2 x1.f2 B3 d3 x1.f3 w hna hnb hf hg (mergeI x0.f2 x1.f2) (x0.f3 ++ x1.f3) hm hs ht h3 ⟨merge_ge _ _ (sane_srt hs).1 (sane_srt ht).1, hl.1, hl.2, List.length_append⟩
end Go.Proofs.Ythcikbbglpdjhaa
