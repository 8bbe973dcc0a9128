/- Several texts of one claim, one behind the other. No condition beyond what each says. -/
import Derived.Test.YthcikbbglpdjhaaPM
import Derived.Test.YthcikbbglpdjhaaLM
/- What Merge answers, by cases; notes' numbers. No condition. -/
namespace Go.Proofs.Ythcikbbglpdjhaa.Q
open Go.RowKit Go.Proofs.YthcikbbglpdjhaaW Go.Proofs.YthcikbbglpdjhaaW.PrintWords Go.Proofs.YthcikbbglpdjhaaW.PrintLast Go.Proofs.YthcikbbglpdjhaaW.PrintMore
set_option linter.unusedVariables false
theorem sane_srt {k s : Int} {im : List S44} {os : List S46} (h : saneN k s im os = true) : SrtS im ∧ ∀ x ∈ im, 0 ≤ x.f0 ∧ x.f0 < 256 ∧ x.f1.length = 32 := by
  obtain ⟨_, _, ⟨_, rfl, _⟩ | ⟨_, hg, _⟩⟩ := saneN_parts h
  · exact ⟨List.Pairwise.nil, fun x hx => by cases hx⟩
  · obtain ⟨h1, h2⟩ := (good_srt im (-1)).1 hg
    exact ⟨h1, fun x hx => by have := h2 x hx; omega⟩
theorem merge_cases (ak as_ : Int) (ai : List S44) (ao : List S46) (bk bs : Int) (bi : List S44) (bo : List S46) :
    (∃ r, (r = 1 ∨ r = 13 ∧ saneN 1 bs (mergeI ai bi) (ao ++ bo) = false ∧ saneN ak as_ ai ao = true ∧ saneN bk bs bi bo = true ∧ ak = 1 ∧ bk = 1) ∧ mergeR ak as_ ai ao bk bs bi bo = (0, 0, [], [], r)) ∨
    (saneN ak as_ ai ao = true ∧ saneN bk bs bi bo = true ∧ ak = 1 ∧ bk = 1 ∧ saneN 1 bs (mergeI ai bi) (ao ++ bo) = true ∧ mergeR ak as_ ai ao bk bs bi bo = (1, bs, mergeI ai bi, ao ++ bo, 0)) := by
  unfold mergeR
  by_cases h : saneN ak as_ ai ao = true ∧ saneN bk bs bi bo = true ∧ ak = 1 ∧ bk = 1
  · rw [if_pos h]
    by_cases h2 : saneN 1 bs (mergeI ai bi) (ao ++ bo) = true
    · rw [if_pos h2]
      exact .inr ⟨h.1, h.2.1, h.2.2.1, h.2.2.2, h2, rfl⟩
    · rw [if_neg h2]
      exact .inl ⟨13, .inr ⟨rfl, by simpa using h2, h.1, h.2.1, h.2.2.1, h.2.2.2⟩, rfl⟩
  · rw [if_neg h]
    exact .inl ⟨1, .inl rfl, rfl⟩
/-- Two notes of few images lay together wherever their operations are few enough. -/
theorem sane_merge {as_ bs : Int} {ai bi : List S44} {ao bo : List S46} (ha : saneN 1 as_ ai ao = true) (hb : saneN 1 bs bi bo = true) : saneN 1 bs (mergeI ai bi) (ao ++ bo) = (decide ((mergeI ai bi).length ≤ 256) && decide (ao.length + bo.length ≤ 256)) := by
  obtain ⟨sa, ga⟩ := sane_srt ha
  obtain ⟨sb, gb⟩ := sane_srt hb
  obtain ⟨s0, s1, hh⟩ := saneN_parts hb
  obtain ⟨_, _, hh2⟩ := saneN_parts ha
  have hg : goodI (-1) (mergeI ai bi) = true := (good_srt _ _).2 ⟨srt_merge ai bi sb, fun x hx => by
    rcases mem_merge ai bi x hx with h | h
    · have := ga x h; omega
    · have := gb x h; omega⟩
  have hbo : ∀ o ∈ ao ++ bo, badO o = false := fun o ho => by
    rcases hh with ⟨h, _⟩ | ⟨_, _, _, _, h⟩
    · exact absurd h (by decide)
    · rcases hh2 with ⟨h', _⟩ | ⟨_, _, _, _, h'⟩
      · exact absurd h' (by decide)
      · rcases List.mem_append.1 ho with ho | ho
        · exact h' o ho
        · exact h o ho
  have hany : (ao ++ bo).any badO = false := List.any_eq_false.2 (fun o ho => by rw [hbo o ho]; decide)
  unfold saneN
  rw [decide_eq_true s0, decide_eq_true s1, if_neg (by decide), if_pos rfl, hg, hany, List.length_append]
  simp
end Go.Proofs.Ythcikbbglpdjhaa.Q
/- NoteMerges: at every input the law returns true and its arguments read as before. No condition. -/
namespace Go.Proofs.Ythcikbbglpdjhaa.Q
open Go.RowKit Go.Proofs.YthcikbbglpdjhaaW Go.Proofs.YthcikbbglpdjhaaW.PrintWords Go.Proofs.YthcikbbglpdjhaaW.PrintLast Go.Proofs.YthcikbbglpdjhaaW.PrintMore
set_option linter.unusedVariables false
def lookB (l : List S44) (blk : Int) (acc : ByteArray) : ByteArray := match look l blk with | some d => strOfNums d | none => acc
theorem wantF_look (blk : Int) : ∀ (l : List S44) (acc : ByteArray), SrtS l → wantF blk acc l = lookB l blk acc
  | [], acc, _ => rfl
  | x :: r, acc, h => by
    unfold SrtS at h
    rw [List.pairwise_cons] at h
    have ih := wantF_look blk r (if x.f0 = blk then strOfNums x.f1 else acc) h.2
    show wantF blk (if x.f0 = blk then strOfNums x.f1 else acc) r = _
    rw [ih]
    unfold lookB
    rw [look]
    by_cases hb : x.f0 = blk
    · rw [if_pos hb, if_pos hb, look_none (fun y hy => by have := h.1 y hy; omega)]
    · rw [if_neg hb, if_neg hb]
theorem want_merge (blk : Int) (ai bi : List S44) (ha : SrtS ai) (hb : SrtS bi) : wantF blk (wantF blk ByteArray.empty ai) bi = wantF blk ByteArray.empty (mergeI ai bi) := by
  rw [wantF_look blk bi _ hb, wantF_look blk ai _ ha, wantF_look blk (mergeI ai bi) _ (srt_merge ai bi hb)]
  unfold lookB
  rw [look_merge]
  cases look bi blk with
  | some d => rfl
  | none => rfl
theorem merge_none {s : Int} {ai : List S44} {ao : List S46} (h : saneN 1 s ai ao = true) : mergeR 1 s ai ao 1 s [] [] = (1, s, ai, ao, 0) := by
  obtain ⟨s0, s1, _⟩ := saneN_parts h
  have e : mergeI ai [] = ai := srt_ext _ _ (srt_merge ai [] List.Pairwise.nil) (sane_srt h).1 (fun k => by rw [look_merge]; rfl)
  have h0 : saneN 1 s [] [] = true := by
    unfold saneN
    rw [decide_eq_true s0, decide_eq_true s1]
    rfl
  unfold mergeR
  have hc : saneN 1 s ai ao = true ∧ saneN 1 s [] [] = true ∧ (1 : Int) = 1 ∧ (1 : Int) = 1 := ⟨h, h0, rfl, rfl⟩
  rw [if_pos hc, e, List.append_nil, if_pos h]
end Go.Proofs.Ythcikbbglpdjhaa.Q
namespace Go.Proofs.Ythcikbbglpdjhaa
open Go.RowKit Go.Proofs.YthcikbbglpdjhaaW Go.Proofs.YthcikbbglpdjhaaW.PrintWords Go.Proofs.YthcikbbglpdjhaaW.PrintLast Go.Proofs.YthcikbbglpdjhaaW.PrintMore Go.Proofs.Ythcikbbglpdjhaa.Q
theorem noteMerges_holds : Rows.NoteMergesSaid := noteMerges.said fun x0 A2 c2 A3 c3 x1 B2 d2 B3 d3 blk w _ hc2 hC2 hc3 hC3 _ hd2 hD2 hd3 hD3 _ => by
  have hna : NC w A2 c2 x0.f2 A3 c3 x0.f3 := ⟨hC2, hc2, hC3, hc3⟩
  have hnb : NC w B2 d2 x1.f2 B3 d3 x1.f3 := ⟨hD2, hd2, hD3, hd3⟩
  obtain ⟨ak, as_, ai, ao⟩ := x0
  obtain ⟨bk, bs, bi, bo⟩ := x1
  simp only at hna hnb ⊢
  cases hf : fewB 100 ai ao with
  | false => exact merges_few1 ak as_ A2 c2 ai A3 c3 ao bk bs B2 d2 bi B3 d3 bo blk w hna hnb hf
  | true =>
    cases hg : fewB 100 bi bo with
    | false => exact merges_few2 ak as_ A2 c2 ai A3 c3 ao bk bs B2 d2 bi B3 d3 bo blk w hna hnb hf hg
    | true =>
      have fa := few_parts hf
      have fb := few_parts hg
      have hl := merge_length ai bi
      rcases merge_cases ak as_ ai ao bk bs bi bo with ⟨r, hr, hm⟩ | ⟨sa, sb, rfl, rfl, sx, hm⟩
      · rcases hr with rfl | ⟨rfl, hns, sa, sb, rfl, rfl⟩
        · exact merges_bad1 ak as_ A2 c2 ai A3 c3 ao bk bs B2 d2 bi B3 d3 bo blk w hna hnb hf hg hm
        · refine merges_bad13 1 as_ A2 c2 ai A3 c3 ao 1 bs B2 d2 bi B3 d3 bo blk w hna hnb hf hg hm ?_
          rw [sane_merge sa sb, decide_eq_true (show (mergeI ai bi).length ≤ 256 by omega), Bool.true_and] at hns
          have := of_decide_eq_false hns
          omega
      · exact merges_ok as_ A2 c2 ai A3 c3 ao 1 bs B2 d2 bi B3 d3 bo blk w hna hnb hf hg (mergeI ai bi) (ao ++ bo) rfl hm sx (merge_none sa) (want_merge blk ai bi (sane_srt sa).1 (sane_srt sb).1) (by omega)
end Go.Proofs.Ythcikbbglpdjhaa
