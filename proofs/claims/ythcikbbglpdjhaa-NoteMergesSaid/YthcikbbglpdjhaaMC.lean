/- note.Merge, whole. No condition. -/
import Derived.Test.YthcikbbglpdjhaaMW
namespace Go.Proofs.Ythcikbbglpdjhaa.Q
open Go.RowKit Go.Proofs.YthcikbbglpdjhaaW Go.Proofs.YthcikbbglpdjhaaW.PrintWords Go.Proofs.YthcikbbglpdjhaaW.PrintLast Go.Proofs.YthcikbbglpdjhaaW.PrintMore
set_option linter.unusedVariables false
set_option linter.unusedSimpArgs false
theorem sane_kind {k s : Int} {im : List S44} {os : List S46} (h : saneN k s im os = true) : k = 1 ∨ k = 2 := by
  obtain ⟨_, _, ⟨h, _⟩ | ⟨h, _⟩⟩ := saneN_parts h
  · exact .inr h
  · exact .inl h
theorem merge_c {W : World} {A2 A3 B2 B3 : Option Addr} {c2 c3 d2 d3 : Nat} {ai bi : List S44} {ao bo : List S46} {P : Nat → Prop} (hna : NC W A2 c2 ai A3 c3 ao) (hfb : NCF W P B2 d2 bi B3 d3 bo) (hP : ∀ k, W.heap.size ≤ k → P k) (ak as_ bk bs : Int) (hl : ai.length < 1000000000 ∧ ao.length < 1000000000 ∧ bi.length < 1000000000 ∧ bo.length < 1000000000)
    (k s : Int) (im : List S44) (os : List S46) (r : Int) (hm : mergeR ak as_ ai ao bk bs bi bo = (k, s, im, os, r)) : Merges ak as_ A2 c2 ai A3 c3 ao bk bs B2 d2 bi B3 d3 bo W P k s im os r := by
  have hnb := hfb.nc
  unfold mergeR at hm
  cases hs : saneN ak as_ ai ao with
  | false =>
    rw [if_neg (fun h => by rw [hs] at h; exact absurd h.1 (by decide))] at hm
    simp only [Prod.mk.injEq] at hm
    obtain ⟨rfl, rfl, rfl, rfl, rfl⟩ := hm
    exact merge_bad1 ak as_ A2 c2 ai A3 c3 ao bk bs B2 d2 bi B3 d3 bo W hna hnb hl P hs
  | true =>
    cases ht : saneN bk bs bi bo with
    | false =>
      rw [if_neg (fun h => by rw [ht] at h; exact absurd h.2.1 (by decide))] at hm
      simp only [Prod.mk.injEq] at hm
      obtain ⟨rfl, rfl, rfl, rfl, rfl⟩ := hm
      exact merge_bad2 ak as_ A2 c2 ai A3 c3 ao bk bs B2 d2 bi B3 d3 bo W hna hnb hl P hs ht
    | true =>
      rcases sane_kind hs with rfl | rfl
      · rcases sane_kind ht with rfl | rfl
        · rw [if_pos ⟨hs, ht, rfl, rfl⟩] at hm
          exact merge_main as_ A2 c2 ai A3 c3 ao bs B2 d2 bi B3 d3 bo W hna hnb hl P hP hfb hs ht k s im os r hm
        · rw [if_neg (fun h => absurd h.2.2.2 (by decide))] at hm
          simp only [Prod.mk.injEq] at hm
          obtain ⟨rfl, rfl, rfl, rfl, rfl⟩ := hm
          exact merge_bad4 as_ A2 c2 ai A3 c3 ao bs B2 d2 bi B3 d3 bo W hna hnb hl P hs ht
      · rw [if_neg (fun h => absurd h.2.2.1 (by decide))] at hm
        simp only [Prod.mk.injEq] at hm
        obtain ⟨rfl, rfl, rfl, rfl, rfl⟩ := hm
        exact merge_bad3 as_ A2 c2 ai A3 c3 ao bk bs B2 d2 bi B3 d3 bo W hna hnb hl P hs ht
/-- A note that is read; one that is read apart from a block. -/
def NF (W : World) (A2 : Option Addr) (c2 : Nat) (im : List S44) (A3 : Option Addr) (c3 : Nat) (os : List S46) : Prop := ∃ ok, NCF W ok A2 c2 im A3 c3 os
def AP (b : Nat) (W : World) (A2 : Option Addr) (c2 : Nat) (im : List S44) (A3 : Option Addr) (c3 : Nat) (os : List S46) : Prop := ∃ ok, NCF W ok A2 c2 im A3 c3 os ∧ ¬ ok b
section
variable {W W' : World} {b : Nat} {A2 A3 B2 B3 : Option Addr} {c2 c3 d2 d3 : Nat} {im ai bi : List S44} {os ao bo : List S46}
theorem NC.nf (h : NC W A2 c2 im A3 c3 os) : NF W A2 c2 im A3 c3 os := ⟨_, h.ncf⟩
theorem NF.nc (h : NF W A2 c2 im A3 c3 os) : NC W A2 c2 im A3 c3 os := by obtain ⟨ok, h⟩ := h; exact h.nc
theorem AP.nc (h : AP b W A2 c2 im A3 c3 os) : NC W A2 c2 im A3 c3 os := by obtain ⟨ok, h, _⟩ := h; exact h.nc
theorem NF.below (h : NF W A2 c2 im A3 c3 os) (hb : Below W.heap.size W W') : NF W' A2 c2 im A3 c3 os := by obtain ⟨ok, h⟩ := h; exact ⟨ok, h.below hb⟩
theorem AP.below (h : AP b W A2 c2 im A3 c3 os) (hb : Below W.heap.size W W') : AP b W' A2 c2 im A3 c3 os := by obtain ⟨ok, h, hn⟩ := h; exact ⟨ok, h.below hb, hn⟩
theorem NF.ap (h : NF W A2 c2 im A3 c3 os) (hb : W.heap.size ≤ b) : AP b W A2 c2 im A3 c3 os := by obtain ⟨ok, h⟩ := h; exact ⟨_, h.bound, fun hk => by have := hk.2; omega⟩
theorem AP.far (h : AP b W A2 c2 im A3 c3 os) (hf : ∀ j, j ≠ b → W'.heap[j]? = W.heap[j]?) : NF W' A2 c2 im A3 c3 os := by
  obtain ⟨ok, h, hn⟩ := h
  exact ⟨ok, h.step (fun k hk _ => hf k (fun e => hn (by rw [← e]; exact hk)))⟩
theorem merge_nf (ha : NF W A2 c2 ai A3 c3 ao) (hb : NF W B2 d2 bi B3 d3 bo) (ak as_ bk bs : Int) (hl : ai.length < 1000000000 ∧ ao.length < 1000000000 ∧ bi.length < 1000000000 ∧ bo.length < 1000000000) (k s : Int) (r : Int) (hm : mergeR ak as_ ai ao bk bs bi bo = (k, s, im, os, r)) :
    Calls Try.prog 18 #[.agg #[.int .i64 ak, .int .i64 as_, .slice A2 ai.length c2, .slice A3 ao.length c3], .agg #[.int .i64 bk, .int .i64 bs, .slice B2 bi.length d2, .slice B3 bo.length d3]] W fun e w' => ∃ X2 x2 X3 x3, e = .returned (.tuple #[.agg #[.int .i64 k, .int .i64 s, .slice X2 im.length x2, .slice X3 os.length x3], .int .i64 r]) ∧ NF w' X2 x2 im X3 x3 os ∧ Below W.heap.size W w' := by
  obtain ⟨ok, hb⟩ := hb
  refine (merge_c ha.nc (hb.mono (ok' := fun k => ok k ∨ W.heap.size ≤ k) (fun k hk => .inl hk)) (fun k hk => .inr hk) ak as_ bk bs hl k s im os r hm).mono ?_
  rintro e w' ⟨X2, x2, X3, x3, he, hn, hbl⟩
  exact ⟨X2, x2, X3, x3, he, ⟨_, hn⟩, hbl⟩
theorem merge_ap (ha : AP b W A2 c2 ai A3 c3 ao) (hb : AP b W B2 d2 bi B3 d3 bo) (hlt : b < W.heap.size) (ak as_ bk bs : Int) (hl : ai.length < 1000000000 ∧ ao.length < 1000000000 ∧ bi.length < 1000000000 ∧ bo.length < 1000000000) (k s : Int) (r : Int) (hm : mergeR ak as_ ai ao bk bs bi bo = (k, s, im, os, r)) :
    Calls Try.prog 18 #[.agg #[.int .i64 ak, .int .i64 as_, .slice A2 ai.length c2, .slice A3 ao.length c3], .agg #[.int .i64 bk, .int .i64 bs, .slice B2 bi.length d2, .slice B3 bo.length d3]] W fun e w' => ∃ X2 x2 X3 x3, e = .returned (.tuple #[.agg #[.int .i64 k, .int .i64 s, .slice X2 im.length x2, .slice X3 os.length x3], .int .i64 r]) ∧ AP b w' X2 x2 im X3 x3 os ∧ Below W.heap.size W w' := by
  obtain ⟨ok, hb, hn0⟩ := hb
  refine (merge_c ha.nc (hb.mono (ok' := fun k => ok k ∨ W.heap.size ≤ k) (fun k hk => .inl hk)) (fun k hk => .inr hk) ak as_ bk bs hl k s im os r hm).mono ?_
  rintro e w' ⟨X2, x2, X3, x3, he, hn, hbl⟩
  exact ⟨X2, x2, X3, x3, he, ⟨_, hn, fun hk => by rcases hk with hk | hk; exact hn0 hk; omega⟩, hbl⟩
end
end Go.Proofs.Ythcikbbglpdjhaa.Q
