/- SchedFair: at every input the law returns true and its arguments read as before. No condition. -/
import Derived.Test.YtjbdlgjhnldfbaaY3
import Derived.Test.YtjbdlgjhnldfbaaFSchedFair
import Derived.Test.YtjbdlgjhnldfbaaQ16
import Derived.Test.YtjbdlgjhnldfbaaB
namespace Go.Proofs.Ytjbdlgjhnldfbaa.Q
open Go.RowKit Go.Proofs.YtjbdlgjhnldfbaaW Go.Proofs.YtjbdlgjhnldfbaaW.PrintWords Go.Proofs.YtjbdlgjhnldfbaaW.PrintLast Go.Proofs.YtjbdlgjhnldfbaaW.PrintMore
open FL
set_option linter.unusedVariables false

structure FI (m E i : Nat) (q : List S44) : Prop where
  len : q.length = m
  nod : (q.map (·.f0)).Nodup
  mem : ∀ x ∈ q, 0 ≤ x.f0 ∧ x.f0 < m ∧ inU x.f1 = true ∧ classS x.f1 ≠ 4 ∧ 0 ≤ x.f2 ∧ x.f2 ≤ i
  has : ∃ x ∈ q, x.f0 = (m : Int) - 1 ∧ x.f2 = i
  cnt : E ≤ i → q.countP (fun x => x.f2 == (i : Int)) + (i - E) ≤ 16

theorem sound_of {m i : Nat} (hm : m ≤ 16) {x : S44} (h : 0 ≤ x.f0 ∧ x.f0 < m ∧ inU x.f1 = true ∧ classS x.f1 ≠ 4 ∧ 0 ≤ x.f2 ∧ x.f2 ≤ i) : soundQ x = true := by
  unfold soundQ
  simp only [Bool.and_eq_true, decide_eq_true_eq, bne_iff_ne, ne_eq]
  exact ⟨h.1, by omega, h.2.2.2.2.1, h.2.2.2.1⟩

theorem fi_sane {m E i : Nat} {q : List S44} (h : FI m E i q) (hm : m ≤ 16) (hE : 1 ≤ E ∧ E ≤ 16) : saneQ q (E : Int) = true :=
  (saneQ_iff q E).2 ⟨fun x hx => sound_of hm (h.mem x hx), h.nod, by omega, by omega, by rw [h.len]; omega⟩

theorem countP_erase (p : S44 → Bool) (l : List S44) (j : Nat) (hj : j < l.length) : (l.eraseIdx j).countP p + (if p l[j] = true then 1 else 0) = l.countP p := by
  have h : l.countP p = (l.take j ++ l.drop j).countP p := by rw [List.take_append_drop]
  rw [h, List.eraseIdx_eq_take_drop_succ, List.countP_append, List.countP_append, List.drop_eq_getElem_cons hj, List.countP_cons]
  omega
/-- One pick, and the one that was picked comes again. -/
theorem fi_pick {m E i : Nat} {q : List S44} (h : FI m E i q) (hm : m ≤ 16) (hE : 1 ≤ E ∧ E ≤ 16) (hi : i ≤ 40) :
    ∃ (q' : List S44) (s : Int), pickQ q (E : Int) (allR m) = (q', (E : Int), s, 0) ∧ (∀ x ∈ q', inU x.f1 = true) ∧ q'.length < 17 ∧ (s = (m : Int) - 1 ∨ ∀ r, inU r = true → classS r ≠ 4 → addQ q' (E : Int) s r = (q' ++ [⟨s, r, 0⟩], (E : Int), 0) ∧ FI m E (i + 1) (q' ++ [⟨s, r, 0⟩])) := by
  have hs := fi_sane h hm hE
  obtain ⟨z, hz, hz0, hz2⟩ := h.has
  have hR : ∀ x ∈ q, isR (allR m) x = true := by
    intro x hx
    obtain ⟨h1, h2, _⟩ := h.mem x hx
    unfold isR
    rw [decide_eq_true_eq]
    exact (allR_mem m _).2 ⟨h1, h2⟩
  have hb : bump (allR m) q = q.map bump1 := by
    unfold bump
    exact List.map_congr_left (fun x hx => by rw [if_pos (hR x hx)])
  rcases pick_cases q (E : Int) (allR m) hs with ⟨h1, h2⟩ | ⟨j, hj, h1, h2, h3⟩
  · have := h2 z hz
    rw [hR z hz] at this
    cases this
  rw [hb] at h1
  have hjm := h.mem _ (List.getElem_mem hj)
  have hq' : ∀ x ∈ (q.map bump1).eraseIdx j, ∃ k, ∃ hk : k < q.length, k ≠ j ∧ x = bump1 q[k] := by
    intro x hx
    rw [List.mem_eraseIdx_iff_getElem] at hx
    obtain ⟨k, hk, hkj, rfl⟩ := hx
    exact ⟨k, by simpa using hk, hkj, by rw [List.getElem_map]⟩
  have hb2 : ∀ x ∈ q, (bump1 x).f2 = x.f2 + 1 := fun x hx => by
    have := h.mem x hx
    exact w64 (by omega) (by omega)
  have hnd : ∀ k (hk : k < q.length), k ≠ j → q[k].f0 ≠ q[j].f0 := by
    intro k hk hkj he
    have hp := h.nod
    rw [List.nodup_iff_pairwise_ne, List.pairwise_map, List.pairwise_iff_getElem] at hp
    by_cases hlt : k < j
    · exact hp k j hk hj hlt he
    · exact hp j k hj hk (by omega) he.symm
  have hlen : ((q.map bump1).eraseIdx j).length + 1 = m := by
    rw [List.length_eraseIdx_of_lt (by simpa using hj), List.length_map, h.len]
    have := h.len; omega
  refine ⟨(q.map bump1).eraseIdx j, q[j].f0, h1, fun x hx => ?_, by omega, ?_⟩
  · obtain ⟨k, hk, _, rfl⟩ := hq' x hx
    exact (h.mem _ (List.getElem_mem hk)).2.2.1
  by_cases hsm : q[j].f0 = (m : Int) - 1
  · exact .inl hsm
  right
  intro r hr hc
  have hmem' : ∀ x ∈ (q.map bump1).eraseIdx j, 0 ≤ x.f0 ∧ x.f0 < m ∧ inU x.f1 = true ∧ classS x.f1 ≠ 4 ∧ 0 ≤ x.f2 ∧ x.f2 ≤ ((i + 1 : Nat) : Int) := by
    intro x hx
    obtain ⟨k, hk, _, rfl⟩ := hq' x hx
    have h4 := h.mem _ (List.getElem_mem hk)
    have h5 := hb2 _ (List.getElem_mem hk)
    exact ⟨h4.1, h4.2.1, h4.2.2.1, h4.2.2.2.1, by omega, by omega⟩
  have hnod' : (((q.map bump1).eraseIdx j).map (·.f0)).Nodup := by
    have hp := h.nod
    rw [List.nodup_iff_pairwise_ne, List.pairwise_map] at hp ⊢
    refine List.Pairwise.sublist (List.eraseIdx_sublist _ _) ?_
    rw [List.pairwise_map]
    exact hp
  have hni : ¬ q[j].f0 ∈ ((q.map bump1).eraseIdx j).map (·.f0) := by
    intro hmm
    obtain ⟨x, hx, he⟩ := List.mem_map.1 hmm
    obtain ⟨k, hk, hkj, rfl⟩ := hq' x hx
    exact hnd k hk hkj he
  have hs' : saneQ ((q.map bump1).eraseIdx j) (E : Int) = true := (saneQ_iff _ _).2 ⟨fun x hx => sound_of hm (hmem' x hx), hnod', by omega, by omega, by omega⟩
  have hso : soundQ ⟨q[j].f0, r, 0⟩ = true := sound_of (i := 0) hm ⟨hjm.1, hjm.2.1, hr, hc, by simp, by simp⟩
  refine ⟨by unfold addQ; rw [hs', hso, if_pos (by decide), if_neg hni], ⟨?_, ?_, ?_, ?_, ?_⟩⟩
  · rw [List.length_append, List.length_singleton]; exact hlen
  · rw [List.map_append, List.nodup_append]
    refine ⟨hnod', by simp, ?_⟩
    intro a ha b hb
    simp at hb
    subst hb
    intro he
    rw [he] at ha
    exact hni ha
  · intro x hx
    rcases List.mem_append.1 hx with hx | hx
    · exact hmem' x hx
    · rw [List.mem_singleton] at hx
      subst hx
      exact ⟨hjm.1, hjm.2.1, hr, hc, by simp, by simp; omega⟩
  · obtain ⟨kz, hkz, rfl⟩ := List.mem_iff_getElem.1 hz
    have hne : kz ≠ j := by
      intro he
      subst he
      exact hsm hz0
    refine ⟨bump1 q[kz], List.mem_append_left _ (List.mem_eraseIdx_iff_getElem.2 ⟨kz, by simpa using hkz, hne, by rw [List.getElem_map]⟩), hz0, ?_⟩
    rw [hb2 _ (List.getElem_mem hkz), hz2]; omega
  · intro hEi
    rw [List.countP_append]
    have hnew : [(⟨q[j].f0, r, 0⟩ : S44)].countP (fun x => x.f2 == ((i + 1 : Nat) : Int)) = 0 := by
      simp; omega
    rw [hnew, Nat.add_zero]
    have hcm : (q.map bump1).countP (fun x => x.f2 == ((i + 1 : Nat) : Int)) = q.countP (fun x => x.f2 == (i : Int)) := by
      rw [List.countP_map]
      refine List.countP_congr (fun x hx => ?_)
      simp only [Function.comp_apply, beq_iff_eq, hb2 x hx]
      omega
    have hcp := countP_erase (fun x => x.f2 == ((i + 1 : Nat) : Int)) (q.map bump1) j (by simpa using hj)
    rw [hcm] at hcp
    have hle : q.countP (fun x => x.f2 == (i : Int)) ≤ m := by rw [← h.len]; exact List.countP_le_length
    by_cases hlt : E ≤ i
    · have hcn := h.cnt hlt
      have hzO : isO (allR m) (E : Int) z = true := by
        unfold isO
        have := hR z hz
        unfold isR at this
        rw [this, decide_eq_true (p := (E : Int) ≤ z.f2) (by omega)]
        rfl
      obtain ⟨kz, hkz, rfl⟩ := List.mem_iff_getElem.1 hz
      rcases h3 with ⟨_, _, h5⟩ | ⟨h5, _⟩
      · have h6 := h5 kz hkz hzO
        have h7 : (bump1 q[j]).f2 = ((i + 1 : Nat) : Int) := by
          rw [hb2 _ (List.getElem_mem hj)]; omega
        simp only [List.getElem_map, h7, beq_self_eq_true, if_true] at hcp
        omega
      · rw [h5 kz hkz] at hzO
        cases hzO
    · omega

theorem bound_ev {m E i : Nat} {q : List S44} (h : FI m E i q) (hm : m ≤ 16) (hE : 1 ≤ E ∧ E ≤ 16) : Evals (fun k => sched_Bound.f k q (E : Int)) ((E : Int) + 16) := by
  unfold sched_Bound.f
  have hs := sane_ev q (E : Int) (fun x hx => (h.mem x hx).2.2.1) (by rw [h.len]; omega)
  rw [fi_sane h hm hE] at hs
  refine Evals.bind hs ?_
  simp only [if_pos]
  rw [w64_of (by omega) (by omega)]
  exact Evals.const _

theorem fair_l1 (rs : List Int) (hn : rs.length ≤ 100) (hu : ∀ x ∈ rs, inU x = true) (m E : Nat) (hm0 : 1 ≤ m) (hm : m ≤ 16) (hE : 1 ≤ E ∧ E ≤ 16) (d : Nat) : ∀ (i : Nat) (q : List S44), i + d = E + 16 → FI m E i q →
    Evals (fun k => heronrylaw21_SchedFair.l1 k rs true (m : Int) (allR m) ((E : Int) + 16) (i : Int) q (E : Int)) true := by
  induction d with
  | zero =>
    intro i q hi h
    exfalso
    have hc := h.cnt (by omega)
    obtain ⟨z, hz, _, hz2⟩ := h.has
    have : 0 < q.countP (fun x => x.f2 == (i : Int)) := List.countP_pos_iff.2 ⟨z, hz, by simp [hz2]⟩
    omega
  | succ d ih =>
    intro i q hi h
    have h0 : (i : Int) < (E : Int) + 16 := by omega
    have h1 : (0 : Int) ≤ (i : Int) := by omega
    have hp := pick_ev q (E : Int) (allR m) (fun x hx => (h.mem x hx).2.2.1) (by rw [h.len]; omega) (by rw [allR_len]; omega)
    obtain ⟨q', s, e1, e2, e3, e4⟩ := fi_pick h hm hE (by omega)
    rw [e1] at hp
    have hw : wrap64 ((m : Int) - 1) = (m : Int) - 1 := w64_of (by omega) (by omega)
    refine Evals.succ ?_
    simp only [heronrylaw21_SchedFair.l1, if_pos h0]
    refine Evals.bind hp ?_
    simp only [if_pos, hw]
    rcases e4 with e4 | e4
    · simp only [if_pos e4]; exact Evals.const _
    by_cases hsm : s = (m : Int) - 1
    · simp only [if_pos hsm]; exact Evals.const _
    · simp only [if_neg hsm, of_ev 9 (by decide), Option.bind_some]
      have next : ∀ r, inU r = true → classS r ≠ 4 → Evals (fun k => (sched_Add.f k q' (E : Int) s r).bind fun bt => if bt.2.2 = 0 then heronrylaw21_SchedFair.l1 k rs true (m : Int) (allR m) ((E : Int) + 16) (wrap64 ((i : Int) + 1)) bt.1 bt.2.1 else some false) true := by
        intro r hr hc
        obtain ⟨a1, a2⟩ := e4 r hr hc
        have ha := add_ev q' (E : Int) s r e2 hr (by omega)
        rw [a1] at ha
        refine Evals.bind ha ?_
        simp only [if_pos]
        rw [w64 (by omega) (by omega), show ((i : Int) + 1) = ((i + 1 : Nat) : Int) by omega]
        exact ih (i + 1) _ (by omega) a2
      have hj2 : ∀ b : Bool, (b = true → (i : Int) < (rs.length : Int) ∧ inU (rd rs (i : Int)) = true ∧ classS (rd rs (i : Int)) ≠ 4) → Evals (fun k => heronrylaw21_SchedFair.j2 k rs true (m : Int) (allR m) ((E : Int) + 16) (i : Int) s (ofS 9) b q' (E : Int)) true := by
        intro b hb
        refine Evals.succ ?_
        cases b with
        | true =>
          obtain ⟨b1, b2, b3⟩ := hb rfl
          simp only [heronrylaw21_SchedFair.j2, if_pos, if_pos h1, if_pos b1]
          exact next _ b2 b3
        | false =>
          simp only [heronrylaw21_SchedFair.j2, if_neg (show ¬ (false = true) by decide)]
          exact next _ (by decide) (by decide)
      by_cases hlt : (i : Int) < (rs.length : Int)
      · have hui : inU (rd rs (i : Int)) = true := by rw [rdi_at rs i (by omega)]; exact hu _ (List.getElem_mem _)
        simp only [if_pos hlt, if_pos h1, class_ev _ hui, Option.bind_some]
        refine hj2 _ (fun hb => ⟨hlt, hui, ?_⟩)
        simpa using hb
      · simp only [if_neg hlt]
        exact hj2 false (fun hb => by cases hb)

/-- The ranks of the first ones. -/
def ranksF (m : Nat) : List Int := (List.range m).map (fun i : Nat => if i + 1 = m then 18442240474082181120 else ofS 5)
theorem ranksF_at (m i : Nat) (h : i < m) : rd (ranksF m) (i : Int) = if i + 1 = m then 18442240474082181120 else ofS 5 := by
  rw [rdi_at _ i (by unfold ranksF; simpa using h)]
  unfold ranksF
  simp
theorem ranksF_ok (m i : Nat) (h : i < m) : inU (rd (ranksF m) (i : Int)) = true ∧ classS (rd (ranksF m) (i : Int)) ≠ 4 := by
  rw [ranksF_at m i h]
  by_cases h2 : i + 1 = m
  · rw [if_pos h2]; exact ⟨by decide, by decide⟩
  · rw [if_neg h2]; exact ⟨by decide, by decide⟩

theorem fair_l0 (rs : List Int) (hn : rs.length ≤ 100) (hu : ∀ x ∈ rs, inU x = true) (m E : Nat) (hm0 : 1 ≤ m) (hm : m ≤ 16) (hE : 1 ≤ E ∧ E ≤ 16) (d : Nat) : ∀ i : Nat, i + d = m →
    Evals (fun k => heronrylaw21_SchedFair.l0 k rs true (m : Int) (allR i) (i : Int) (itemsR (ranksF m) i) (E : Int)) true := by
  induction d with
  | zero =>
    intro i hi
    obtain rfl : i = m := by omega
    have h0 : ¬ (i : Int) < (i : Int) := by omega
    have hF : FI i E 0 (itemsR (ranksF i) i) := by
      refine ⟨itemsR_len _ _, asc_nodup (itemsR_asc _ _), fun x hx => ?_, ?_, fun h => by omega⟩
      · obtain ⟨a1, a2, a3, a4⟩ := itemsR_mem _ _ x hx
        have := ranksF_ok i x.f0.toNat (by omega)
        rw [show ((x.f0.toNat : Nat) : Int) = x.f0 by omega, ← a3] at this
        exact ⟨a1, a2, this.1, this.2, by omega, by omega⟩
      · refine ⟨⟨((i - 1 : Nat) : Int), rd (ranksF i) ((i - 1 : Nat) : Int), 0⟩, ?_, by simp; omega, rfl⟩
        unfold itemsR
        exact List.mem_map.2 ⟨i - 1, List.mem_range.2 (by omega), rfl⟩
    refine Evals.succ ?_
    simp only [heronrylaw21_SchedFair.l0, if_neg h0]
    refine Evals.bind (bound_ev hF hm hE) ?_
    exact fair_l1 rs hn hu i E hm0 hm hE (E + 16) 0 _ (by omega) hF
  | succ d ih =>
    intro i hi
    have h0 : (i : Int) < (m : Int) := by omega
    have hok := ranksF_ok m i (by omega)
    have hat := ranksF_at m i (by omega)
    have hI := inv_start (ranksF m) i
    have hUq : ∀ x ∈ itemsR (ranksF m) i, inU x.f1 = true := inv_u hI (fun j hj => (ranksF_ok m j (by omega)).1)
    have hadd := add_ev (itemsR (ranksF m) i) (E : Int) (i : Int) (rd (ranksF m) (i : Int)) hUq hok.1 (by rw [itemsR_len]; omega)
    have hs : saneQ (itemsR (ranksF m) i) (E : Int) = true := by
      refine (saneQ_iff _ _).2 ⟨fun x hx => ?_, asc_nodup (itemsR_asc _ _), by omega, by omega, by rw [itemsR_len]; omega⟩
      obtain ⟨a1, a2, a3, a4⟩ := itemsR_mem _ _ x hx
      have := ranksF_ok m x.f0.toNat (by omega)
      rw [show ((x.f0.toNat : Nat) : Int) = x.f0 by omega, ← a3] at this
      exact sound_of (m := m) (i := 0) hm ⟨a1, by omega, this.1, this.2, by omega, by omega⟩
    have hso : soundQ ⟨(i : Int), rd (ranksF m) (i : Int), 0⟩ = true := sound_of (m := m) (i := 0) hm ⟨by simp, by simp; omega, hok.1, hok.2, by simp, by simp⟩
    have hni : ¬ (i : Int) ∈ (itemsR (ranksF m) i).map (·.f0) := by
      intro hmm
      obtain ⟨x, hx, he⟩ := List.mem_map.1 hmm
      have := (itemsR_mem _ i x hx).2.1
      omega
    have hq : addQ (itemsR (ranksF m) i) (E : Int) (i : Int) (rd (ranksF m) (i : Int)) = (itemsR (ranksF m) (i + 1), (E : Int), 0) := by
      unfold addQ
      rw [hs, hso, if_pos (by decide), if_neg hni, itemsR_snoc]
    rw [hq] at hadd
    have hlm : (allR i).length < 17592186044416 := by rw [allR_len]; omega
    have hw : wrap64 ((m : Int) - 1) = (m : Int) - 1 := w64_of (by omega) (by omega)
    have hih := ih (i + 1) (by omega)
    refine Evals.succ ?_
    simp only [heronrylaw21_SchedFair.l0, if_pos h0, of_ev 5 (by decide), Option.bind_some, hw]
    by_cases hl : (i : Int) = (m : Int) - 1
    · rw [if_pos (show i + 1 = m by omega)] at hat
      rw [hat] at hadd
      simp only [if_pos hl]
      refine Evals.bind hadd ?_
      simp only [if_pos, if_pos hlm]
      rw [w64 (by omega) (by omega), show ((i : Int) + 1) = ((i + 1 : Nat) : Int) by omega, ← allR_snoc]
      exact hih
    · rw [if_neg (show ¬ i + 1 = m by omega)] at hat
      rw [hat] at hadd
      simp only [if_neg hl]
      refine Evals.bind hadd ?_
      simp only [if_pos, if_pos hlm]
      rw [w64 (by omega) (by omega), show ((i : Int) + 1) = ((i + 1 : Nat) : Int) by omega, ← allR_snoc]
      exact hih

theorem fair_ev (a b : Int) (rs : List Int) (hu : ∀ x ∈ rs, inU x = true) : Evals (fun k => heronrylaw21_SchedFair.f k a b rs) true := by
  unfold heronrylaw21_SchedFair.f
  refine Evals.bind awake_ev ?_
  by_cases h : (rs.length : Int) > 100
  · simp only [if_pos h]; exact Evals.const _
  · simp only [if_neg h]
    rw [and_15, and_15, w64_of (x := 1 + b % 16) (by omega) (by omega), w64_of (x := 1 + a % 16) (by omega) (by omega)]
    obtain ⟨m, hm⟩ : ∃ m : Nat, 1 + b % 16 = m := ⟨(1 + b % 16).toNat, by omega⟩
    obtain ⟨E, hE⟩ : ∃ m : Nat, 1 + a % 16 = m := ⟨(1 + a % 16).toNat, by omega⟩
    rw [hm, hE]
    exact fair_l0 rs (by omega) hu m E (by omega) (by omega) (by omega) m 0 (by omega)
end Go.Proofs.Ytjbdlgjhnldfbaa.Q
namespace Go.Proofs.Ytjbdlgjhnldfbaa
theorem schedFair_holds : Rows.SchedFairSaid :=
  schedFair.said fun a b A c l w _ _ hr hc hg => by
    obtain ⟨k, hk⟩ := (Q.fair_ev a b l (fun x hx => Q.inU_of_wf (hg x hx))).get
    exact Q.heronrylaw21_SchedFair.calls k a b A c l true w ⟨rfl⟩ hr hc hk
end Go.Proofs.Ytjbdlgjhnldfbaa
