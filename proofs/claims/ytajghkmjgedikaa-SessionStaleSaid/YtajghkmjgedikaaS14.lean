import Derived.Test.YtajghkmjgedikaaS13
namespace Go.Proofs.Ytajghkmjgedikaa.Q
open Go.RowKit Go.Proofs.YtajghkmjgedikaaW Go.Proofs.YtajghkmjgedikaaW.PrintWords Go.Proofs.YtajghkmjgedikaaW.PrintLast Go.Proofs.YtajghkmjgedikaaW.PrintMore
set_option linter.unusedVariables false
set_option linter.unusedSimpArgs false
/-! ### What SessionStale keeps, as plain lists -/
structure Mdl where
  st : Nat → Int
  op : Nat → Bool
  ls : Nat → List Int
  H : List S31
  C : List Bool
  O : List Int
def Mdl.h (m : Mdl) (i : Nat) : S31 := m.H.getD i ⟨0, 0⟩
def Mdl.c (m : Mdl) (i : Nat) : Bool := m.C.getD i false
def Mdl.o (m : Mdl) (x : Nat) : Int := m.O.getD x 0
def Mdl.live (m : Mdl) (i : Nat) : Bool := liveS m.st m.op (m.h i).f0 (m.h i).f1
structure Inv (m : Mdl) : Prop where
  sane : SaneT m.st m.op m.ls
  len : m.C.length = m.H.length
  olen : m.O.length = 64
  slot : ∀ i, i < m.H.length → ∃ s : Nat, s < 16 ∧ (m.h i).f0 = (s : Int) ∧ 1 ≤ (m.h i).f1 ∧ (m.h i).f1 ≤ m.st s
  dist : ∀ i j, i < m.H.length → j < m.H.length → m.h i = m.h j → i = j
  live : ∀ i, i < m.H.length → m.live i = !m.c i
  own : ∀ x : Nat, x < 64 → (m.o x = -1 ∧ ∀ s, s < 16 → (x : Int) ∉ m.ls s) ∨ ∃ k s : Nat, k < m.H.length ∧ s < 16 ∧ m.o x = (k : Int) ∧ m.live k = true ∧ (m.h k).f0 = (s : Int) ∧ (x : Int) ∈ m.ls s
theorem live_iff {st : Nat → Int} {op : Nat → Bool} {s : Nat} (hs : s < 16) {b : Int} : liveS st op (s : Int) b = true ↔ op s = true ∧ st s = b := by
  unfold liveS
  simp
  omega
theorem live_false {st : Nat → Int} {op : Nat → Bool} {s : Nat} (hs : s < 16) {b : Int} (h : ¬ (op s = true ∧ st s = b)) : liveS st op (s : Int) b = false := by
  cases e : liveS st op (s : Int) b with
  | false => rfl
  | true => exact absurd ((live_iff hs).1 e) h
theorem h_snoc (l : List S31) (a : S31) (i : Nat) : (l ++ [a]).getD i ⟨0, 0⟩ = if i < l.length then l.getD i ⟨0, 0⟩ else if i = l.length then a else ⟨0, 0⟩ := by
  rw [List.getD_eq_getElem?_getD, List.getD_eq_getElem?_getD, List.getElem?_append]
  by_cases h : i < l.length
  · rw [if_pos h, if_pos h]
  · rw [if_neg h, if_neg h]
    by_cases e : i = l.length
    · subst e; simp
    · rw [if_neg e, List.getElem?_eq_none (by simp; omega)]; rfl
theorem c_snoc (l : List Bool) (a : Bool) (i : Nat) : (l ++ [a]).getD i false = if i < l.length then l.getD i false else if i = l.length then a else false := by
  rw [List.getD_eq_getElem?_getD, List.getD_eq_getElem?_getD, List.getElem?_append]
  by_cases h : i < l.length
  · rw [if_pos h, if_pos h]
  · rw [if_neg h, if_neg h]
    by_cases e : i = l.length
    · subst e; simp
    · rw [if_neg e, List.getElem?_eq_none (by simp; omega)]; rfl
/-- Open at the slot k. -/
def Mdl.opened (m : Mdl) (k : Nat) : Mdl := { m with st := upd m.st k (m.st k + 1), op := upd m.op k true, H := m.H ++ [⟨(k : Int), m.st k + 1⟩], C := m.C ++ [false] }
theorem Inv.opened {m : Mdl} (I : Inv m) {k : Nat} (hk : k < 16) (hf : freeAt m.st m.op k) : Inv (m.opened k) := by
  have h0 := I.sane.stamp k hk
  have hh : ∀ i, i < m.H.length → (m.opened k).h i = m.h i := fun i hi => by
    show (m.H ++ [_]).getD i ⟨0, 0⟩ = _
    rw [h_snoc, if_pos hi]; rfl
  have hn : (m.opened k).h m.H.length = ⟨(k : Int), m.st k + 1⟩ := by
    show (m.H ++ [_]).getD _ ⟨0, 0⟩ = _
    rw [h_snoc, if_neg (by omega), if_pos rfl]
  have hl : (m.opened k).H.length = m.H.length + 1 := by show (m.H ++ [_]).length = _; simp
  have hst : ∀ s, m.st s ≤ upd m.st k (m.st k + 1) s := fun s => by
    unfold upd; split
    · next e => subst e; omega
    · exact Int.le_refl _
  have hlv : ∀ i, i < m.H.length → (m.opened k).live i = m.live i := fun i hi => by
    obtain ⟨s, hs, e1, e2, e3⟩ := I.slot i hi
    unfold Mdl.live
    rw [hh i hi, e1]
    show liveS (upd m.st k (m.st k + 1)) (upd m.op k true) (s : Int) _ = liveS m.st m.op (s : Int) _
    by_cases e : s = k
    · subst e
      rw [live_false hs (fun h => by have := h.2; unfold upd at this; rw [if_pos rfl] at this; omega), live_false hs (fun h => by rw [hf.1] at h; cases h.1)]
    · unfold liveS upd
      simp [e]
  refine ⟨I.sane.opened hk hf, ?_, I.olen, ?_, ?_, ?_, ?_⟩
  · show (m.C ++ [false]).length = (m.H ++ [_]).length
    simp [I.len]
  · intro i hi
    rw [hl] at hi
    by_cases e : i = m.H.length
    · subst e
      rw [hn]
      refine ⟨k, hk, rfl, by show 1 ≤ m.st k + 1; omega, ?_⟩
      show m.st k + 1 ≤ upd m.st k (m.st k + 1) k
      unfold upd; rw [if_pos rfl]; omega
    · rw [hh i (by omega)]
      obtain ⟨s, hs, e1, e2, e3⟩ := I.slot i (by omega)
      exact ⟨s, hs, e1, e2, Int.le_trans e3 (hst s)⟩
  · have key : ∀ i, i < m.H.length → m.h i ≠ ⟨(k : Int), m.st k + 1⟩ := fun i hi he => by
      obtain ⟨s, hs, e1, e2, e3⟩ := I.slot i hi
      rw [he] at e1 e3
      have : s = k := by have : (k : Int) = (s : Int) := e1; omega
      subst this
      have : m.st s + 1 ≤ m.st s := e3
      omega
    intro i j hi hj he
    rw [hl] at hi hj
    by_cases e : i = m.H.length
    · by_cases f : j = m.H.length
      · omega
      · subst e; rw [hn, hh j (by omega)] at he; exact absurd he.symm (key j (by omega))
    · by_cases f : j = m.H.length
      · subst f; rw [hn, hh i (by omega)] at he; exact absurd he (key i (by omega))
      · rw [hh i (by omega), hh j (by omega)] at he; exact I.dist i j (by omega) (by omega) he
  · intro i hi
    rw [hl] at hi
    by_cases e : i = m.H.length
    · subst e
      have hc : (m.opened k).c m.H.length = false := by
        show (m.C ++ [false]).getD _ false = _
        rw [c_snoc]; rw [I.len, if_neg (by omega), if_pos rfl]
      rw [hc]
      unfold Mdl.live
      rw [hn]
      show liveS (upd m.st k (m.st k + 1)) (upd m.op k true) (k : Int) (m.st k + 1) = true
      rw [live_iff hk]
      simp [upd]
    · rw [hlv i (by omega), I.live i (by omega)]
      have : (m.opened k).c i = m.c i := by
        show (m.C ++ [false]).getD _ false = _
        rw [c_snoc, I.len, if_pos (by omega)]; rfl
      rw [this]
  · intro x hx
    rcases I.own x hx with h | ⟨j, s, hj, hs, e1, e2, e3, e4⟩
    · exact .inl h
    · refine .inr ⟨j, s, by rw [hl]; omega, hs, e1, by rw [hlv j hj]; exact e2, by rw [hh j hj]; exact e3, e4⟩
theorem o_set (l : List Int) (x : Nat) (v : Int) (y : Nat) : (l.set x v).getD y 0 = if x = y ∧ x < l.length then v else l.getD y 0 := by
  rw [List.getD_eq_getElem?_getD, List.getD_eq_getElem?_getD, List.getElem?_set]
  by_cases e : x = y
  · subst e
    by_cases h : x < l.length
    · simp [h]
    · simp [h, List.getElem?_eq_none (Nat.le_of_not_lt h)]
  · simp [e]
/-- A transaction lost. -/
def Mdl.lost (m : Mdl) (x : Nat) : Mdl := { m with ls := cutT [(x : Int)] m.ls 16, O := m.O.set x (-1) }
theorem cut_mem {x y : Int} {ls : Nat → List Int} {s : Nat} (hs : s < 16) : y ∈ cutT [x] ls 16 s ↔ y ∈ ls s ∧ y ≠ x := by
  unfold cutT cutL
  rw [if_pos hs]
  simp
theorem Inv.lost {m : Mdl} (I : Inv m) {x : Nat} (hx : x < 64) : Inv (m.lost x) := by
  refine ⟨I.sane.lost _, I.len, by show (m.O.set x (-1)).length = 64; rw [List.length_set]; exact I.olen, I.slot, I.dist, I.live, fun y hy => ?_⟩
  have ho : (m.lost x).o y = if x = y then -1 else m.o y := by
    show (m.O.set x (-1)).getD y 0 = _
    rw [o_set, I.olen]
    by_cases e : x = y
    · rw [if_pos ⟨e, hx⟩, if_pos e]
    · rw [if_neg (fun h => e h.1), if_neg e]; rfl
  rw [ho]
  by_cases e : x = y
  · subst e
    rw [if_pos rfl]
    exact .inl ⟨rfl, fun s hs h => ((cut_mem hs).1 h).2 rfl⟩
  · rw [if_neg e]
    rcases I.own y hy with ⟨h1, h2⟩ | ⟨j, s, hj, hs, e1, e2, e3, e4⟩
    · exact .inl ⟨h1, fun s hs h => h2 s hs ((cut_mem hs).1 h).1⟩
    · exact .inr ⟨j, s, hj, hs, e1, e2, e3, (cut_mem hs).2 ⟨e4, by omega⟩⟩
/-- The i-th handle's session has x. -/
def Mdl.owned (m : Mdl) (i s x : Nat) : Mdl := { m with ls := upd m.ls s (insT (x : Int) (m.ls s)), O := m.O.set x (i : Int) }
theorem Inv.owned {m : Mdl} (I : Inv m) {i s x : Nat} (hi : i < m.H.length) (hs : s < 16) (h0 : (m.h i).f0 = (s : Int)) (hl : m.live i = true) (hx : x < 64) (hn : ∀ j, j < 16 → (x : Int) ∉ m.ls j) : Inv (m.owned i s x) := by
  have hop : m.op s = true := by
    unfold Mdl.live at hl
    rw [h0] at hl
    exact ((live_iff hs).1 hl).1
  refine ⟨I.sane.owned hs hop (by omega) hn, I.len, by show (m.O.set x _).length = 64; rw [List.length_set]; exact I.olen, I.slot, I.dist, I.live, fun y hy => ?_⟩
  have ho : (m.owned i s x).o y = if x = y then (i : Int) else m.o y := by
    show (m.O.set x _).getD y 0 = _
    rw [o_set, I.olen]
    by_cases e : x = y
    · rw [if_pos ⟨e, hx⟩, if_pos e]
    · rw [if_neg (fun h => e h.1), if_neg e]; rfl
  have hm : ∀ t, t < 16 → (y : Int) ≠ (x : Int) → ((y : Int) ∈ (m.owned i s x).ls t ↔ (y : Int) ∈ m.ls t) := fun t ht hne => by
    show (y : Int) ∈ upd m.ls s (insT (x : Int) (m.ls s)) t ↔ _
    unfold upd
    split
    · next e => subst e; rw [insT_mem]; simp [hne]
    · exact Iff.rfl
  rw [ho]
  by_cases e : x = y
  · subst e
    rw [if_pos rfl]
    refine .inr ⟨i, s, hi, hs, rfl, hl, h0, ?_⟩
    show (x : Int) ∈ upd m.ls s (insT (x : Int) (m.ls s)) s
    unfold upd; rw [if_pos rfl]; exact insT_mem.2 (.inl rfl)
  · rw [if_neg e]
    rcases I.own y hy with ⟨h1, h2⟩ | ⟨j, t, hj, ht, e1, e2, e3, e4⟩
    · exact .inl ⟨h1, fun t ht h => h2 t ht ((hm t ht (by omega)).1 h)⟩
    · exact .inr ⟨j, t, hj, ht, e1, e2, e3, (hm t ht (by omega)).2 e4⟩
/-- Who has what is had. -/
theorem Inv.who {m : Mdl} (I : Inv m) {i s x : Nat} (hi : i < m.H.length) (hs : s < 16) (h0 : (m.h i).f0 = (s : Int)) (hl : m.live i = true) (hx : x < 64) (hin : (x : Int) ∈ m.ls s) : m.o x = (i : Int) := by
  rcases I.own x hx with ⟨_, h2⟩ | ⟨j, t, hj, ht, e1, e2, e3, e4⟩
  · exact absurd hin (h2 s hs)
  · have hts := I.sane.one t s _ ht hs e4 hin
    subst hts
    have l1 := hl
    have l2 := e2
    unfold Mdl.live at l1 l2
    rw [h0] at l1
    rw [e3] at l2
    have a1 := ((live_iff hs).1 l1).2
    have a2 := ((live_iff hs).1 l2).2
    have : m.h i = m.h j := by
      have x1 : (m.h i).f0 = (m.h j).f0 := h0.trans e3.symm
      have x2 : (m.h i).f1 = (m.h j).f1 := by rw [← a1, ← a2]
      cases h1 : m.h i
      cases h2 : m.h j
      rw [h1, h2] at x1 x2
      simp only at x1 x2
      rw [x1, x2]
    rw [e1, I.dist i j hi hj this]
/-- The owners, when what a session had is taken. -/
def freed (O : List Int) (l : List Int) : List Int := l.foldl (fun O x => O.set x.toNat (-1)) O
theorem freed_len (l : List Int) : ∀ O : List Int, (freed O l).length = O.length := by
  induction l with
  | nil => intro O; rfl
  | cons x l ih => intro O; show (freed (O.set x.toNat (-1)) l).length = _; rw [ih, List.length_set]
theorem freed_at (l : List Int) (h : ∀ x ∈ l, 0 ≤ x ∧ x < 64) : ∀ (O : List Int), O.length = 64 → ∀ y : Nat, y < 64 → (freed O l).getD y 0 = if (y : Int) ∈ l then -1 else O.getD y 0 := by
  induction l with
  | nil => intro O hO y hy; simp [freed]
  | cons x l ih =>
    intro O hO y hy
    have hx := h x List.mem_cons_self
    show (freed (O.set x.toNat (-1)) l).getD y 0 = _
    rw [ih (fun z hz => h z (List.mem_cons_of_mem _ hz)) _ (by rw [List.length_set]; exact hO) y hy, o_set, hO]
    by_cases e : (y : Int) ∈ l
    · rw [if_pos e, if_pos (List.mem_cons_of_mem _ e)]
    · rw [if_neg e]
      by_cases f : (y : Int) = x
      · rw [if_pos ⟨by omega, by omega⟩, if_pos (by rw [f]; exact List.mem_cons_self)]
      · rw [if_neg (by omega), if_neg (by intro hm; rcases List.mem_cons.1 hm with h | h <;> contradiction)]
theorem freed_snoc (O : List Int) (l : List Int) (x : Int) : freed O (l ++ [x]) = (freed O l).set x.toNat (-1) := by unfold freed; rw [List.foldl_append]; rfl
/-- The i-th handle's session closed. -/
def Mdl.closed (m : Mdl) (i s : Nat) : Mdl := { m with op := upd m.op s false, ls := upd m.ls s [], C := m.C.set i true, O := freed m.O (m.ls s) }
theorem Inv.closed {m : Mdl} (I : Inv m) {i s : Nat} (hi : i < m.H.length) (hs : s < 16) (h0 : (m.h i).f0 = (s : Int)) (hl : m.live i = true) : Inv (m.closed i s) := by
  have hli : m.op s = true ∧ m.st s = (m.h i).f1 := by
    have := hl
    unfold Mdl.live at this
    rw [h0] at this
    exact (live_iff hs).1 this
  have hoth : ∀ j, j < m.H.length → j ≠ i → ∀ t : Nat, t < 16 → (m.h j).f0 = (t : Int) → m.live j = true → t ≠ s := fun j hj hne t ht e1 e2 e => by
    subst e
    have := e2
    unfold Mdl.live at this
    rw [e1] at this
    have a := ((live_iff ht).1 this).2
    exact hne (I.dist j i hj hi (by
      have x1 : (m.h j).f0 = (m.h i).f0 := e1.trans h0.symm
      have x2 : (m.h j).f1 = (m.h i).f1 := by rw [← a, hli.2]
      cases h1 : m.h i
      cases h2 : m.h j
      rw [h1, h2] at x1 x2
      simp only at x1 x2
      rw [x1, x2]))
  have hlv : ∀ j, j < m.H.length → j ≠ i → (m.closed i s).live j = m.live j := fun j hj hne => by
    obtain ⟨t, ht, e1, e2, e3⟩ := I.slot j hj
    cases e : m.live j with
    | true =>
      have := hoth j hj hne t ht e1 e
      have h2 := e
      unfold Mdl.live at h2 ⊢
      rw [e1] at h2
      show liveS m.st (upd m.op s false) (m.h j).f0 (m.h j).f1 = true
      rw [e1, live_iff ht]
      obtain ⟨a, b⟩ := (live_iff ht).1 h2
      exact ⟨by unfold upd; rw [if_neg this]; exact a, b⟩
    | false =>
      have h2 := e
      unfold Mdl.live at h2 ⊢
      rw [e1] at h2
      show liveS m.st (upd m.op s false) (m.h j).f0 (m.h j).f1 = false
      rw [e1]
      refine live_false ht (fun h => ?_)
      obtain ⟨a, b⟩ := h
      unfold upd at a
      split at a
      · cases a
      · rw [(live_iff ht).2 ⟨a, b⟩] at h2; cases h2
  refine ⟨I.sane.closed hs, by show (m.C.set i true).length = _; rw [List.length_set]; exact I.len, by show (freed m.O _).length = 64; rw [freed_len]; exact I.olen, I.slot, I.dist, fun j hj => ?_, fun y hy => ?_⟩
  · have hj' : j < m.H.length := hj
    have hc : (m.closed i s).c j = if j = i then true else m.c j := by
      show (m.C.set i true).getD j false = _
      rw [List.getD_eq_getElem?_getD, List.getElem?_set]
      by_cases e : i = j
      · subst e; rw [if_pos rfl, if_pos (by rw [I.len]; exact hi), if_pos rfl]; rfl
      · rw [if_neg e, if_neg (fun h => e h.symm)]; rw [← List.getD_eq_getElem?_getD]; rfl
    rw [hc]
    by_cases e : j = i
    · subst e
      rw [if_pos rfl]
      unfold Mdl.live
      show liveS m.st (upd m.op s false) (m.h j).f0 (m.h j).f1 = false
      rw [h0]
      exact live_false hs (fun h => by have := h.1; simp [upd] at this)
    · rw [if_neg e, hlv j hj' e]; exact I.live j hj'
  · have ho : (m.closed i s).o y = if (y : Int) ∈ m.ls s then -1 else m.o y := freed_at (m.ls s) (I.sane.rows s hs).2 m.O I.olen y hy
    have hm : ∀ t, t < 16 → t ≠ s → (m.closed i s).ls t = m.ls t := fun t ht hne => by
      show upd m.ls s [] t = _
      unfold upd; rw [if_neg hne]
    have hm0 : (m.closed i s).ls s = [] := by
      show upd m.ls s [] s = _
      unfold upd; rw [if_pos rfl]
    rw [ho]
    by_cases e : (y : Int) ∈ m.ls s
    · rw [if_pos e]
      refine .inl ⟨rfl, fun t ht h => ?_⟩
      by_cases f : t = s
      · subst f; rw [hm0] at h; cases h
      · rw [hm t ht f] at h
        exact f (I.sane.one t s _ ht hs h e)
    · rw [if_neg e]
      rcases I.own y hy with ⟨h1, h2⟩ | ⟨j, t, hj, ht, e1, e2, e3, e4⟩
      · refine .inl ⟨h1, fun t ht h => ?_⟩
        by_cases f : t = s
        · subst f; rw [hm0] at h; cases h
        · rw [hm t ht f] at h; exact h2 t ht h
      · have hts : t ≠ s := fun f => e (f ▸ e4)
        have hji : j ≠ i := fun f => by
          subst f
          rw [h0] at e3
          omega
        exact .inr ⟨j, t, hj, ht, e1, by rw [hlv j hj hji]; exact e2, e3, by rw [hm t ht hts]; exact e4⟩
theorem Inv.start : Inv ⟨z_st, z_op, z_ls, [], [], List.replicate 64 (-1)⟩ := by
  refine ⟨z_sane, rfl, by simp, fun i hi => absurd hi (by simp), fun i j hi => absurd hi (by simp), fun i hi => absurd hi (by simp), fun x hx => .inl ⟨?_, fun s hs h => by cases h⟩⟩
  show (List.replicate 64 (-1 : Int)).getD x 0 = -1
  rw [List.getD_eq_getElem?_getD, List.getElem?_replicate, if_pos hx]; rfl
end Go.Proofs.Ytajghkmjgedikaa.Q
