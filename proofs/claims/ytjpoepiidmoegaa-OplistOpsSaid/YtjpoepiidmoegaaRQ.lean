/- A range over a function whose iterator writes nothing: the caller's invariant abides what is done to the loop's own two blocks; the loop's variables may lie in boxes. No condition. -/
import Derived.Test.YtjpoepiidmoegaaRU
namespace Go.Proofs.Ytjpoepiidmoegaa.RU
open Go Go.RowKit

/-- What an iterator that only reads keeps: every invariant. -/
def GivesQ {α : Type} (F : Fence) (n : Nat) (P : Program) (g : Nat) (lb : Array Value) (encs : α → Array Value) (G : World → Prop) (xs : List α) : Prop :=
  ∀ (l : Nat) (J Jx : List α → World → Prop) (W : World), (∀ s A, J s A → G A) →
    (∀ pre x W1, J pre W1 → (∃ post, xs = pre ++ x :: post) → YieldAt F (n - 1) P l (encs x) W1 fun e W' =>
      (e = .returned (.bool true) ∧ J (pre ++ [x]) W') ∨ (e = .returned (.bool false) ∧ Jx (pre ++ [x]) W')) →
    J [] W →
    CallsIn F n P g (#[.func (.yield l) #[] #[]] ++ lb) W fun e W' => (∃ v, e = .returned v) ∧ (J xs W' ∨ ∃ pre post, xs = pre ++ post ∧ Jx pre W')

/-- How a round may be left: what lies at b and b + 1 (the loop's own) stays. -/
def leftQ {α : Type} (b : Nat) (I : List α → World → Prop) (Ix : Code → List α → World → Prop) (xs : List α) (W : World) : Exit → Act → World → Prop
  | .normal, _, W' => Stays (fun k => k = b ∨ k = b + 1) W W' ∧ I xs W'
  | .ret, _, W' => Stays (fun k => k = b ∨ k = b + 1) W W' ∧ Ix .ret xs W'
  | .exit id, _, W' => Stays (fun k => k = b ∨ k = b + 1) W W' ∧ Ix (.exit id) xs W'
  | .goto t, _, W' => Stays (fun k => k = b ∨ k = b + 1) W W' ∧ Ix (.goto t) xs W'
  | .panic _, _, _ => False
  | .outgrown, _, _ => False

variable {F : Fence} {n : Nat} {P : Program}

theorem range_quiet {α : Type} {g : Operand} {ps : Array Tmp} {assign body : Code} {Q : Exit → Act → World → Prop} {a : Act} {w : World}
    (hro : F.round = none) (h1 : 1 ≤ n) {gf : Nat} {lb : Array Value} (hg : a.eval g = .func (.func gf) #[] lb) (hFg : F.fn gf) (eg : ∀ args w, (callFunc gf args).run P w = .ok (.enter gf args) w)
    {encs : α → Array Value} {G : World → Prop} {xs : List α} (hseq : GivesQ F (n - 1) P gf lb encs G xs)
    (hps : ∀ x, (encs x).size = ps.size)
    (I : List α → World → Prop) (Ix : Code → List α → World → Prop)
    (hI : ∀ s A l o o', I s A → w.heap.size ≤ l → A.heap[l]? = some o → o.isCells = false → I s (A.putObj l o'))
    (hIx : ∀ c s A l o o', Ix c s A → w.heap.size ≤ l → A.heap[l]? = some o → o.isCells = false → Ix c s (A.putObj l o'))
    (hG : ∀ s A, I s A → G A) (h0 : ∀ o o', I [] ((w.alloc o).alloc o')) (Ax : α → Act → World → Prop)
    (hAx : ∀ x a' A l o o', Ax x a' A → w.heap.size ≤ l → A.heap[l]? = some o → o.isCells = false → Ax x a' (A.putObj l o'))
    (hassign : ∀ (l : Nat) (pre : List α) (x : α) (W : World) (K : Act → World → Prop), I pre W → w.heap.size + 1 < W.heap.size →
      (∀ a' W', I pre W' → Stays (fun k => k = w.heap.size ∨ k = w.heap.size + 1) W W' → Ax x a' W' → K a' W') →
      assign.wpIn (F.inRound l) (n - 1 - 1) P (Exit.then K (fun _ _ _ => False)) { tmps := (ps.zip (encs x)).foldl (fun t (p, v) => t.setIfInBounds p v) a.tmps, defers := [] } W)
    (hbody : ∀ (l : Nat) (pre : List α) (x : α) (a' : Act) (W : World), Ax x a' W → I pre W → (∃ post, xs = pre ++ x :: post) → w.heap.size + 1 < W.heap.size → body.wpIn (F.inRound l) (n - 1 - 1) P (leftQ w.heap.size I Ix (pre ++ [x]) W) a' W)
    (hdone : ∀ (W : World), I xs W → W.heap[w.heap.size]? = some (.deferred (some [])) → Q .normal { a with defers := { target := .collected w.heap.size, args := #[] } :: a.defers } W)
    (hstop : ∀ (c : Code) (pre post : List α) (W : World), xs = pre ++ post → Ix c pre W → W.heap[w.heap.size]? = some (.deferred (some [])) → c.wpIn F n P Q { a with defers := { target := .collected w.heap.size, args := #[] } :: a.defers } W) :
    (Code.rangeFunc g ps assign body).wpIn F n P Q a w := by
  refine wpIn_rangeFunc ?_
  intro fn hfn
  rw [hro]
  obtain ⟨rec, hrec⟩ : ∃ rec : LoopState → Option Code → Loop, rec = fun st pe => { state := st, pending := pe, fn, tmps := a.tmps, params := ps, assign, body, defers := w.heap.size } := ⟨_, rfl⟩
  obtain ⟨b, hb⟩ : ∃ b, b = w.heap.size := ⟨_, rfl⟩
  obtain ⟨W1, hW1⟩ : ∃ W1, (w.alloc (.deferred (some []))).alloc (.loop (rec .ready none)) = W1 := ⟨_, rfl⟩
  have hL1 : W1.heap[b + 1]? = some (.loop (rec .ready none)) := by
    rw [← hW1, hb]; have := World.alloc_heap_new (w.alloc (.deferred (some []))) (.loop (rec .ready none)); rwa [World.size_alloc] at this
  have hK1 : W1.heap[b]? = some (.deferred (some [])) := by
    rw [← hW1, hb]; exact (Below.heap_alloc _ _ _ (by simp)).trans (World.alloc_heap_new w _)
  have hI1 : I [] W1 := by rw [← hW1]; exact h0 _ _
  refine ⟨w.heap.size + 1, [{ target := .collected w.heap.size, args := #[] }], W1, { target := .fn (.func gf) lb, args := #[.func (.yield (w.heap.size + 1)) #[] #[]] }, W1, gf,
    #[.func (.yield (w.heap.size + 1)) #[] #[]] ++ lb, W1, ?_, ?_, ?_, ?_, fun _ => h1, ?_⟩
  · rw [← hW1, hrec]; exact run_enterLoop_outer _ _ _ _ _
  · simp only [resolve, hg]
    simp [go_sem]
  · intro f' hf'; simp [Target.leads] at hf'; subst hf'; exact hFg
  · simp [invoke, go_sem, eg]
  · refine (hseq (w.heap.size + 1)
      (fun pre W => I pre W ∧ W.heap[b + 1]? = some (.loop (rec .ready none)) ∧ W.heap[b]? = some (.deferred (some [])))
      (fun pre W => ∃ c, Ix c pre W ∧ W.heap[b + 1]? = some (.loop (rec .done (some c))) ∧ W.heap[b]? = some (.deferred (some [])))
      W1
      (fun s A hs => hG s A hs.1)
      ?_ ⟨hI1, hL1, hK1⟩).mono ?_
    · rintro pre x W ⟨hi, hl, hk⟩ hpost
      have hlt : b + 1 < W.heap.size := (Array.getElem?_eq_some_iff.1 hl).1
      have hl' : W.heap[w.heap.size + 1]? = some (.loop (rec .ready none)) := by rw [← hb]; exact hl
      have hy := run_yield (P := P) (args := encs x) hl' (by rw [hrec]; exact hps x)
      rw [hrec] at hy
      refine ⟨fn, _, assign, body, hy, roundIn_of_wpIn hfn (hassign _ pre x W _ hi (by rw [← hb]; exact hlt) ?_)⟩
      clear hy
      intro a' W' hi' hst' hax
      rw [← hb]
      have hl := (hst'.block (b + 1) (.inr (by rw [hb])) hlt).trans hl
      have hk := (hst'.block b (.inl hb) (by omega)).trans hk
      have hlt : b + 1 < W'.heap.size := (Array.getElem?_eq_some_iff.1 hl).1
      clear hst' hl' hi
      have hi := hi'
      clear hi'
      refine ⟨_, run_beginRound hl (by rw [hrec]), ?_⟩
      have hl2 : (W'.putObj (b + 1) (.loop { rec .ready none with state := .busy })).heap[b + 1]? = some (.loop { rec .ready none with state := .busy }) := World.putObj_heap_same hlt
      have hk2 : (W'.putObj (b + 1) (.loop { rec .ready none with state := .busy })).heap[b]? = some (.deferred (some [])) := (World.putObj_heap_other (by omega)).trans hk
      have hsz2 : (W'.putObj (b + 1) (.loop { rec .ready none with state := .busy })).heap.size = W'.heap.size := by simp [World.putObj]
      refine wpIn_mono (hbody _ pre x a' _ (hAx _ _ _ _ _ _ hax (by omega) hl rfl) (hI _ _ _ _ _ hi (by omega) hl rfl) hpost (by rw [hsz2, ← hb]; exact hlt)) ?_
      have fin : ∀ (jump : Option Code) (W3 : World), Stays (fun k => k = w.heap.size ∨ k = w.heap.size + 1) (W'.putObj (b + 1) (.loop { rec .ready none with state := .busy })) W3 →
          (∃ o, W3.heap[b + 1]? = some o ∧ o.isCells = false) ∧ (Instr.endRound (b + 1) jump).run P W3 = .ok (.bool jump.isNone) (W3.putObj (b + 1) (.loop (rec (if jump.isNone then .ready else .done) jump))) ∧
          (W3.putObj (b + 1) (.loop (rec (if jump.isNone then .ready else .done) jump))).heap[b + 1]? = some (.loop (rec (if jump.isNone then .ready else .done) jump)) ∧
          (W3.putObj (b + 1) (.loop (rec (if jump.isNone then .ready else .done) jump))).heap[b]? = some (.deferred (some [])) := fun jump W3 hk3 => by
        have hl3 := (hk3.block (b + 1) (.inr (by rw [hb])) (by omega)).trans hl2
        have := run_endRound (P := P) jump hl3
        rw [hrec] at this ⊢
        exact ⟨⟨_, hl3, rfl⟩, this, World.putObj_heap_same (Array.getElem?_eq_some_iff.1 hl3).1, (World.putObj_heap_other (by omega)).trans ((hk3.block b (.inl hb) (by omega)).trans hk2)⟩
      rintro e a3 W3 hp
      cases e with
      | normal =>
        obtain ⟨hk3, hi3⟩ := hp
        obtain ⟨⟨o3, ho3, hc3⟩, hr, hl4, hk4⟩ := fin none W3 hk3
        exact ⟨_, _, hr, .inl ⟨rfl, ⟨hI _ _ _ _ _ hi3 (by omega) ho3 hc3, hl4, hk4⟩⟩⟩
      | ret =>
        obtain ⟨hk3, hi3⟩ := hp
        obtain ⟨⟨o3, ho3, hc3⟩, hr, hl4, hk4⟩ := fin (some .ret) W3 hk3
        exact ⟨_, _, hr, .inr ⟨rfl, .ret, hIx _ _ _ _ _ _ hi3 (by omega) ho3 hc3, hl4, hk4⟩⟩
      | exit id =>
        obtain ⟨hk3, hi3⟩ := hp
        obtain ⟨⟨o3, ho3, hc3⟩, hr, hl4, hk4⟩ := fin (some (.exit id)) W3 hk3
        exact ⟨_, _, hr, .inr ⟨rfl, .exit id, hIx _ _ _ _ _ _ hi3 (by omega) ho3 hc3, hl4, hk4⟩⟩
      | goto t =>
        obtain ⟨hk3, hi3⟩ := hp
        obtain ⟨⟨o3, ho3, hc3⟩, hr, hl4, hk4⟩ := fin (some (.goto t)) W3 hk3
        exact ⟨_, _, hr, .inr ⟨rfl, .goto t, hIx _ _ _ _ _ _ hi3 (by omega) ho3 hc3, hl4, hk4⟩⟩
      | panic ch => exact hp.elim
      | outgrown => exact hp.elim
    · rintro e W2 ⟨⟨v, rfl⟩, (⟨hi, hl, hk⟩ | ⟨pre, post, hx, c, hi, hl, hk⟩)⟩
      · have hr := run_endLoop (P := P) hl (by rw [hrec]; simp)
        rw [hrec] at hr
        rw [hb] at hr
        exact ⟨none, _, hr, hdone _ (hI _ _ _ (.loop (rec .ready none)) _ hi (by omega) (by rw [← hb]; exact hl) rfl) (by rw [← hb]; exact (World.putObj_heap_other (by omega)).trans hk)⟩
      · have hr := run_endLoop (P := P) hl (by rw [hrec]; simp)
        rw [hrec] at hr
        rw [hb] at hr
        exact ⟨some c, _, hr, hstop c pre post _ hx (hIx _ _ _ _ (.loop (rec .done (some c))) _ hi (by omega) (by rw [← hb]; exact hl) rfl) (by rw [← hb]; exact (World.putObj_heap_other (by omega)).trans hk)⟩
end Go.Proofs.Ytjpoepiidmoegaa.RU
