/- A range over a function whose iterator keeps its place in a box of its own: the caller's invariant speaks of blocks that are the caller's alone. No condition. -/
import Derived.RangeFuncNested
import Derived.RangeFuncBound
import Derived.RangeFuncCalls
import Derived.RangeFuncLeaves
import Derived.Shelf.Abstract
import Derived.Shelf.RegionOpen
import Derived.WalkKit
import Derived.OwnWalkIn
import Derived.TacticsInMore
import Derived.LoopNIn
import Derived.LoopIn
import Derived.Below
namespace Go.Proofs.Ytnlnglfjehohpaa.RU
open Go Go.RowKit

/-- From A to B: the blocks of which Own holds lie as they lay. -/
structure Stays (Own : Nat → Prop) (A B : World) : Prop where
  os : B.os = A.os
  tape : B.tape = A.tape
  output : B.output = A.output
  size : A.heap.size ≤ B.heap.size
  block : ∀ k, Own k → k < A.heap.size → B.heap[k]? = A.heap[k]?
theorem Stays.refl (Own : Nat → Prop) (A : World) : Stays Own A A := ⟨rfl, rfl, rfl, Nat.le_refl _, fun _ _ _ => rfl⟩
theorem Stays.trans {Own : Nat → Prop} {A B C : World} (h : Stays Own A B) (k : Stays Own B C) : Stays Own A C :=
  ⟨k.os.trans h.os, k.tape.trans h.tape, k.output.trans h.output, Nat.le_trans h.size k.size, fun i hi hl => (k.block i hi (Nat.lt_of_lt_of_le hl h.size)).trans (h.block i hi hl)⟩
theorem Stays.below {Own : Nat → Prop} {A B : World} (h : Below A.heap.size A B) : Stays Own A B := ⟨h.os, h.tape, h.output, h.size, fun k _ hk => h.block k hk⟩
theorem Stays.alloc (Own : Nat → Prop) (A : World) (o : Obj) : Stays Own A (A.alloc o) := Stays.below ((Below.refl _ A).alloc (Nat.le_refl _) o)
theorem Stays.setCell {Own : Nat → Prop} {p : Addr} (h : ¬ Own p.block) (A : World) (v : Value) : Stays Own A (A.setCell p v) :=
  ⟨rfl, rfl, rfl, by simp [World.setCell], fun k hk _ => Below.heap_setCell A p v k (fun e => h (e ▸ hk))⟩
theorem Stays.putObj {Own : Nat → Prop} {l : Nat} (h : ¬ Own l) (A : World) (o : Obj) : Stays Own A (A.putObj l o) :=
  ⟨rfl, rfl, rfl, by simp [World.putObj], fun k hk _ => World.putObj_heap_other (fun e => h (by rw [← e]; exact hk))⟩
theorem Stays.mono {Own Own' : Nat → Prop} {A B : World} (h : Stays Own A B) (hm : ∀ k, Own' k → Own k) : Stays Own' A B := ⟨h.os, h.tape, h.output, h.size, fun k hk hl => h.block k (hm k hk) hl⟩

/-- I speaks of the blocks of which Own holds, alone. -/
def LocalTo {β : Type} (Own : Nat → Prop) (I : β → World → Prop) : Prop := ∀ s A B, I s A → Stays Own A B → I s B

/-- What an iterator keeps whose place lies in block B: every invariant of blocks that are Own. -/
def GivesTo {α : Type} (F : Fence) (n : Nat) (P : Program) (g : Nat) (lb : Array Value) (encs : α → Array Value) (Own : Nat → Prop) (Kp : World → World → Prop) (G : List α → World → Prop) (xs : List α) (w : World) : Prop :=
  ∀ (l : Nat) (J Jx : List α → World → Prop) (W : World), Stays (fun k => k < w.heap.size) w W → LocalTo Own J → (∀ s A, J s A → G s A) →
    (∀ pre x W1, J pre W1 → (∃ post, xs = pre ++ x :: post) → YieldAt F (n - 1) P l (encs x) W1 fun e W' =>
      (e = .returned (.bool true) ∧ J (pre ++ [x]) W' ∧ Kp W1 W') ∨ (e = .returned (.bool false) ∧ Jx (pre ++ [x]) W')) →
    J [] W →
    CallsIn F n P g (#[.func (.yield l) #[] #[]] ++ lb) W fun e W' => (∃ v, e = .returned v) ∧ (J xs W' ∨ ∃ pre post, xs = pre ++ post ∧ Jx pre W')

/-- How a round may be left: what lies at b and b + 1 (the loop's own) stays. -/
def leftBy {α : Type} (b : Nat) (Kp : World → World → Prop) (I : List α → World → Prop) (Ix : Code → List α → World → Prop) (xs : List α) (W : World) : Exit → Act → World → Prop
  | .normal, _, W' => Stays (fun k => k = b ∨ k = b + 1) W W' ∧ Kp W W' ∧ I xs W'
  | .ret, _, W' => Stays (fun k => k = b ∨ k = b + 1) W W' ∧ Ix .ret xs W'
  | .exit id, _, W' => Stays (fun k => k = b ∨ k = b + 1) W W' ∧ Ix (.exit id) xs W'
  | .goto t, _, W' => Stays (fun k => k = b ∨ k = b + 1) W W' ∧ Ix (.goto t) xs W'
  | .panic _, _, _ => False
  | .outgrown, _, _ => False

variable {F : Fence} {n : Nat} {P : Program}

theorem range_over {α : Type} {g : Operand} {ps : Array Tmp} {assign body : Code} {Q : Exit → Act → World → Prop} {a : Act} {w : World}
    (hro : F.round = none) (h1 : 1 ≤ n) {gf : Nat} {lb : Array Value} (hg : a.eval g = .func (.func gf) #[] lb) (hFg : F.fn gf) (eg : ∀ args w, (callFunc gf args).run P w = .ok (.enter gf args) w)
    {encs : α → Array Value} {Own : Nat → Prop} {Kp : World → World → Prop} {G : List α → World → Prop} {xs : List α} (hseq : GivesTo F (n - 1) P gf lb encs (fun k => Own k ∨ k = w.heap.size ∨ k = w.heap.size + 1) Kp G xs w)
    (hown : ∀ k, Own k → k < w.heap.size)
    (hKt : ∀ {A B C : World}, Kp A B → Kp B C → Kp A C) (hKb : ∀ (W : World) (l : Nat) (o : Obj), w.heap.size ≤ l → Kp W (W.putObj l o)) (hps : ∀ x, (encs x).size = ps.size)
    (I : List α → World → Prop) (Ix : Code → List α → World → Prop) (hI : LocalTo Own I) (hIx : ∀ c, LocalTo Own (Ix c)) (hG : ∀ s A, I s A → G s A) (h0 : I [] w) (a₁ : α → Act)
    (hassign : ∀ (l : Nat) (x : α) (W : World) (K : Act → World → Prop), K (a₁ x) W →
      assign.wpIn (F.inRound l) (n - 1 - 1) P (Exit.then K (fun _ _ _ => False)) { tmps := (ps.zip (encs x)).foldl (fun t (p, v) => t.setIfInBounds p v) a.tmps, defers := [] } W)
    (hbody : ∀ (l : Nat) (pre : List α) (x : α) (W : World), I pre W → (∃ post, xs = pre ++ x :: post) → w.heap.size + 1 < W.heap.size → body.wpIn (F.inRound l) (n - 1 - 1) P (leftBy w.heap.size Kp I Ix (pre ++ [x]) W) (a₁ x) W)
    (hdone : ∀ (W : World), I xs W → W.heap[w.heap.size]? = some (.deferred (some [])) → Q .normal { a with defers := { target := .collected w.heap.size, args := #[] } :: a.defers } W)
    (hstop : ∀ (c : Code) (pre post : List α) (W : World), xs = pre ++ post → Ix c pre W → W.heap[w.heap.size]? = some (.deferred (some [])) → c.wpIn F n P Q { a with defers := { target := .collected w.heap.size, args := #[] } :: a.defers } W) :
    (Code.rangeFunc g ps assign body).wpIn F n P Q a w := by
  refine wpIn_rangeFunc ?_
  intro fn hfn
  rw [hro]
  obtain ⟨rec, hrec⟩ : ∃ rec : LoopState → Option Code → Loop, rec = fun st pe => { state := st, pending := pe, fn, tmps := a.tmps, params := ps, assign, body, defers := w.heap.size } := ⟨_, rfl⟩
  obtain ⟨b, hb⟩ : ∃ b, b = w.heap.size := ⟨_, rfl⟩
  obtain ⟨W1, hW1⟩ : ∃ W1, (w.alloc (.deferred (some []))).alloc (.loop (rec .ready none)) = W1 := ⟨_, rfl⟩
  have hL1 : W1.heap[b + 1]? = some (.loop (rec .ready none)) := by
    rw [← hW1, hb]; have := World.alloc_heap_new (w.alloc (.deferred (some []))) (.loop (rec .ready none)); rwa [World.size_alloc] at this
  have hK1 : W1.heap[b]? = some (.deferred (some [])) := by
    rw [← hW1, hb]; exact (Below.heap_alloc _ _ _ (by simp)).trans (World.alloc_heap_new w _)
  have hst1 : ∀ O : Nat → Prop, Stays O w W1 := fun O => by rw [← hW1]; exact (Stays.alloc O w _).trans (Stays.alloc O _ _)
  have hI1 : I [] W1 := hI _ _ _ h0 (hst1 _)
  have hno : ∀ l, w.heap.size ≤ l → ¬ Own l := fun l hl ho => by have := hown l ho; omega
  refine ⟨w.heap.size + 1, [{ target := .collected w.heap.size, args := #[] }], W1, { target := .fn (.func gf) lb, args := #[.func (.yield (w.heap.size + 1)) #[] #[]] }, W1, gf,
    #[.func (.yield (w.heap.size + 1)) #[] #[]] ++ lb, W1, ?_, ?_, ?_, ?_, fun _ => h1, ?_⟩
  · rw [← hW1, hrec]; exact run_enterLoop_outer _ _ _ _ _
  · simp only [resolve, hg]
    simp [go_sem]
  · intro f' hf'; simp [Target.leads] at hf'; subst hf'; exact hFg
  · simp [invoke, go_sem, eg]
  · have hpI : ∀ s A l o, I s A → w.heap.size ≤ l → I s (A.putObj l o) := fun s A l o h hl => hI s A _ h (Stays.putObj (hno l hl) A o)
    have hpX : ∀ c s A l o, Ix c s A → w.heap.size ≤ l → Ix c s (A.putObj l o) := fun c s A l o h hl => hIx c s A _ h (Stays.putObj (hno l hl) A o)
    refine (hseq (w.heap.size + 1)
      (fun pre W => I pre W ∧ W.heap[b + 1]? = some (.loop (rec .ready none)) ∧ W.heap[b]? = some (.deferred (some [])))
      (fun pre W => ∃ c, Ix c pre W ∧ W.heap[b + 1]? = some (.loop (rec .done (some c))) ∧ W.heap[b]? = some (.deferred (some [])))
      W1 (hst1 _)
      (fun s A B hs hst => ⟨hI s A B hs.1 (hst.mono (fun k hk => .inl hk)),
        (hst.block (b + 1) (.inr (.inr (by rw [hb]))) (Array.getElem?_eq_some_iff.1 hs.2.1).1).trans hs.2.1,
        (hst.block b (.inr (.inl hb)) (Array.getElem?_eq_some_iff.1 hs.2.2).1).trans hs.2.2⟩)
      (fun s A hs => hG s A hs.1)
      ?_ ⟨hI1, hL1, hK1⟩).mono ?_
    · rintro pre x W ⟨hi, hl, hk⟩ hpost
      have hlt : b + 1 < W.heap.size := (Array.getElem?_eq_some_iff.1 hl).1
      have hl' : W.heap[w.heap.size + 1]? = some (.loop (rec .ready none)) := by rw [← hb]; exact hl
      have hy := run_yield (P := P) (args := encs x) hl' (by rw [hrec]; exact hps x)
      rw [hrec] at hy
      refine ⟨fn, _, assign, body, hy, roundIn_of_wpIn hfn (hassign _ x W _ ?_)⟩
      clear hy
      rw [← hb]
      refine ⟨_, run_beginRound hl (by rw [hrec]), ?_⟩
      have hl2 : (W.putObj (b + 1) (.loop { rec .ready none with state := .busy })).heap[b + 1]? = some (.loop { rec .ready none with state := .busy }) := World.putObj_heap_same hlt
      have hk2 : (W.putObj (b + 1) (.loop { rec .ready none with state := .busy })).heap[b]? = some (.deferred (some [])) := (World.putObj_heap_other (by omega)).trans hk
      have hw2 : Kp W (W.putObj (b + 1) (.loop { rec .ready none with state := .busy })) := hKb _ _ _ (by omega)
      have hsz2 : (W.putObj (b + 1) (.loop { rec .ready none with state := .busy })).heap.size = W.heap.size := by simp [World.putObj]
      refine wpIn_mono (hbody _ pre x _ (hpI _ _ _ _ hi (by omega)) hpost (by rw [hsz2, ← hb]; exact hlt)) ?_
      have fin : ∀ (jump : Option Code) (W3 : World), Stays (fun k => k = w.heap.size ∨ k = w.heap.size + 1) (W.putObj (b + 1) (.loop { rec .ready none with state := .busy })) W3 →
          (Instr.endRound (b + 1) jump).run P W3 = .ok (.bool jump.isNone) (W3.putObj (b + 1) (.loop (rec (if jump.isNone then .ready else .done) jump))) ∧
          (W3.putObj (b + 1) (.loop (rec (if jump.isNone then .ready else .done) jump))).heap[b + 1]? = some (.loop (rec (if jump.isNone then .ready else .done) jump)) ∧
          (W3.putObj (b + 1) (.loop (rec (if jump.isNone then .ready else .done) jump))).heap[b]? = some (.deferred (some [])) := fun jump W3 hk3 => by
        have hl3 := (hk3.block (b + 1) (.inr (by rw [hb])) (by omega)).trans hl2
        have := run_endRound (P := P) jump hl3
        rw [hrec] at this ⊢
        exact ⟨this, World.putObj_heap_same (Array.getElem?_eq_some_iff.1 hl3).1, (World.putObj_heap_other (by omega)).trans ((hk3.block b (.inl hb) (by omega)).trans hk2)⟩
      rintro e a3 W3 hp
      cases e with
      | normal =>
        obtain ⟨hk3, hkp3, hi3⟩ := hp
        obtain ⟨hr, hl4, hk4⟩ := fin none W3 hk3
        exact ⟨_, _, hr, .inl ⟨rfl, ⟨hpI _ _ _ _ hi3 (by omega), hl4, hk4⟩, hKt (hKt hw2 hkp3) (hKb _ _ _ (by omega))⟩⟩
      | ret =>
        obtain ⟨hk3, hi3⟩ := hp
        obtain ⟨hr, hl4, hk4⟩ := fin (some .ret) W3 hk3
        exact ⟨_, _, hr, .inr ⟨rfl, .ret, hpX _ _ _ _ _ hi3 (by omega), hl4, hk4⟩⟩
      | exit id =>
        obtain ⟨hk3, hi3⟩ := hp
        obtain ⟨hr, hl4, hk4⟩ := fin (some (.exit id)) W3 hk3
        exact ⟨_, _, hr, .inr ⟨rfl, .exit id, hpX _ _ _ _ _ hi3 (by omega), hl4, hk4⟩⟩
      | goto t =>
        obtain ⟨hk3, hi3⟩ := hp
        obtain ⟨hr, hl4, hk4⟩ := fin (some (.goto t)) W3 hk3
        exact ⟨_, _, hr, .inr ⟨rfl, .goto t, hpX _ _ _ _ _ hi3 (by omega), hl4, hk4⟩⟩
      | panic ch => exact hp.elim
      | outgrown => exact hp.elim
    · rintro e W2 ⟨⟨v, rfl⟩, (⟨hi, hl, hk⟩ | ⟨pre, post, hx, c, hi, hl, hk⟩)⟩
      · have hr := run_endLoop (P := P) hl (by rw [hrec]; simp)
        rw [hrec] at hr
        rw [hb] at hr
        exact ⟨none, _, hr, hdone _ (hpI _ _ _ _ hi (by omega)) (by rw [← hb]; exact (World.putObj_heap_other (by omega)).trans hk)⟩
      · have hr := run_endLoop (P := P) hl (by rw [hrec]; simp)
        rw [hrec] at hr
        rw [hb] at hr
        exact ⟨some c, _, hr, hstop c pre post _ hx (hpX _ _ _ _ _ hi (by omega)) (by rw [← hb]; exact (World.putObj_heap_other (by omega)).trans hk)⟩
end Go.Proofs.Ytnlnglfjehohpaa.RU
