/- A range over a function whose iterator keeps cells of its own: the caller's invariant speaks only of what lay before the call. -/
import Derived.RangeFuncFrom
import Derived.RangeFuncCalls
namespace Go.Proofs.YtbafofldgkigmaaGreatDoor
open Go Go.RowKit
/-- It stays where nothing below n0 is touched. -/
def BelowOk {β : Type} (n0 : Nat) (J : β → World → Prop) : Prop := ∀ s A B, J s A → Below n0 A B → J s B
theorem BelowOk.put {β : Type} {n0 : Nat} {J : β → World → Prop} (h : BelowOk n0 J) {s : β} {W : World} {l : Nat} {o : Obj} (o' : Obj) (hs : J s W) (hl : n0 ≤ l) (ho : W.heap[l]? = some o) : J s (W.putObj l o') :=
  h s W _ hs ((Below.refl n0 W).grown (grownBy_putObj' W l o') (by have := (Array.getElem?_eq_some_iff.1 ho).1; omega) (fun k e => by cases e; omega))
/-- What an iterator owes to a caller whose rounds keep Kp. -/
def SeqB {α : Type} (F : Fence) (n : Nat) (P : Program) (g : Nat) (lb : Array Value) (encs : α → Array Value) (Kp : World → World → Prop) (S : List α → Prop) (N : Nat) (w : World) : Prop :=
  ∀ (l : Nat) (J Jx : List α → World → Prop) (W : World), Below w.heap.size w W → BelowOk W.heap.size J → BelowOk W.heap.size Jx →
    (∀ pre x W1, J pre W1 → pre.length < N → YieldAt F (n - 1) P l (encs x) W1 fun e W' =>
      (e = .returned (.bool true) ∧ J (pre ++ [x]) W' ∧ Kp W1 W') ∨ (e = .returned (.bool false) ∧ Jx (pre ++ [x]) W')) →
    J [] W →
    CallsIn F n P g (#[.func (.yield l) #[] #[]] ++ lb) W fun e W' => (∃ v, e = .returned v) ∧ ((∃ xs, S xs ∧ J xs W') ∨ (∃ pre, Jx pre W'))
theorem wpIn_rangeFunc_B {F : Fence} {n : Nat} {P : Program} {α : Type} {g : Operand} {ps : Array Tmp} {assign body : Code} {Q : Exit → Act → World → Prop} {a : Act} {w : World}
    (hro : F.round = none) (h1 : 1 ≤ n) {gf : Nat} {lb : Array Value} (hg : a.eval g = .func (.func gf) #[] lb) (hFg : F.fn gf) (eg : ∀ args w, (callFunc gf args).run P w = .ok (.enter gf args) w)
    {encs : α → Array Value} {Kp : World → World → Prop} {S : List α → Prop} {N : Nat} (hseq : SeqB F (n - 1) P gf lb encs Kp S N w)
    (hKt : ∀ {A B C : World}, Kp A B → Kp B C → Kp A C) (hKb : ∀ (W : World) (l : Nat) (o o' : Obj), w.heap.size ≤ l → W.heap[l]? = some o → o.isCells = false → o.isWalk = false → Kp W (W.putObj l o')) (hps : ∀ x, (encs x).size = ps.size)
    (I : List α → World → Prop) (Ix : Code → List α → World → Prop) (hI : BelowOk w.heap.size I) (hIx : ∀ c, BelowOk w.heap.size (Ix c)) (h0 : I [] w) (Ia : Array Value → List α → α → Act → World → Prop)
    (hIa : ∀ pre x a' W l o o', Ia a.tmps pre x a' W → w.heap.size ≤ l → W.heap[l]? = some o → o.isCells = false → Ia a.tmps pre x a' (W.putObj l o'))
    (hassign : ∀ (l : Nat) (pre : List α) (x : α) (W : World), I pre W → pre.length < N →
      assign.wpIn (F.inRound l) (n - 1 - 1) P (Exit.then (fun a' W' => KeepsOthers W W' ∧ Kp W W' ∧ Ia a.tmps pre x a' W') (fun _ _ _ => False)) { tmps := (ps.zip (encs x)).foldl (fun t (p, v) => t.setIfInBounds p v) a.tmps, defers := [] } W)
    (hbody : ∀ (l : Nat) (pre : List α) (x : α) (a' : Act) (W : World), Ia a.tmps pre x a' W → pre.length < N → body.wpIn (F.inRound l) (n - 1 - 1) P (ownPostK Kp I Ix (pre ++ [x]) W) a' W)
    (hdone : ∀ (D : Nat) (xs : List α) (W : World), w.heap.size ≤ D → S xs → I xs W → W.heap[D]? = some (.deferred (some [])) → Q .normal { a with defers := { target := .collected D, args := #[] } :: a.defers } W)
    (hstop : ∀ (D : Nat) (c : Code) (pre : List α) (W : World), w.heap.size ≤ D → Ix c pre W → W.heap[D]? = some (.deferred (some [])) → c.wpIn F n P Q { a with defers := { target := .collected D, args := #[] } :: a.defers } W) :
    (Code.rangeFunc g ps assign body).wpIn F n P Q a w := by
  refine wpIn_rangeFunc ?_
  intro fn hfn
  rw [hro]
  -- the loop's own record, by its state and by what is to be done behind it
  obtain ⟨R, hR⟩ : ∃ R : LoopState → Option Code → Loop, R = fun s c => { state := s, pending := c, fn, tmps := a.tmps, params := ps, assign, body, defers := w.heap.size } := ⟨_, rfl⟩
  have hlen : ∀ {W : World} {k : Nat} {o : Obj}, W.heap[k]? = some o → k < W.heap.size := fun h => (Array.getElem?_eq_some_iff.1 h).1
  generalize hD : w.heap.size = D at *
  obtain ⟨A, hA⟩ : ∃ A, (w.alloc (.deferred (some []))).alloc (.loop (R .ready none)) = A := ⟨_, rfl⟩
  have hAL : A.heap[D + 1]? = some (.loop (R .ready none)) := by
    subst hA hD
    simpa [World.size_alloc] using World.alloc_heap_new (w.alloc (.deferred (some []))) (.loop (R .ready none))
  have hAD : A.heap[D]? = some (.deferred (some [])) := by
    subst hA hD
    exact (Below.heap_alloc _ _ _ (by simp)).trans (World.alloc_heap_new w _)
  have hAw : Below D w A := by
    subst hA hD
    exact ((Below.refl _ w).alloc (Nat.le_refl _) _).alloc (by simp) _
  have hAs : D + 2 ≤ A.heap.size := by have := hlen hAL; omega
  refine ⟨D + 1, [{ target := .collected D, args := #[] }], A, { target := .fn (.func gf) lb, args := #[.func (.yield (D + 1)) #[] #[]] }, A, gf, #[.func (.yield (D + 1)) #[] #[]] ++ lb, A, ?_, ?_, ?_, ?_, fun _ => h1, ?_⟩
  · subst hA hR hD
    exact run_enterLoop_outer _ _ _ _ _
  · simp only [resolve, hg]
    simp [go_sem]
  · intro f' hf'
    simp [Target.leads] at hf'
    subst hf'
    exact hFg
  · simp [invoke, go_sem, eg]
  have hLater : ∀ {X Y : World} {k : Nat} {o : Obj}, Below A.heap.size X Y → k < D + 2 → X.heap[k]? = some o → Y.heap[k]? = some o := fun h hk he => by rw [h.block _ (by omega)]; exact he
  refine (hseq (D + 1) (fun pre W => I pre W ∧ W.heap[D + 1]? = some (.loop (R .ready none)) ∧ W.heap[D]? = some (.deferred (some [])))
    (fun pre W => ∃ c, Ix c pre W ∧ W.heap[D + 1]? = some (.loop (R .done (some c))) ∧ W.heap[D]? = some (.deferred (some []))) A (by rw [hD]; exact hAw)
    (fun s X Y hs hb => ⟨hI s X Y hs.1 (hb.mono (by omega)), hLater hb (by omega) hs.2.1, hLater hb (by omega) hs.2.2⟩)
    (fun s X Y hs hb => by
      obtain ⟨c, hc, h2, h3⟩ := hs
      exact ⟨c, hIx c s X Y hc (hb.mono (by omega)), hLater hb (by omega) h2, hLater hb (by omega) h3⟩) ?_ ⟨hI _ _ _ h0 hAw, hAL, hAD⟩).mono ?_
  · -- a round
    rintro pre x W ⟨hi, hl, hk⟩ hN
    have hy := run_yield (P := P) (args := encs x) hl (by rw [hR]; exact hps x)
    rw [hR] at hy
    refine ⟨fn, _, assign, body, hy, roundIn_of_wpIn hfn (wpIn_mono (hassign (D + 1) pre x W hi hN) ?_)⟩
    rintro e0 a0 V hp0
    cases e0 with
    | ret => exact hp0.elim
    | exit id => exact hp0.elim
    | goto t => exact hp0.elim
    | panic ch => exact hp0.elim
    | outgrown => exact hp0.elim
    | normal =>
    obtain ⟨hV, hVp, hVi⟩ := hp0
    replace hl := hV.same _ _ hl rfl
    replace hk := hV.same _ _ hk rfl
    refine ⟨_, run_beginRound hl (by rw [hR]), ?_⟩
    obtain ⟨B, hB⟩ : ∃ B, V.putObj (D + 1) (.loop { R .ready none with state := .busy }) = B := ⟨_, rfl⟩
    rw [hB]
    have hBl : B.heap[D + 1]? = some (.loop { R .ready none with state := .busy }) := by rw [← hB]; exact World.putObj_heap_same (hlen hl)
    have hBk : B.heap[D]? = some (.deferred (some [])) := by rw [← hB]; exact (World.putObj_heap_other (by omega)).trans hk
    have hBi : Ia a.tmps pre x a0 B := by rw [← hB]; exact hIa _ _ _ _ _ _ _ hVi (by omega) hl rfl
    have hBp : Kp W B := by rw [← hB]; exact hKt hVp (hKb _ _ _ _ (by omega) hl rfl rfl)
    refine wpIn_mono (hbody _ pre x a0 _ hBi hN) ?_
    have fin : ∀ (j : Option Code) (C : World), KeepsOthers B C → C.heap[D + 1]? = some (.loop { R .ready none with state := .busy }) ∧
        (Instr.endRound (D + 1) j).run P C = .ok (.bool j.isNone) (C.putObj (D + 1) (.loop (R (if j.isNone then .ready else .done) j))) ∧
        (C.putObj (D + 1) (.loop (R (if j.isNone then .ready else .done) j))).heap[D + 1]? = some (.loop (R (if j.isNone then .ready else .done) j)) ∧
        (C.putObj (D + 1) (.loop (R (if j.isNone then .ready else .done) j))).heap[D]? = some (.deferred (some [])) := fun j C hC => by
      have h3 := hC.same _ _ hBl rfl
      have h4 := run_endRound (P := P) j h3
      rw [hR] at h3 h4 ⊢
      exact ⟨h3, h4, World.putObj_heap_same (hlen h3), (World.putObj_heap_other (by omega)).trans (hC.same _ _ hBk rfl)⟩
    rintro e a3 C hp
    cases e with
    | normal =>
      obtain ⟨hC, hCp, hCi⟩ := hp
      obtain ⟨h3, h4, h5, h6⟩ := fin none C hC
      exact ⟨_, _, h4, .inl ⟨rfl, ⟨hI.put _ hCi (by omega) h3, h5, h6⟩, hKt (hKt hBp hCp) (hKb _ _ _ _ (by omega) h3 rfl rfl)⟩⟩
    | ret =>
      obtain ⟨hC, hCi⟩ := hp
      obtain ⟨h3, h4, h5, h6⟩ := fin (some .ret) C hC
      exact ⟨_, _, h4, .inr ⟨rfl, _, (hIx _).put _ hCi (by omega) h3, h5, h6⟩⟩
    | exit id =>
      obtain ⟨hC, hCi⟩ := hp
      obtain ⟨h3, h4, h5, h6⟩ := fin (some (.exit id)) C hC
      exact ⟨_, _, h4, .inr ⟨rfl, _, (hIx _).put _ hCi (by omega) h3, h5, h6⟩⟩
    | goto t =>
      obtain ⟨hC, hCi⟩ := hp
      obtain ⟨h3, h4, h5, h6⟩ := fin (some (.goto t)) C hC
      exact ⟨_, _, h4, .inr ⟨rfl, _, (hIx _).put _ hCi (by omega) h3, h5, h6⟩⟩
    | panic ch => exact hp.elim
    | outgrown => exact hp.elim
  · -- behind the iterator
    rintro e W2 ⟨⟨v, rfl⟩, (⟨xs, hS, hi, hl, hk⟩ | ⟨pre, c, hi, hl, hk⟩)⟩
    · have h5 := run_endLoop (P := P) hl (by rw [hR]; simp)
      rw [hR] at h5
      exact ⟨none, _, h5, hdone D xs _ (Nat.le_refl _) hS (hI.put _ hi (by omega) hl) ((World.putObj_heap_other (by omega)).trans hk)⟩
    · have h5 := run_endLoop (P := P) hl (by rw [hR]; simp)
      rw [hR] at h5
      exact ⟨some c, _, h5, hstop D c pre _ (Nat.le_refl _) ((hIx c).put _ hi (by omega) hl) ((World.putObj_heap_other (by omega)).trans hk)⟩
end Go.Proofs.YtbafofldgkigmaaGreatDoor
