/- A range over a function, where the iterator's rounds are numbered: the law for the caller, and the iterator's contract. -/
import Derived.RangeFuncNested
import Derived.RangeFuncBound
import Derived.RangeFuncCalls
import Derived.RangeFuncLeaves
import Derived.WalkKit
set_option linter.unusedSimpArgs false
set_option linter.unusedVariables false
namespace Go.Proofs.YtbnnccnicfddlaaGreatDoor
open Go.RowKit

/-- W' holds all cells that W holds, and all blocks below n0 are as they were. -/
structure Stays (n0 : Nat) (W W' : World) : Prop where
  os : W'.os = W.os
  tape : W'.tape = W.tape
  output : W'.output = W.output
  size : W.heap.size ≤ W'.heap.size
  low : ∀ b, b < n0 → W'.heap[b]? = W.heap[b]?
  cells : ∀ (b : Nat) (cs : Array Value) (t : TypeId) (m : Nat × Nat), W.heap[b]? = some (Obj.cells cs t m) → W'.heap[b]? = some (Obj.cells cs t m)

theorem Stays.of_below {n0 : Nat} {W W' : World} (h : Below W.heap.size W W') (hn : n0 ≤ W.heap.size) : Stays n0 W W' :=
  ⟨h.os, h.tape, h.output, h.size, fun b hb => h.block b (by omega), fun b cs t m hb => (h.block b (Array.getElem?_eq_some_iff.1 hb).1).trans hb⟩
theorem Stays.putObj {n0 l : Nat} {W : World} {o : Obj} (o' : Obj) (hl : W.heap[l]? = some o) (ho : o.isCells = false) (hn : n0 ≤ l) : Stays n0 W (W.putObj l o') :=
  ⟨rfl, rfl, rfl, by simp, fun b hb => World.putObj_heap_other (by omega), fun b cs t m hb => (World.putObj_heap_other (fun e => by subst e; rw [hb] at hl; cases hl; cases ho)).trans hb⟩
theorem Stays.trans {n0 : Nat} {A B C : World} (h : Stays n0 A B) (k : Stays n0 B C) : Stays n0 A C :=
  ⟨k.os.trans h.os, k.tape.trans h.tape, k.output.trans h.output, Nat.le_trans h.size k.size, fun b hb => (k.low b hb).trans (h.low b hb), fun b cs t m hb => k.cells b cs t m (h.cells b cs t m hb)⟩
theorem Stays.below {n0 : Nat} {W W' : World} (h : Stays n0 W W') : Below n0 W W' := ⟨h.os, h.tape, h.output, h.size, h.low⟩
theorem Stays.cell {n0 : Nat} {W W' : World} (h : Stays n0 W W') {p : Addr} {v : Value} (hc : W.cell? p = some v) : W'.cell? p = some v := by
  unfold World.cell? at hc ⊢
  cases ho : W.heap[p.block]? with
  | none => rw [ho] at hc; simp at hc
  | some o =>
    cases o with
    | cells cs t m => rw [ho] at hc; rw [h.cells _ _ _ _ ho]; exact hc
    | _ => rw [ho] at hc; simp at hc

/-- An iterator: N rounds, round k handed arguments x with X k x, as long as memory satisfies M. -/
def SeqAt (P : Program) (g : Nat) (lb : Array Value) (X : Nat → Array Value → Prop) (M : World → Prop) (N : Nat) : Prop :=
  ∀ (m l : Nat) (J Jx : Nat → World → Prop) (W : World),
    (∀ k W1, J k W1 → M W1) → (∀ k W1 W2, J k W1 → Below W1.heap.size W1 W2 → J k W2) → (∀ k W1 W2, Jx k W1 → Below W1.heap.size W1 W2 → Jx k W2) →
    (∀ k x W1, k < N → X k x → J k W1 → YieldAt Fence.wide (m - 1) P l x W1 fun e W' => (e = .returned (.bool true) ∧ J (k + 1) W') ∨ (e = .returned (.bool false) ∧ Jx k W')) →
    J 0 W → CallsIn Fence.wide m P g (#[.func (.yield l) #[] #[]] ++ lb) W fun e W' => (∃ v, e = .returned v) ∧ (J N W' ∨ ∃ k, k < N ∧ Jx k W')

/-- how a round's body may end: it goes on, or leaves by the jump c -/
def roundEnd (I : Nat → World → Prop) (Ix : Code → Nat → World → Prop) (k : Nat) (W : World) : Exit → Act → World → Prop
  | .normal, _, W' => KeepsOthers W W' ∧ I (k + 1) W'
  | .ret, _, W' => KeepsOthers W W' ∧ Ix .ret k W'
  | .exit id, _, W' => KeepsOthers W W' ∧ Ix (.exit id) k W'
  | .goto t, _, W' => KeepsOthers W W' ∧ Ix (.goto t) k W'
  | .panic _, _, _ => False
  | .outgrown, _, _ => False

variable {P : Program}

theorem wpIn_rangeAt {n : Nat} {g : Operand} {ps : Array Tmp} {assign body : Code} {Q : Exit → Act → World → Prop} {a : Act} {w : World}
    {gf : Nat} {lb : Array Value} (hg : a.eval g = .func (.func gf) #[] lb) (eg : ∀ args w, (callFunc gf args).run P w = .ok (.enter gf args) w)
    {X : Nat → Array Value → Prop} {M : World → Prop} {N : Nat} (hseq : SeqAt P gf lb X M N) (hps : ∀ k x, X k x → x.size = ps.size)
    (I : Nat → World → Prop) (Ix : Code → Nat → World → Prop) (hI : ∀ k W W', I k W → Stays w.heap.size W W' → I k W') (hIx : ∀ c k W W', Ix c k W → Stays w.heap.size W W' → Ix c k W')
    (hM : ∀ k W, I k W → M W) (h0 : I 0 w)
    (hround : ∀ (l k : Nat) (x : Array Value) (W : World) (K : Act → World → Prop), k < N → X k x → I k W →
      (∀ a', (∀ W2, I k W2 → w.heap.size < W2.heap.size → body.wpIn (Fence.wide.inRound l) (n - 1 - 1) P (roundEnd I Ix k W2) a' W2) → K a' W) →
      assign.wpIn (Fence.wide.inRound l) (n - 1 - 1) P (Exit.then K (fun _ _ _ => False)) { tmps := (ps.zip x).foldl (fun t (p, v) => t.setIfInBounds p v) a.tmps, defers := [] } W)
    (hdone : ∀ (D : Nat) (W : World), w.heap.size ≤ D → I N W → W.heap[D]? = some (.deferred (some [])) → Q .normal { a with defers := { target := .collected D, args := #[] } :: a.defers } W)
    (hstop : ∀ (D : Nat) (c : Code) (k : Nat) (W : World), w.heap.size ≤ D → k < N → Ix c k W → W.heap[D]? = some (.deferred (some [])) → c.wpIn Fence.wide n P Q { a with defers := { target := .collected D, args := #[] } :: a.defers } W) :
    (Code.rangeFunc g ps assign body).wpIn Fence.wide n P Q a w := by
  refine wpIn_rangeFunc ?_
  intro fn hfn
  obtain ⟨R, hR⟩ : ∃ R : LoopState → Option Code → Loop, R = fun st pe => { state := st, pending := pe, fn, tmps := a.tmps, params := ps, assign, body, defers := w.heap.size } := ⟨_, rfl⟩
  obtain ⟨W1, hW1⟩ : ∃ W1, (w.alloc (.deferred (some []))).alloc (.loop (R .ready none)) = W1 := ⟨_, rfl⟩
  have hL : W1.heap[w.heap.size + 1]? = some (.loop (R .ready none)) := by
    have := World.alloc_heap_new (w.alloc (.deferred (some []))) (.loop (R .ready none))
    rwa [World.size_alloc, hW1] at this
  have hD : W1.heap[w.heap.size]? = some (.deferred (some [])) := by
    rw [← hW1]; exact (Below.heap_alloc _ _ _ (by simp)).trans (World.alloc_heap_new w _)
  have hb1 : Below w.heap.size w W1 := by rw [← hW1]; exact ((Below.refl _ w).alloc (Nat.le_refl _) _).alloc (by simp) _
  have hI1 : I 0 W1 := hI 0 _ _ h0 (Stays.of_below hb1 (Nat.le_refl _))
  refine ⟨w.heap.size + 1, [{ target := .collected w.heap.size, args := #[] }], W1, { target := .fn (.func gf) lb, args := #[.func (.yield (w.heap.size + 1)) #[] #[]] }, W1, gf,
    #[.func (.yield (w.heap.size + 1)) #[] #[]] ++ lb, W1, ?_, ?_, ?_, ?_, ?_, ?_⟩
  · rw [← hW1, hR]; exact run_enterLoop_outer _ _ _ _ _
  · simp only [resolve, hg]; simp [go_sem]
  · intro _ _; trivial
  · simp [invoke, go_sem, eg]
  · intro h; cases h
  · have recKeep : ∀ {A C : World} {st : LoopState} {pe : Option Code}, A.heap[w.heap.size + 1]? = some (.loop (R st pe)) → Below A.heap.size A C → C.heap[w.heap.size + 1]? = some (.loop (R st pe)) :=
      fun h hb => (hb.block _ (Array.getElem?_eq_some_iff.1 h).1).trans h
    have defKeep : ∀ {A C : World}, A.heap[w.heap.size]? = some (.deferred (some [])) → Below A.heap.size A C → C.heap[w.heap.size]? = some (.deferred (some [])) :=
      fun h hb => (hb.block _ (Array.getElem?_eq_some_iff.1 h).1).trans h
    refine (hseq (n - 1) (w.heap.size + 1)
      (fun k W => I k W ∧ W.heap[w.heap.size + 1]? = some (.loop (R .ready none)) ∧ W.heap[w.heap.size]? = some (.deferred (some [])))
      (fun k W => ∃ c, Ix c k W ∧ W.heap[w.heap.size + 1]? = some (.loop (R .done (some c))) ∧ W.heap[w.heap.size]? = some (.deferred (some [])))
      W1 (fun k W h => hM k W h.1)
      (fun k A C h hb => ⟨hI k _ _ h.1 (Stays.of_below hb (by have := (Array.getElem?_eq_some_iff.1 h.2.2).1; omega)), recKeep h.2.1 hb, defKeep h.2.2 hb⟩)
      (fun k A C h hb => by
        obtain ⟨c, h1, h2, h3⟩ := h
        exact ⟨c, hIx c k _ _ h1 (Stays.of_below hb (by have := (Array.getElem?_eq_some_iff.1 h3).1; omega)), recKeep h2 hb, defKeep h3 hb⟩)
      ?_ ⟨hI1, hL, hD⟩).mono ?_
    · rintro k x W hk hx ⟨hi, hl, hd⟩
      have hlt : w.heap.size + 1 < W.heap.size := (Array.getElem?_eq_some_iff.1 hl).1
      have hy := run_yield (P := P) (args := x) hl (by rw [hR]; exact hps k x hx)
      rw [hR] at hy
      refine ⟨fn, _, assign, body, hy, roundIn_of_wpIn hfn (hround _ k x W _ hk hx hi fun a' hbody => ⟨_, run_beginRound hl (by rw [hR]), ?_⟩)⟩
      obtain ⟨W2, hW2⟩ : ∃ W2, W.putObj (w.heap.size + 1) (.loop { R .ready none with state := .busy }) = W2 := ⟨_, rfl⟩
      rw [hW2]
      have hl2 : W2.heap[w.heap.size + 1]? = some (.loop { R .ready none with state := .busy }) := by rw [← hW2]; exact World.putObj_heap_same hlt
      have hd2 : W2.heap[w.heap.size]? = some (.deferred (some [])) := by rw [← hW2]; exact (World.putObj_heap_other (by omega)).trans hd
      have hi2 : I k W2 := by rw [← hW2]; exact hI k _ _ hi (Stays.putObj _ hl rfl (by omega))
      refine wpIn_mono (hbody W2 hi2 (by have := (Array.getElem?_eq_some_iff.1 hl2).1; omega)) ?_
      have fin : ∀ (jump : Option Code) (W3 : World), KeepsOthers W2 W3 → ∃ W4, (Instr.endRound (w.heap.size + 1) jump).run P W3 = .ok (.bool jump.isNone) W4 ∧ Stays w.heap.size W3 W4 ∧
          W4.heap[w.heap.size + 1]? = some (.loop (R (if jump.isNone then .ready else .done) jump)) ∧ W4.heap[w.heap.size]? = some (.deferred (some [])) := fun jump W3 hk3 => by
        have hl3 := hk3.same _ _ hl2 rfl
        have hr := run_endRound (P := P) jump hl3
        refine ⟨_, hr, Stays.putObj _ hl3 rfl (by omega), ?_, (World.putObj_heap_other (by omega)).trans (hk3.same _ _ hd2 rfl)⟩
        rw [World.putObj_heap_same (Array.getElem?_eq_some_iff.1 hl3).1, hR]
      rintro e a3 W3 hp
      cases e with
      | normal =>
        obtain ⟨hk3, hi3⟩ := hp
        obtain ⟨W4, hr, hs, hl4, hd4⟩ := fin none W3 hk3
        exact ⟨_, _, hr, .inl ⟨rfl, hI _ _ _ hi3 hs, hl4, hd4⟩⟩
      | ret =>
        obtain ⟨hk3, hi3⟩ := hp
        obtain ⟨W4, hr, hs, hl4, hd4⟩ := fin (some .ret) W3 hk3
        exact ⟨_, _, hr, .inr ⟨rfl, .ret, hIx _ _ _ _ hi3 hs, hl4, hd4⟩⟩
      | exit id =>
        obtain ⟨hk3, hi3⟩ := hp
        obtain ⟨W4, hr, hs, hl4, hd4⟩ := fin (some (.exit id)) W3 hk3
        exact ⟨_, _, hr, .inr ⟨rfl, .exit id, hIx _ _ _ _ hi3 hs, hl4, hd4⟩⟩
      | goto t =>
        obtain ⟨hk3, hi3⟩ := hp
        obtain ⟨W4, hr, hs, hl4, hd4⟩ := fin (some (.goto t)) W3 hk3
        exact ⟨_, _, hr, .inr ⟨rfl, .goto t, hIx _ _ _ _ hi3 hs, hl4, hd4⟩⟩
      | panic ch => exact hp.elim
      | outgrown => exact hp.elim
    · rintro e W2 ⟨⟨v, rfl⟩, (⟨hi, hl, hd⟩ | ⟨k, hk, c, hi, hl, hd⟩)⟩
      · have hr := run_endLoop (P := P) hl (by rw [hR]; simp)
        exact ⟨none, _, by rw [hr, hR], hdone _ _ (Nat.le_refl _) (hI _ _ _ hi (Stays.putObj _ hl rfl (by omega))) ((World.putObj_heap_other (by omega)).trans hd)⟩
      · have hr := run_endLoop (P := P) hl (by rw [hR]; simp)
        exact ⟨some c, _, by rw [hr, hR], hstop _ c k _ (Nat.le_refl _) hk (hIx _ _ _ _ hi (Stays.putObj _ hl rfl (by omega))) ((World.putObj_heap_other (by omega)).trans hd)⟩
end Go.Proofs.YtbnnccnicfddlaaGreatDoor
