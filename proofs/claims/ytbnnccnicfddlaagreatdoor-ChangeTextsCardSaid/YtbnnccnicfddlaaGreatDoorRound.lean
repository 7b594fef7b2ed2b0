/- Regions that draw their order, inside a round of a range over a function: the plain laws carried over. -/
import Derived.Test.YtbnnccnicfddlaaGreatDoorRange
import Derived.Deep.QuietTactic
import Derived.BigQuiet
import Derived.StillTailTactics
import Derived.OrdersIn
set_option linter.unusedSimpArgs false
set_option linter.unusedVariables false
namespace Go.Proofs.YtbnnccnicfddlaaGreatDoor
open Go.RowKit

/-- no operation is a defer statement -/
def noDefer (ops : Array Oper) : Bool := ops.all fun o => match o.op with | .defer _ => false | _ => true
theorem noDefer_spec {ops : Array Oper} (h : noDefer ops = true) {i : Nat} {o : Oper} (hi : ops[i]? = some o) (c : Call) : o.op ≠ .defer c := by
  intro e
  unfold noDefer at h
  rw [Array.all_eq_true] at h
  obtain ⟨hlt, hv⟩ := Array.getElem?_eq_some_iff.1 hi
  have := h i hlt
  rw [hv, e] at this
  cases this

variable {P : Program} {Q : Exit → Act → World → Prop}

theorem rowsIn_wide {n : Nat} {row : String} {args : Array Value} {w : World} {R : Value → World → Prop} (h : Rows P row args w R) : RowsIn Fence.wide n P row args w R :=
  fun c cs _ => let ⟨v, w', r, s⟩ := h c cs; ⟨v, w', r, stepsIn_wide.2 s⟩

theorem Oper.wp_round {l n : Nat} {o : Oper} {a : Act} {w : World} {K : Act → World → Prop} (hd : ∀ c, o.op ≠ .defer c) (h : o.wp P a w K Q) : o.wpIn (Fence.wide.inRound l) n P a w K Q := by
  unfold Oper.wpIn
  refine ⟨fun _ _ => trivial, ?_⟩
  show Oper.uponIn _ _ _ _ _ _ _ ((o.semAt (some l) a.eval).run P w)
  rw [Oper.semAt_some l a.eval o hd]
  unfold Oper.wp at h
  generalize (execOp a.eval o).run P w = r at *
  cases r with
  | ok x w' =>
    cases x with
    | value v => exact h
    | skip => exact h
    | defer d => exact h
    | enter f args => exact ⟨fun h => (by cases h), CallsIn.inRound l (callsIn_wide.2 h)⟩
    | row row args => exact ⟨fun h => (by cases h), rowsIn_wide (n := n - 1) h⟩
    | _ => exact h.elim
  | halt x w' =>
    cases x with
    | panic v => exact h
    | _ => exact h.elim

theorem wpAny_round {l n : Nat} {md : Region.Mode} {ops : Array Oper} (hd : noDefer ops = true) (hlo : ¬ LetsOut Q) :
    ∀ (fuel : Nat) (listed : Array Bool) (a : Act) (w : World), wpAny P md ops Q fuel listed a w → wpAnyIn (Fence.wide.inRound l) n P md ops Q fuel listed a w
  | 0, _, _, _, h => h
  | fuel + 1, listed, a, w, h => by
    refine ⟨h.1, fun i hi => ?_⟩
    have h2 := h.2 i hi
    unfold wpOp at h2
    unfold wpOpIn
    cases ho : ops[i]? with
    | none => rw [ho] at h2; exact wpAny_round hd hlo fuel _ _ _ h2
    | some o =>
      rw [ho] at h2
      simp only at h2 ⊢
      split
      · rename_i hw
        rw [if_pos hw] at h2
        rcases h2 with h2 | ⟨_, h2⟩
        · exact Oper.wp_round (fun c => noDefer_spec hd ho c) (Oper.wp_mono (fun a' w' h3 => wpAny_round hd hlo fuel _ _ _ h3) h2)
        · exact absurd h2 hlo
      · rename_i hw
        rw [if_neg hw] at h2
        exact ⟨fun _ _ => trivial, wpAny_round hd hlo fuel _ _ _ h2⟩

/-- what ends normally, in R -/
def onlyNormal (R : Act → World → Prop) : Exit → Act → World → Prop
  | .normal, a, w => R a w
  | _, _, _ => False
theorem onlyNormal_intro {R : Act → World → Prop} {a : Act} {w : World} (h : R a w) : onlyNormal R .normal a w := h
/-- outside a round a piece that ends normally is walked plainly -/
theorem wpIn_plain {n : Nat} {c : Code} {a : Act} {w : World} (h : c.wp P (onlyNormal (Q .normal)) a w) : c.wpIn Fence.wide n P Q a w :=
  wpIn_wide.2 (wp_mono h fun e _ _ h => by cases e <;> first | exact h | exact h.elim)

/-- a region that only reads and calls quietly, in a round -/
theorem round_quiet {l m id : Nat} {a : Act} {w : World} {ol : List Oper} (hlo : ¬ LetsOut Q) (hm : P.follows .mixedOrders = true) (hB : Region.lexB .any ol.toArray = true) (hd : noDefer ol.toArray = true)
    (h : wpQuiet P ol.toArray (fun w' => ∃ n, w' = w.drewN n) (fun a' => ∀ w', (∃ n, w' = w.drewN n) → Q .normal a' w') ol a) :
    (Code.region id ol.toArray true).wpIn (Fence.wide.inRound l) m P Q a w := by
  simp only [Region.lexB, Bool.and_eq_true] at hB
  refine wpIn_region_any hm (wpAny_round hd hlo _ _ _ _ ?_)
  refine wpAny_of_quiet (C := fun w' => ∃ n, w' = w.drewN n) (Q := fun a' => ∀ w', (∃ n, w' = w.drewN n) → Q .normal a' w') (fun _ w' hw' h => h w' hw') _ _ _ _ ⟨1, rfl⟩ ?_
  have := wpAnyQ_lex (P := P) (C := fun w' => ∃ n, w' = w.drewN n) (md := .any) hB.1 ol 0 (Array.replicate ol.toArray.size false) a (by simp) (by simpa using hB.2) h
  simpa using this

/-- a region that reads and calls quietly, its last operations in a row (stores, assignments), in a round -/
theorem round_tail {l m id : Nat} {a : Act} {w : World} {ol : List Oper} (n : Nat) (hlo : ¬ LetsOut Q) (hm : P.follows .mixedOrders = true) (hB : Region.lexTailB .any ol.toArray n = true) (hd : noDefer ol.toArray = true)
    (h : wpStill P ol.toArray w.drew (fun a' => wpList P ol.toArray Q (ol.drop n) a' w.drew) (ol.take n) a) :
    (Code.region id ol.toArray true).wpIn (Fence.wide.inRound l) m P Q a w := by
  simp only [Region.lexTailB, Bool.and_eq_true, decide_eq_true_eq] at hB
  obtain ⟨⟨⟨⟨hsel, hn⟩, hs⟩, hc⟩, hlex⟩ := hB
  have htl : (ol.take n).length = n := by simp at hn ⊢; omega
  have hdl : (ol.drop n).length = ol.toArray.size - n := by simp
  refine wpIn_region_any hm (wpAny_round hd hlo _ _ _ _ ?_)
  have H := wpAnyL_lex (P := P) (md := .any) (g := ol.toArray.size - n) hsel hs hc hn (ol.take n) 0 (Array.replicate ol.toArray.size false) a
    (fun j hj => by rw [htl] at hj; simp [hj]) (by simpa using htl)
    ⟨by simp, fun j oj _ hl => (by rw [getD_replicate_false] at hl; cases hl), fun t _ ht => getD_in (by simpa using ht) (getD_replicate_false _ _)⟩ (by rw [htl]; exact hlex) h
  have H2 := wpAny_of_head (Q' := Q) (g := ol.toArray.size - n) (fun listed a' hL => by
    have := wpAny_of_seq (md := .any) (Q' := Q) (ol.drop n) n listed a' w.drew (fun j => by simp [List.getElem?_drop]) (by rw [hdl]; exact hL.1) hL.2
    rwa [hdl] at this) _ _ _ H
  rw [htl, show n + (ol.toArray.size - n) = ol.toArray.size by omega] at H2
  exact H2
end Go.Proofs.YtbnnccnicfddlaaGreatDoor
