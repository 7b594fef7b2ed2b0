/- slices.Backward at []int: its iterator's contract. -/
import Derived.Test.YtbnnccnicfddlaaGreatDoorRange
import Derived.Test.YtbnnccnicfddlaaGreatDoorProg
import Derived.Shelf.Abstract
import Derived.OwnWalkIn
import Derived.TacticsInMore
import Derived.LoopNIn
import Derived.LoopIn
set_option linter.unusedSimpArgs false
set_option linter.unusedVariables false
namespace Go.Proofs.YtbnnccnicfddlaaGreatDoor
open Go.RowKit Go.Shelf
attribute [local go_sem] Oper.semAt_some

/-- The box Bs holds a slice of n ints, of which number j satisfies Y j. -/
def BackM (Bs : Nat) (A : Option Addr) (n cap : Nat) (Y : Nat → Int → Prop) (W : World) : Prop :=
  W.cell? ⟨Bs, 0, none⟩ = some (.slice A n cap) ∧ (0 < n → ∃ b off, A = some ⟨b, off, none⟩ ∧ ∀ j, j < n → ∃ x : Int, W.cell? ⟨b, off + j, none⟩ = some (.int .i64 x) ∧ Y j x)
def BackX (n : Nat) (Y : Nat → Int → Prop) (k : Nat) (x : Array Value) : Prop := ∃ v : Int, Y (n - 1 - k) v ∧ x = #[.int .i64 ((n - 1 - k : Nat) : Int), .int .i64 v]

set_option maxRecDepth 100000 in
set_option maxHeartbeats 1000000 in
theorem backward1_seq (Bs : Nat) (A : Option Addr) (n cap : Nat) (Y : Nat → Int → Prop) (hn : n ≤ 4294967296) :
    SeqAt Tryz.prog 114 #[.pointer (some ⟨Bs, 0, none⟩)] (BackX n Y) (BackM Bs A n cap Y) n := by
  intro m l J Jx W hM hJ hJx hY h0
  refine callsIn_of_wp Tryz.func114 rfl trivial ?_ rfl
  have hc0 := (hM 0 W h0).1
  simp only [Tryz.ntmps114, List.size_toArray, List.length_cons, List.length_nil, Nat.reduceAdd, Nat.reduceSub, Array.replicate_succ, Array.replicate_zero, List.push_toArray, List.append_toArray, List.nil_append, List.cons_append]
  gi_wp2
  gi_loopw [3] (fun i wr => ∃ k : Nat, k ≤ n ∧ i = .int .i64 ((n : Int) - 1 - k) ∧ J k wr) (fun i _ => (intOf i + 1).toNat)
  case atStart => exact ⟨0, by omega, by simp, h0⟩
  case round =>
    obtain ⟨k, hk, rfl, hj⟩ := hrel
    obtain ⟨hc, hcs⟩ := hM k wr hj
    by_cases hlt : k < n
    · obtain ⟨b, off, rfl, hcell⟩ := hcs (by omega)
      obtain ⟨x, hx, hYx⟩ := hcell (n - 1 - k) (by omega)
      obtain ⟨fn, tmps, assign, body, hy, hR⟩ := hY k _ wr hlt ⟨x, hYx, rfl⟩ hj
      have e1 : ((n - 1 - k : Nat) : Int) = (n : Int) - 1 - k := by omega
      rw [e1] at hy
      have e2 : ((n : Int) - 1 - k).toNat = n - 1 - k := by omega
      have e3 : 0 ≤ (n : Int) - 1 - k := by omega
      have e4 : (n : Int) - 1 - k < n := by omega
      have e5 : decide ((k : Int) ≤ (n : Int) - 1) = true := by simp; omega
      clear hcell hcs e1
      gi_wp2
      refine ⟨fun h => (by cases h), hR.mono ?_⟩
      rintro e W3 (⟨rfl, hJ3⟩ | ⟨rfl, hJx3⟩)
      · gi_wp2
        go_roundw
        case rel => exact ⟨k + 1, by omega, by simp; omega, hJ3⟩
        case measure => simp [intOf]; omega
      · gi_wp2
        refine bodyPost_ret (results_none rfl _ _ _) rfl ?_
        exact ⟨⟨_, rfl⟩, .inr ⟨k, hlt, hJx3⟩⟩
    · obtain rfl : k = n := by omega
      have e1 : ¬ (0 ≤ (k : Int) - 1 - k) := by omega
      gi_wp2
      go_end0
      exact ⟨⟨_, rfl⟩, .inl hj⟩

set_option maxHeartbeats 400000 in
theorem backward_any (w : World) (A : Option Addr) (n cap : Nat) :
    Calls Tryz.prog 102 #[.slice A n cap] w fun e w' => e = .returned (.func (.func 114) #[] #[.pointer (some ⟨w.heap.size, 0, none⟩)]) ∧ w' = w.alloc (.cells #[.slice A n cap] 97) := by
  go_enter Tryz.func102, Tryz.ntmps102
  go_wp2
  go_ret
  exact ⟨rfl, rfl⟩
end Go.Proofs.YtbnnccnicfddlaaGreatDoor
