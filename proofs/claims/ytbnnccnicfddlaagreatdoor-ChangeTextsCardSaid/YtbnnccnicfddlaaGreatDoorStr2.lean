/- integer.digits: its iterator's contract. -/
import Derived.Test.YtbnnccnicfddlaaGreatDoorBack
import Derived.Test.YtbnnccnicfddlaaGreatDoorDecA
import Derived.Test.YtbnnccnicfddlaaGreatDoorStr1
set_option linter.unusedSimpArgs false
set_option linter.unusedVariables false
namespace Go.Proofs.YtbnnccnicfddlaaGreatDoor
open Go.RowKit Go.Shelf Kp
attribute [local go_sem] Oper.semAt_some

def DigM (Bs : Nat) (l : List UInt8) (W : World) : Prop := W.cell? ⟨Bs, 0, none⟩ = some (.string (tx l))
def DigX (l : List UInt8) (k : Nat) (x : Array Value) : Prop := x = #[.int .i64 (k : Int), .int .i64 (dg l k : Int)]

theorem dg_at {l : List UInt8} {k : Nat} (hk : k < l.length) : dg l k = dig (l[l.length - 1 - k]'(by omega)) := by
  unfold dg; rw [List.getD_eq_getElem?_getD, List.getElem?_eq_getElem (by omega)]; rfl

set_option maxRecDepth 100000 in
set_option maxHeartbeats 1000000 in
theorem digits1_seq (Bs : Nat) (l : List UInt8) (hn : l.length ≤ 1000000) (hd : l.all isD = true) :
    SeqAt Tryz.prog 112 #[.pointer (some ⟨Bs, 0, none⟩)] (DigX l) (DigM Bs l) l.length := by
  intro m lp J Jx W hM hJ hJx hY h0
  refine callsIn_of_wp Tryz.func112 rfl trivial ?_ rfl
  have hc0 := hM 0 W h0
  unfold DigM at hc0
  simp only [Tryz.ntmps112, List.size_toArray, List.length_cons, List.length_nil, Nat.reduceAdd, Nat.reduceSub, Array.replicate_succ, Array.replicate_zero, List.push_toArray, List.append_toArray, List.nil_append, List.cons_append]
  gi_wp2
  gi_loopw [6] (fun i wr => ∃ k : Nat, k ≤ l.length ∧ i = .int .i64 (k : Int) ∧ J k wr) (fun i _ => ((l.length : Int) - intOf i).toNat)
  case atStart => exact ⟨0, by omega, by simp, h0⟩
  case round =>
    obtain ⟨k, hk, rfl, hj⟩ := hrel
    have hc := hM k wr hj
    unfold DigM at hc
    by_cases hlt : k < l.length
    · obtain ⟨fn, tmps, assign, body, hy, hR⟩ := hY k _ wr hlt rfl hj
      have e1 : ((l.length : Int) - 1 - k).toNat = l.length - 1 - k := by omega
      have hb : l.length - 1 - k < (tx l).size := by rw [tx_size]; omega
      have ev : ((((tx l)[l.length - 1 - k]'hb).toNat : Int) - 48) % 256 = (dg l k : Int) := by
        have hx : (tx l)[l.length - 1 - k]'hb = l[l.length - 1 - k]'(by omega) := rfl
        rw [hx, dg_at hlt]
        have := dig_lt (List.all_eq_true.1 hd _ (List.getElem_mem (n := l.length - 1 - k) (h := by omega)))
        unfold dig at *
        omega
      have HD := Lib.hid hd
      clear hd
      gi_wp2
      refine ⟨fun h => (by cases h), hR.mono ?_⟩
      rintro e W3 (⟨rfl, hJ3⟩ | ⟨rfl, hJx3⟩)
      · gi_wp2
        go_roundw
        case rel => exact ⟨k + 1, by omega, by simp, hJ3⟩
        case measure => simp [intOf]; omega
      · gi_wp2
        refine bodyPost_ret (results_none rfl _ _ _) rfl ?_
        exact ⟨⟨_, rfl⟩, .inr ⟨k, hlt, hJx3⟩⟩
    · obtain rfl : k = l.length := by omega
      gi_wp2
      go_end0
      exact ⟨⟨_, rfl⟩, .inl hj⟩

set_option maxHeartbeats 400000 in
theorem digits_any (w : World) (s : ByteArray) :
    Calls Tryz.prog 97 #[.string s] w fun e w' => e = .returned (.func (.func 112) #[] #[.pointer (some ⟨w.heap.size, 0, none⟩)]) ∧ w' = w.alloc (.cells #[.string s] 9) := by
  go_enter Tryz.func97, Tryz.ntmps97
  go_wp2
  go_ret
  exact ⟨rfl, rfl⟩
end Go.Proofs.YtbnnccnicfddlaaGreatDoor
