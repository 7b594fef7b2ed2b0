/- integer.both, integer.small; what stays of the variables. -/
import Derived.Test.YtbnnccnicfddlaaGreatDoorStr2
import Derived.Lib.AtoiErrMem
import Derived.WideLaws
import Derived.StillTailTactics
import Derived.BigQuiet
import Derived.Deep.QuietTactic
set_option linter.unusedSimpArgs false
set_option linter.unusedVariables false
namespace Go.Proofs.YtbnnccnicfddlaaGreatDoor
open Go.RowKit Go.Shelf Kp

theorem var_below {P : Program} {n : String} {w w' : World} {cs : Array Value} (h : w.var? P n = some cs) {B0 : Nat} (hb : Below B0 w w') (hB : w.heap.size ≤ B0) : w'.var? P n = some cs := by
  unfold World.var? at h ⊢
  cases hg : P.globalNamed n with
  | none => rw [hg] at h; cases h
  | some g =>
    rw [hg] at h
    simp only [Option.bind_some] at h ⊢
    have hlt : g < w.heap.size := by
      rcases Nat.lt_or_ge g w.heap.size with h' | h'
      · exact h'
      · rw [Array.getElem?_eq_none h'] at h; cases h
    rw [hb.block g (by omega)]
    exact h

theorem below_drewN {B0 : Nat} {w w' : World} (h : Below B0 w w') (n : Nat) : Below B0 w (w'.drewN n) := ⟨h.os, h.tape, h.output, h.size, h.block⟩
/-- integer.both -/
def bothI (a b : List UInt8) : Int := if chkI a = 0 then chkI b else chkI a

set_option maxRecDepth 100000 in
set_option maxHeartbeats 400000 in
theorem both_any (a b : List UInt8) (w : World) (ha : a.length ≤ 1000000) (hb : b.length ≤ 1000000) :
    Calls Tryz.prog 78 #[.string (tx a), .string (tx b)] w fun e w' => e = .returned (.int .i64 (bothI a b)) ∧ Below w.heap.size w w' := by
  by_cases h0 : chkI a = 0
  · have h0' : (chkI a != 0) = false := by simp [h0]
    have H0 := Lib.hid h0
    clear h0
    go_enter Tryz.func78, Tryz.ntmps78
    go_wp2_with (go_at_call 96; refine (icheck_any _ _ (by assumption)).mono ?_; first | (rintro e w1 ⟨rfl, hB1⟩))
    go_ret
    exact ⟨ret_int' (by unfold bothI; rw [H0.out, if_pos rfl]), Below.trans (by assumption) (Below.mono (by assumption) (Below.size (by assumption)))⟩
  · have h0' : (chkI a != 0) = true := by simpa using h0
    have H0 := Lib.hid h0
    clear h0
    go_enter Tryz.func78, Tryz.ntmps78
    go_wp2_with (go_at_call 96; refine (icheck_any _ _ (by assumption)).mono ?_; first | (rintro e w1 ⟨rfl, hB1⟩))
    go_ret
    exact ⟨ret_int' (by unfold bothI; rw [if_neg H0.out]), hB1⟩

/-- the number of a text -/
def num (l : List UInt8) : Int := if Lib.hasPrefix l [45] then -(natOf (own l) : Int) else natOf (own l)
theorem atoi_num {l : List UInt8} (h : intForm l = true) : Lib.atoi l = some (num l) := by
  unfold intForm at h
  simp only [Bool.and_eq_true, Bool.not_eq_true'] at h
  obtain ⟨⟨hd, hne⟩, _⟩ := h
  have hne' : own l ≠ [] := by intro e; rw [e] at hne; simp at hne
  have hdec := decNat_isD hd hne'
  unfold num
  cases l with
  | nil => exact absurd rfl hne'
  | cons b r =>
    by_cases hb : b = 45
    · subst hb
      have e1 : Lib.hasPrefix (45 :: r) [45] = true := by simp [Lib.hasPrefix]
      have e2 : own (45 :: r) = r := by unfold own Lib.trimPrefix; rw [if_pos e1]; rfl
      rw [e2] at hdec
      rw [e1, e2]
      simp [Lib.atoi, hdec]
    · have e1 : Lib.hasPrefix (b :: r) [45] = false := by simp [Lib.hasPrefix, List.isPrefixOf, Ne.symm hb]
      have e2 : own (b :: r) = b :: r := by unfold own Lib.trimPrefix; rw [e1]; rfl
      rw [e2] at hdec hd
      rw [e1, e2]
      have hb43 : b ≠ 43 := by
        intro e; subst e
        simp [isD] at hd
      simp [Lib.atoi, hdec, hb, hb43]

set_option maxRecDepth 100000 in
set_option maxHeartbeats 400000 in
theorem small_long (a b : List UInt8) (w : World) (h : 18 < a.length ∨ 18 < b.length) (ha : a.length ≤ 1000000) (hb : b.length ≤ 1000000) :
    Calls Tryz.prog 79 #[.string (tx a), .string (tx b), .int .i64 18] w fun e w' => e = .returned (.tuple #[.int .i64 0, .int .i64 0, .bool false]) ∧ Below w.heap.size w w' := by
  by_cases h1 : 18 < a.length
  · clear h
    go_enter Tryz.func79, Tryz.ntmps79
    go_wp2
    exact bodyPost_ret (v := .tuple #[.int .i64 0, .int .i64 0, .bool false]) (by simp [results, Tryz.results79, go_sem]) rfl ⟨rfl, Below.refl _ _⟩
  · have h2 : 18 < b.length := by omega
    clear h
    go_enter Tryz.func79, Tryz.ntmps79
    go_wp2
    exact bodyPost_ret (v := .tuple #[.int .i64 0, .int .i64 0, .bool false]) (by simp [results, Tryz.results79, go_sem]) rfl ⟨rfl, Below.refl _ _⟩

theorem atoi_form (a : List UInt8) (ha : a.length ≤ 18) (fa : intForm a = true) (w : World) :
    Calls Tryz.prog 42 #[.string (tx a)] w fun e w' => e = .returned (.tuple #[.int .i64 (num a), .nilIface]) ∧ Below w.heap.size w w' :=
  (Tryz.strconv_Atoi (tx a) (num a) (by rw [tx_size]; exact ha) (by rw [tx_list]; exact atoi_num fa) w).mono fun _ _ ⟨h1, t, h2⟩ => ⟨h1, by rw [h2]; exact Lib.bytesWorld_below _ _ _⟩

set_option maxRecDepth 100000 in
set_option maxHeartbeats 400000 in
theorem small_short (a b : List UInt8) (w : World) (ha : a.length ≤ 18) (hb : b.length ≤ 18) (fa : intForm a = true) (fb : intForm b = true) :
    Calls Tryz.prog 79 #[.string (tx a), .string (tx b), .int .i64 18] w fun e w' => e = .returned (.tuple #[.int .i64 (num a), .int .i64 (num b), .bool true]) ∧ Below w.heap.size w w' := by
  have hnil := fun W => run_eql_nil_nil (P := Tryz.prog) W 93 (by kernel_rfl)
  go_enter Tryz.func79, Tryz.ntmps79
  go_wp2_with (go_at_call 42; refine (atoi_form _ (by assumption) (by assumption) _).mono ?_; rintro e w1 ⟨rfl, hB1⟩)
  go_quiet (fail)
  go_wp2
  have hB : Below w.heap.size w w1 := Below.trans (by assumption) (Below.mono (by assumption) (Below.size (by assumption)))
  exact bodyPost_ret (v := .tuple #[.int .i64 (num a), .int .i64 (num b), .bool true]) (by simp [results, Tryz.results79, go_sem]) rfl ⟨rfl, below_drewN hB _⟩
end Go.Proofs.YtbnnccnicfddlaaGreatDoor
