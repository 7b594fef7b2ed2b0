/- integer.Check, integer.both: walks. -/
import Derived.Test.YtbnnccnicfddlaaGreatDoorShelf
import Derived.Test.YtbnnccnicfddlaaGreatDoorDecA
import Derived.Shelf.Strings.SlTrimAscii
import Derived.WalkKit
import Derived.WalkSpells
import Derived.WalkLawsBesides
import Derived.Lib.Hide
set_option linter.unusedSimpArgs false
set_option linter.unusedVariables false
namespace Go.Proofs.YtbnnccnicfddlaaGreatDoor
open Go.RowKit Kp

/-- a text -/
abbrev tx (l : List UInt8) : ByteArray := ⟨l.toArray⟩
theorem tx_list (l : List UInt8) : (tx l).data.toList = l := by simp
theorem tx_size (l : List UInt8) : (tx l).size = l.length := by simp [ByteArray.size]
theorem tx_self (s : ByteArray) : tx s.data.toList = s := by cases s; simp

theorem trim_digits (l : List UInt8) (w : World) (hl : l.length ≤ 1000000) :
    Calls Tryz.prog 111 #[.string (tx l), .string ⟨#[48, 49, 50, 51, 52, 53, 54, 55, 56, 57]⟩] w fun e w' => e = .returned (.string (tx (Lib.trimS l tenD))) ∧ Below w.heap.size w w' := by
  have h := Go.Proofs.Any.strings_Trim_laid Tryz.lays160 (by kernel_rfl) (tx l) ⟨#[48, 49, 50, 51, 52, 53, 54, 55, 56, 57]⟩ w (by rw [tx_size]; omega) (by decide) (ascii_of_all (by decide))
  rw [tx_list] at h
  exact h

theorem ret_int' {k : IntKind} {a b : Int} (h : a = b) : Ending.returned (.int k a) = .returned (.int k b) := by rw [h]

set_option maxRecDepth 100000 in
set_option maxHeartbeats 400000 in
theorem icheck_any (l : List UInt8) (w : World) (hl : l.length ≤ 1000000) :
    Calls Tryz.prog 96 #[.string (tx l)] w fun e w' => e = .returned (.int .i64 (chkI l)) ∧ Below w.heap.size w w' := by
  have hp := Lib.hid (Tryz.strings_TrimPrefix (tx l) (tx [45]) w)
  obtain ⟨ds, hds⟩ : ∃ ds, own l = ds := ⟨_, rfl⟩
  have hdl : ds.length ≤ l.length := by rw [← hds]; unfold own Lib.trimPrefix; split <;> simp
  have hds' : Lib.trimPrefix l [45] = ds := hds
  have HDS := Lib.hid hds
  rw [hds'] at hp
  clear hds hds'
  cases ds with
  | nil =>
    go_enter Tryz.func96, Tryz.ntmps96
    go_wp2_with (go_at_call 56; refine hp.out.mono ?_; rintro e w' ⟨rfl, rfl⟩)
    go_ret
    exact ⟨ret_int' (by unfold chkI intForm; rw [HDS.out]; rfl), Below.refl _ _⟩
  | cons c r =>
    go_enter Tryz.func96, Tryz.ntmps96
    go_wp2_with (first | (go_at_call 56; refine hp.out.mono ?_; rintro e w' ⟨rfl, rfl⟩) | (go_at_call 111; refine (trim_digits (c :: r) _ (by simp at hdl ⊢; omega)).mono ?_; rintro e w2 ⟨rfl, hB⟩))
    · go_ret
      exact ⟨ret_int' (chkI_bad HDS.out (by assumption)).symm, hB⟩
    · have hl0 : l = [48] := by assumption
      have h300 : 300 < (r.length : Int) + 1 := by assumption
      go_ret
      exact ⟨ret_int' (by rw [chkI_good HDS.out (.inr hl0) (by assumption), if_pos (by omega)]), hB⟩
    · have hl0 : l = [48] := by assumption
      have h300 : (r.length : Int) + 1 ≤ 300 := by assumption
      go_ret
      exact ⟨ret_int' (by rw [chkI_good HDS.out (.inr hl0) (by assumption), if_neg (by omega)]), hB⟩
    · have h48 : (c.toNat : Int) = 48 := by assumption
      go_ret
      exact ⟨ret_int' (chkI_lead HDS.out (u8_48 h48) (by assumption)).symm, Below.refl _ _⟩
    · go_ret
      exact ⟨ret_int' (chkI_bad HDS.out (by assumption)).symm, hB⟩
    · have h48 : ¬ (c.toNat : Int) = 48 := by assumption
      have h300 : 300 < (r.length : Int) + 1 := by assumption
      go_ret
      exact ⟨ret_int' (by rw [chkI_good HDS.out (.inl (fun h => h48 (by rw [h]; rfl))) (by assumption), if_pos (by omega)]), hB⟩
    · have h48 : ¬ (c.toNat : Int) = 48 := by assumption
      have h300 : (r.length : Int) + 1 ≤ 300 := by assumption
      go_ret
      exact ⟨ret_int' (by rw [chkI_good HDS.out (.inl (fun h => h48 (by rw [h]; rfl))) (by assumption), if_neg (by omega)]), hB⟩
end Go.Proofs.YtbnnccnicfddlaaGreatDoor
