/- Plain words for decimal texts: lists of bytes. No program in sight. · The number that decimal digits spell, limb by limb. Plain mathematics. -/
import Derived.Lib.SlTrimSet
import Derived.Lib.ItoaNum
import Derived.Lib.AtoiAll
import Derived.Lib.Strings
import Derived.Test.YtbnnccnicfddlaaGreatDoorMathA
import Derived.Lib.Atoi
import Derived.Lib.AtoiTie
set_option linter.unusedSimpArgs false
set_option linter.unusedVariables false
namespace Kp
open Go

def isD (b : UInt8) : Bool := 48 ≤ b && b ≤ 57
def tenD : List UInt8 := [48, 49, 50, 51, 52, 53, 54, 55, 56, 57]
theorem tenD_isD (b : UInt8) : tenD.contains b = isD b := by
  have h : ∀ n : Fin 256, tenD.contains (UInt8.ofNat n.1) = isD (UInt8.ofNat n.1) := by decide +kernel
  have := h ⟨b.toNat, b.toNat_lt⟩
  simpa using this
theorem trimS_ten (l : List UInt8) : Lib.trimS l tenD = [] ↔ l.all isD = true := by
  have h1 : ∀ m : List UInt8, Lib.trimLeftS m tenD = [] ↔ m.all isD = true := by
    intro m
    unfold Lib.trimLeftS
    simp only [tenD_isD]
    induction m with
    | nil => simp
    | cons b m ih =>
      by_cases hb : isD b = true
      · simp [hb, ih]
      · simp [hb]
  unfold Lib.trimS
  rw [h1]
  unfold Lib.trimRightS
  simp only [tenD_isD]
  constructor
  · intro h
    rw [List.all_eq_true] at h ⊢
    intro b hb
    have h2 : ∀ m : List UInt8, (∀ x ∈ m.dropWhile (fun x => isD x), isD x = true) → ∀ x ∈ m, isD x = true := by
      intro m
      induction m with
      | nil => intro _ x hx; cases hx
      | cons c m ih =>
        intro hm x hx
        by_cases hc : isD c = true
        · rw [List.dropWhile_cons_of_pos hc] at hm
          rcases List.mem_cons.1 hx with rfl | hx
          · exact hc
          · exact ih hm x hx
        · rw [List.dropWhile_cons_of_neg hc] at hm
          exact hm x hx
    exact h2 l.reverse (fun x hx => h x (List.mem_reverse.2 hx)) b (List.mem_reverse.2 hb)
  · intro h
    rw [List.all_eq_true] at h ⊢
    intro b hb
    exact h b (List.mem_reverse.1 ((List.dropWhile_suffix _).mem (List.mem_reverse.1 hb)))

/-- the digits of a text: without a sign -/
def own (l : List UInt8) : List UInt8 := Lib.trimPrefix l [45]
/-- does a text have the form of an integer? -/
def intForm (l : List UInt8) : Bool := (own l).all isD && !(own l).isEmpty && (!((own l).head? == some 48) || l == [48])
/-- integer.Check -/
def chkI (l : List UInt8) : Int := if intForm l then (if 300 < (own l).length then 4 else 0) else 11

theorem chkI_lead {l r : List UInt8} {c : UInt8} (h : own l = c :: r) (hc : c = 48) (hl : ¬ l = [48]) : chkI l = 11 := by
  unfold chkI intForm
  rw [h, hc]
  simp [hl]
theorem chkI_bad {l r : List UInt8} {c : UInt8} (h : own l = c :: r) (ht : (!(Lib.trimS (c :: r) tenD).isEmpty) = true) : chkI l = 11 := by
  have : (c :: r).all isD = false := by
    rw [Bool.eq_false_iff]
    intro h1
    rw [(trimS_ten _).2 h1] at ht
    simp at ht
  unfold chkI intForm
  rw [h, this]
  simp
theorem chkI_good {l r : List UInt8} {c : UInt8} (h : own l = c :: r) (hc : ¬ c = 48 ∨ l = [48]) (ht : (!(Lib.trimS (c :: r) tenD).isEmpty) = false) : chkI l = if 300 < r.length + 1 then 4 else 0 := by
  have : (c :: r).all isD = true := (trimS_ten _).1 (by simpa using ht)
  have hf : intForm l = true := by
    unfold intForm
    rw [h, this]
    rcases hc with hc | hc
    · simp [hc]
    · simp [hc]
  unfold chkI
  rw [hf, h]
  simp
theorem u8_48 {c : UInt8} (h : (c.toNat : Int) = 48) : c = 48 := UInt8.toNat.inj (by simp; omega)
end Kp
namespace Kp
open Go

def dig (b : UInt8) : Nat := b.toNat - 48
theorem dig_lt {b : UInt8} (h : isD b = true) : dig b < 10 ∧ 48 ≤ b.toNat ∧ b.toNat ≤ 57 := by
  unfold isD at h
  simp [UInt8.le_iff_toNat_le] at h
  unfold dig
  omega
/-- the number that digits spell -/
def natOf (l : List UInt8) : Nat := l.foldl (fun a b => a * 10 + dig b) 0
theorem natOf_snoc (l : List UInt8) (b : UInt8) : natOf (l ++ [b]) = natOf l * 10 + dig b := by simp [natOf]
theorem digitVal_isD {b : UInt8} (h : isD b = true) : Lib.digitVal b = some (dig b) := by
  have := dig_lt h
  unfold Lib.digitVal
  rw [if_pos (by omega)]; rfl
theorem decFrom_isD (l : List UInt8) (h : l.all isD = true) : ∀ acc, Lib.decFrom acc l = some (l.foldl (fun a b => a * 10 + dig b) acc) := by
  induction l with
  | nil => intro acc; rfl
  | cons b r ih =>
    intro acc
    simp only [List.all_cons, Bool.and_eq_true] at h
    simp only [Lib.decFrom, digitVal_isD h.1, List.foldl_cons]
    exact ih h.2 _
theorem decNat_isD {l : List UInt8} (h : l.all isD = true) (hn : l ≠ []) : Lib.decNat l = some (natOf l) := by
  unfold Lib.decNat
  rw [if_neg (by simpa using hn), decFrom_isD l h]; rfl

/-- digit p from the end -/
def dg (l : List UInt8) (p : Nat) : Nat := dig (l.getD (l.length - 1 - p) 48)
/-- what the last i digits are worth -/
def low (l : List UInt8) : Nat → Nat
  | 0 => 0
  | i + 1 => low l i + dg l i * 10 ^ i
theorem foldl_shift (l : List UInt8) : ∀ a : Nat, l.foldl (fun a b => a * 10 + dig b) a = a * 10 ^ l.length + natOf l := by
  induction l with
  | nil => intro a; simp [natOf]
  | cons b r ih =>
    intro a
    simp only [List.foldl_cons, List.length_cons]
    have e : natOf (b :: r) = r.foldl (fun a b => a * 10 + dig b) (0 * 10 + dig b) := rfl
    rw [ih, e, ih]
    rw [Nat.pow_succ, Nat.add_mul, Nat.zero_mul, Nat.zero_add]
    have : a * 10 * 10 ^ r.length = a * (10 ^ r.length * 10) := by rw [Nat.mul_assoc, Nat.mul_comm 10]
    omega
theorem natOf_cons (b : UInt8) (r : List UInt8) : natOf (b :: r) = dig b * 10 ^ r.length + natOf r := by
  have := foldl_shift r (dig b)
  unfold natOf at *
  simp only [List.foldl_cons, Nat.zero_mul, Nat.zero_add]
  exact this
theorem low_cons (b : UInt8) (r : List UInt8) (i : Nat) (hi : i ≤ r.length) : low (b :: r) i = low r i := by
  induction i with
  | zero => rfl
  | succ i ih =>
    rw [low, low, ih (by omega)]
    have : dg (b :: r) i = dg r i := by
      unfold dg
      have e : (b :: r).length - 1 - i = (r.length - 1 - i) + 1 := by simp; omega
      rw [e]; simp
    rw [this]
theorem low_all (l : List UInt8) : low l l.length = natOf l := by
  induction l with
  | nil => rfl
  | cons b r ih =>
    rw [List.length_cons, low, low_cons b r _ (Nat.le_refl _), ih, natOf_cons]
    have : dg (b :: r) r.length = dig b := by unfold dg; simp
    rw [this]; omega
theorem dg_lt {l : List UInt8} (h : l.all isD = true) (i : Nat) : dg l i < 10 := by
  unfold dg
  rw [List.getD_eq_getElem?_getD]
  cases hx : l[l.length - 1 - i]? with
  | none => decide
  | some b =>
    rw [List.all_eq_true] at h
    exact (dig_lt (h b (List.mem_of_getElem? hx))).1

/-- what holds of the limbs behind i digits -/
structure RdM (l : List UInt8) (i : Nat) (lim : List Nat) : Prop where
  small : Small lim
  eq : S (fv lim) lim.length = low l i
  part : fv lim (i / 9) < 10 ^ (i % 9)
  zero : ∀ k, i / 9 < k → fv lim k = 0

theorem ten_pow (i : Nat) : 10 ^ (i % 9) * B ^ (i / 9) = 10 ^ i := by
  have : B = 10 ^ 9 := rfl
  rw [this, ← Nat.pow_mul, ← Nat.pow_add]
  congr 1
  omega
theorem S_set_add {f g : Nat → Nat} {n j x : Nat} (hj : j < n) (hs : ∀ k, k ≠ j → g k = f k) (hx : g j = f j + x) : S g n = S f n + x * B ^ j := by
  have h := S_turn (f := f) (g := g) (m := n) (j := j) (n := 1) (by omega) (fun k hk => hs k (by omega)) (fun k hk _ => hs k (by omega))
  have e : ∀ h : Nat → Nat, S (sh h j) 1 = h j := fun h => by unfold S S sh; simp
  rw [e, e, hx, Nat.mul_add] at h
  have : B ^ j * x = x * B ^ j := Nat.mul_comm _ _
  omega
theorem RdM.step {l : List UInt8} {i : Nat} {lim lim' : List Nat} (h : RdM l i lim) (hd : l.all isD = true) (hn : i / 9 < lim.length) (hl : lim'.length = lim.length)
    (hs : ∀ k, k ≠ i / 9 → fv lim' k = fv lim k) (hx : fv lim' (i / 9) = fv lim (i / 9) + dg l i * 10 ^ (i % 9)) : RdM l (i + 1) lim' := by
  have h10 := dg_lt hd i
  have hb : fv lim' (i / 9) < 10 ^ (i % 9 + 1) := by
    rw [hx, Nat.pow_succ]
    have : dg l i * 10 ^ (i % 9) ≤ 9 * 10 ^ (i % 9) := Nat.mul_le_mul_right _ (by omega)
    have := h.part
    omega
  have hB : fv lim' (i / 9) < B := by
    have : 10 ^ (i % 9 + 1) ≤ 10 ^ 9 := Nat.pow_le_pow_right (by decide) (by omega)
    exact Nat.lt_of_lt_of_le hb this
  refine ⟨?_, ?_, ?_, ?_⟩
  · intro x hx'
    obtain ⟨k, hk, e⟩ := List.mem_iff_getElem.1 hx'
    rw [← e, ← fv_in hk]
    by_cases hki : k = i / 9
    · rw [hki]; exact hB
    · rw [hs k hki]; exact fv_small h.small k
  · rw [hl, S_set_add hn hs hx, h.eq, low, Nat.mul_assoc, ten_pow]
  · by_cases h8 : i % 9 = 8
    · have e1 : (i + 1) / 9 = i / 9 + 1 := by omega
      have e2 : (i + 1) % 9 = 0 := by omega
      rw [e1, e2, hs _ (by omega), h.zero _ (by omega)]; decide
    · have e1 : (i + 1) / 9 = i / 9 := by omega
      have e2 : (i + 1) % 9 = i % 9 + 1 := by omega
      rw [e1, e2]; exact hb
  · intro k hk
    have : i / 9 < k := by omega
    rw [hs k (by omega)]; exact h.zero k this
theorem RdM.start (l : List UInt8) (n : Nat) : RdM l 0 (List.replicate n 0) := by
  have hz : ∀ k, fv (List.replicate n 0) k = 0 := fun k => by unfold fv; rw [List.getD_eq_getElem?_getD, List.getElem?_replicate]; split <;> rfl
  refine ⟨fun d hd => by rw [List.eq_of_mem_replicate hd]; decide, ?_, by rw [hz]; decide, fun k _ => hz k⟩
  rw [S_eq_zero (fun k _ => hz k)]; rfl
end Kp
