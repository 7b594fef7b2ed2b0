/- Edits, their texts and how they are read back, in plain words: no program in sight. · Texts of edits are read back: the plain law. -/
import Derived.Test.YtbnnccnicfddlaaGreatDoorDecA
import Derived.Lib.Split
import Derived.Lib.SplitLaws
import Derived.Lib.AtoiAllCases
set_option linter.unusedSimpArgs false
set_option linter.unusedVariables false
namespace Kp
open Go

/-- a text of bytes -/
abbrev By : Type := List UInt8

/-- an edit; the gaps of its bar as a list -/
structure Ed where
  kind : Int
  index : Int
  sx : Int
  sy : Int
  srise : Int
  srun : Int
  gable : Bool
  splate : Int
  sover : Int
  oside : Int
  oleft : By
  oright : By
  olow : By
  ohigh : By
  zkind : Int
  zwidth : Int
  zdepth : Int
  bwidth : Int
  bdepth : Int
  blength : Int
  bcount : Int
  bcost : Int
  gaps : List (Int × Int)
  lkind : Int
  lside : Int
  lweight : By
  awidth : Int
  adepth : Int
  aspacing : Int
  aload : Int
  aspan : Int
  twidth : Int
  tlength : Int
  tlap : Int
  ttail : Int
  number : Int
  text : By

/-- the edit of noughts -/
def ed0 : Ed := ⟨0, 0, 0, 0, 0, 0, false, 0, 0, 0, [], [], [], [], 0, 0, 0, 0, 0, 0, 0, 0, [], 0, 0, [], 0, 0, 0, 0, 0, 0, 0, 0, 0, 0, []⟩

/-- change.used -/
def usedE (e : Ed) : Ed :=
  if e.kind = 1 then { ed0 with kind := e.kind, text := e.text }
  else if e.kind = 2 then { ed0 with kind := e.kind, index := e.index, sx := e.sx, sy := e.sy, srise := e.srise, srun := e.srun, gable := e.gable, splate := e.splate, sover := e.sover }
  else if e.kind = 3 ∨ e.kind = 12 then { ed0 with kind := e.kind, index := e.index, number := e.number }
  else if e.kind = 4 ∨ e.kind = 8 then { ed0 with kind := e.kind, number := e.number }
  else if e.kind = 5 then { ed0 with kind := e.kind, index := e.index, oside := e.oside, oleft := e.oleft, oright := e.oright, olow := e.olow, ohigh := e.ohigh }
  else if e.kind = 6 then { ed0 with kind := e.kind, zkind := e.zkind, zwidth := e.zwidth, zdepth := e.zdepth }
  else if e.kind = 7 then { ed0 with kind := e.kind, index := e.index, bwidth := e.bwidth, bdepth := e.bdepth, blength := e.blength, bcount := e.bcount, bcost := e.bcost, gaps := e.gaps }
  else if e.kind = 9 then { ed0 with kind := e.kind, twidth := e.twidth, tlength := e.tlength, tlap := e.tlap, ttail := e.ttail }
  else if e.kind = 10 then { ed0 with kind := e.kind, index := e.index, lkind := e.lkind, lside := e.lside, lweight := e.lweight }
  else if e.kind = 11 then { ed0 with kind := e.kind, awidth := e.awidth, adepth := e.adepth, aspacing := e.aspacing, aload := e.aload, aspan := e.aspan }
  else { ed0 with kind := e.kind }

/-- a word behind what is written -/
def addW (bs s : By) : By := if bs = [] then s else bs ++ 32 :: s
def addWs (bs : By) (ws : List By) : By := ws.foldl addW bs
theorem addWs_nil (bs : By) : addWs bs [] = bs := rfl
theorem addWs_cons (bs : By) (w : By) (ws : List By) : addWs bs (w :: ws) = addWs (addW bs w) ws := rfl
theorem addWs_app (bs : By) (a b : List By) : addWs bs (a ++ b) = addWs (addWs bs a) b := by simp [addWs]
/-- words with a blank between each two -/
def tailW (ws : List By) : By := ws.flatMap (fun w => 32 :: w)
theorem addWs_tail {bs : By} (h : bs ≠ []) (ws : List By) : addWs bs ws = bs ++ tailW ws := by
  induction ws generalizing bs with
  | nil => simp [addWs, tailW]
  | cons w ws ih =>
    rw [addWs_cons]
    unfold addW
    rw [if_neg h, ih (by simp)]
    simp [tailW]

theorem split_none {s : By} (h : (32 : UInt8) ∉ s) : Lib.split s [32] = [s] := by
  unfold Lib.split
  rw [Lib.count_one, List.count_eq_zero_of_not_mem h]; rfl
theorem index_app {a r : By} (h : (32 : UInt8) ∉ a) : Lib.index (a ++ 32 :: r) [32] = (a.length : Int) := by
  induction a with
  | nil => rw [List.nil_append, Lib.index]; simp [List.isPrefixOf]
  | cons b a ih =>
    simp only [List.mem_cons, not_or] at h
    have hp : ([32] : By).isPrefixOf (b :: (a ++ 32 :: r)) = false := by simp [List.isPrefixOf, h.1]
    have hix : Lib.index (b :: (a ++ 32 :: r)) [32] = if Lib.index (a ++ 32 :: r) [32] == -1 then -1 else Lib.index (a ++ 32 :: r) [32] + 1 := by rw [Lib.index, hp]; simp
    rw [List.cons_append, hix, ih h.2]
    have : ((a.length : Int) == -1) = false := by rw [beq_eq_false_iff_ne]; omega
    rw [this]; simp
theorem split_app {a r : By} (h : (32 : UInt8) ∉ a) : Lib.split (a ++ 32 :: r) [32] = a :: Lib.split r [32] := by
  unfold Lib.split
  rw [Lib.count_one, Lib.count_one, List.count_append, List.count_eq_zero_of_not_mem h, List.count_cons_self, Nat.zero_add, Nat.add_comm]
  rw [Nat.add_comm 1]
  simp only [Lib.splitK]
  rw [index_app h]
  have : ((a.length : Int) == -1) = false := by rw [beq_eq_false_iff_ne]; omega
  rw [this]
  simp
theorem split_words (w : By) (ws : List By) (h : ∀ x ∈ w :: ws, (32 : UInt8) ∉ x) : Lib.split (w ++ tailW ws) [32] = w :: ws := by
  induction ws generalizing w with
  | nil => simp only [tailW, List.flatMap_nil, List.append_nil]; exact split_none (h w (by simp))
  | cons v ws ih =>
    have e : w ++ tailW (v :: ws) = w ++ 32 :: (v ++ tailW ws) := by simp [tailW]
    rw [e, split_app (h w (by simp)), ih v (fun x hx => h x (by simp at hx ⊢; exact .inr hx))]

/-- the words of the kinds of members -/
def kindWs : List By := [[99, 111, 109, 109, 111, 110], [104, 105, 112, 106, 97, 99, 107], [118, 97, 108, 108, 101, 121, 106, 97, 99, 107], [99, 114, 105, 112, 112, 108, 101], [111, 116, 104, 101, 114], [104, 105, 112], [118, 97, 108, 108, 101, 121], [114, 105, 100, 103, 101], [112, 117, 114, 108, 105, 110], [112, 108, 97, 116, 101], [116, 114, 105, 109, 109, 101, 114], [104, 101, 97, 100, 101, 114]]
/-- the first words of edits, by kind -/
abbrev wName : By := [110, 97, 109, 101]
abbrev wSide : By := [115, 105, 100, 101]
abbrev wSpacing : By := [115, 112, 97, 99, 105, 110, 103]
abbrev wPurlin : By := [112, 117, 114, 108, 105, 110]
abbrev wOpening : By := [111, 112, 101, 110, 105, 110, 103]
abbrev wSize : By := [115, 105, 122, 101]
abbrev wBar : By := [98, 97, 114]
abbrev wKerf : By := [107, 101, 114, 102]
abbrev wTile : By := [116, 105, 108, 101]
abbrev wLoad : By := [108, 111, 97, 100]
abbrev wSpan : By := [115, 112, 97, 110]
abbrev wRemove : By := [114, 101, 109, 111, 118, 101]
/-- the kind of a first word; 0 if there is none -/
def kindOf (w : By) : Int :=
  if w = wName then 1
  else if w = wSide then 2
  else if w = wSpacing then 3
  else if w = wPurlin then 4
  else if w = wOpening then 5
  else if w = wSize then 6
  else if w = wBar then 7
  else if w = wKerf then 8
  else if w = wTile then 9
  else if w = wLoad then 10
  else if w = wSpan then 11
  else if w = wRemove then 12
  else 0
/-- is it the kind of a list from which something can be taken? -/
def remIs (n : Int) : Bool := n == 4 || n == 5 || n == 6 || n == 7 || n == 10 || n == 11
/-- the word of such a list -/
def remW (n : Int) : By :=
  if n = 4 then wPurlin
  else if n = 5 then wOpening
  else if n = 6 then wSize
  else if n = 7 then wBar
  else if n = 10 then wLoad
  else if n = 11 then wSpan
  else []
/-- the list of a word; 0 if there is none -/
def remOf (w : By) : Int :=
  if w = wPurlin then 4
  else if w = wOpening then 5
  else if w = wSize then 6
  else if w = wBar then 7
  else if w = wLoad then 10
  else if w = wSpan then 11
  else 0

/-- the word of a kind of members -/
def kindW (z : Int) : By := kindWs.getD (z - 1).toNat []
/-- slices.Index -/
def indexW (w : By) : Int := if w ∈ kindWs then (kindWs.idxOf w : Int) else -1
theorem index_kindW {z : Int} (h1 : 1 ≤ z) (h2 : z ≤ 12) : 1 + indexW (kindW z) = z := by
  have h : ∀ n : Fin 12, 1 + indexW (kindWs.getD n.1 []) = (n.1 : Int) + 1 := by decide +kernel
  have := h ⟨(z - 1).toNat, by omega⟩
  unfold kindW
  rw [this]
  show ((z - 1).toNat : Int) + 1 = z
  omega
theorem kindW_blank {z : Int} (h1 : 1 ≤ z) (h2 : z ≤ 12) : (32 : UInt8) ∉ kindW z := by
  have h : ∀ n : Fin 12, (32 : UInt8) ∉ kindWs.getD n.1 [] := by decide +kernel
  exact h ⟨(z - 1).toNat, by omega⟩
theorem remOf_remW {n : Int} (h : remIs n = true) : remOf (remW n) = n := by
  unfold remIs at h
  simp only [Bool.or_eq_true, beq_iff_eq] at h
  rcases h with ((((h | h) | h) | h) | h) | h <;> subst h <;> decide +kernel
theorem remW_blank (n : Int) : (32 : UInt8) ∉ remW n := by
  unfold remW
  repeat' split
  all_goals decide

/-- measure.IsName -/
def nameB (b : UInt8) : Bool := (decide (97 ≤ b.toNat) && decide (b.toNat ≤ 122)) || (decide (65 ≤ b.toNat) && decide (b.toNat ≤ 90)) || (decide (48 ≤ b.toNat) && decide (b.toNat ≤ 57))
def isNm (s : By) : Bool := s.all nameB && !s.isEmpty && decide (s.length ≤ 16)
theorem isNm_blank {s : By} (h : isNm s = true) : (32 : UInt8) ∉ s := by
  unfold isNm at h
  simp only [Bool.and_eq_true, List.all_eq_true] at h
  intro hm
  have := h.1.1 _ hm
  revert this; decide

/-- ints as words -/
def intW (l : List Int) : List By := l.map Lib.itoa
def gapI (l : List (Int × Int)) : List Int := l.flatMap (fun g => [g.1, g.2])
def b2i (b : Bool) : Int := if b then 1 else 0
/-- the ints that are written -/
def intsOf (e : Ed) : List Int :=
  if e.kind = 1 then []
  else if e.kind = 2 then [e.index, e.sx, e.sy, e.srise, e.srun, e.splate, e.sover, b2i e.gable]
  else if e.kind = 3 then [e.index, e.number]
  else if e.kind = 4 then [e.number]
  else if e.kind = 5 then [e.index, e.oside]
  else if e.kind = 6 then [e.zwidth, e.zdepth]
  else if e.kind = 7 then [e.index, e.bwidth, e.bdepth, e.blength, e.bcount, e.bcost] ++ gapI e.gaps
  else if e.kind = 8 then [e.number]
  else if e.kind = 9 then [e.twidth, e.tlength, e.tlap, e.ttail]
  else if e.kind = 10 then [e.index, e.lkind, e.lside]
  else if e.kind = 11 then [e.awidth, e.adepth, e.aspacing, e.aload, e.aspan]
  else [e.index]
/-- the numbers that are written -/
def numsOf (e : Ed) : List By :=
  if e.kind = 5 then [e.oleft, e.oright, e.olow, e.ohigh]
  else if e.kind = 10 then [e.lweight]
  else []
/-- the words ahead of the ints -/
def headsOf (e : Ed) : List By :=
  if e.kind = 1 then [wName, e.text]
  else if e.kind = 2 then [wSide]
  else if e.kind = 3 then [wSpacing]
  else if e.kind = 4 then [wPurlin]
  else if e.kind = 5 then [wOpening]
  else if e.kind = 6 then [wSize, kindW e.zkind]
  else if e.kind = 7 then [wBar]
  else if e.kind = 8 then [wKerf]
  else if e.kind = 9 then [wTile]
  else if e.kind = 10 then [wLoad]
  else if e.kind = 11 then [wSpan]
  else [wRemove, remW e.number]
def wordsOf (e : Ed) : List By := headsOf e ++ intW (intsOf e) ++ numsOf e

/-- is an int out of range? -/
def outI (n : Int) : Bool := decide (n < -1073741824) || decide (1073741824 < n)
/-- writer.wide behind ints -/
def wideE (x : Int) (l : List Int) : Int := if l.any outI then 2 else x
/-- writer.num behind numbers -/
def numE (chk : By → Int) (x : Int) (l : List By) : Int := l.foldl (fun x a => if x = 0 then chk a else x) x

open Classical in
/-- change.Text -/
noncomputable def txt (chk : By → Int) (e : Ed) : By × Int :=
  if e.kind < 1 ∨ 12 < e.kind then ([], 8)
  else if ¬ e = usedE e then ([], 9)
  else if e.kind = 1 ∧ isNm e.text = false then ([], 13)
  else if (e.kind = 6 ∧ (e.zkind < 1 ∨ 12 < e.zkind)) ∨ (e.kind = 12 ∧ remIs e.number = false) then ([], 8)
  else if 16 < e.gaps.length then ([], 4)
  else if ¬ wideE 0 (intsOf e) = 0 then ([], wideE 0 (intsOf e))
  else if ¬ numE chk 0 (numsOf e) = 0 then ([], numE chk 0 (numsOf e))
  else (addWs [] (wordsOf e), 0)

/-- a reader: the words that are left, and whether something was wrong -/
abbrev Rdr : Type := List By × Bool
def rW (r : Rdr) : By × Rdr := match r.1 with
  | [] => ([], ([], true))
  | w :: t => (w, (t, r.2))
/-- the int of a word, and whether it is none -/
def atoiV (w : By) : Int × Bool := match Lib.atoiAll w with
  | .ok v => (v, false)
  | .range => (Lib.atoiSat w, true)
  | _ => (0, true)
def rI (r : Rdr) : Int × Rdr := ((atoiV (rW r).1).1, ((rW r).2.1, (rW r).2.2 || (atoiV (rW r).1).2))
/-- the gaps, while words are left -/
def rG : Nat → Rdr → List (Int × Int) × Rdr
  | 0, r => ([], r)
  | n + 1, r => match r.1 with
    | [] => ([], r)
    | _ :: _ => (((rI r).1, (rI (rI r).2).1) :: (rG n (rI (rI r).2).2).1, (rG n (rI (rI r).2).2).2)
/-- n ints -/
def rIs : Nat → Rdr → List Int × Rdr
  | 0, r => ([], r)
  | n + 1, r => ((rI r).1 :: (rIs n (rI r).2).1, (rIs n (rI r).2).2)
def rWs : Nat → Rdr → List By × Rdr
  | 0, r => ([], r)
  | n + 1, r => ((rW r).1 :: (rWs n (rW r).2).1, (rWs n (rW r).2).2)
/-- reader.read -/
def rE (r : Rdr) : Ed × Rdr :=
  let k := kindOf (rW r).1
  let r1 := (rW r).2
  let e : Ed := { ed0 with kind := k }
  if k = 1 then ({ e with text := (rW r1).1 }, (rW r1).2)
  else if k = 2 then
    let l := (rIs 8 r1).1
    ({ e with index := l.getD 0 0, sx := l.getD 1 0, sy := l.getD 2 0, srise := l.getD 3 0, srun := l.getD 4 0, splate := l.getD 5 0, sover := l.getD 6 0, gable := l.getD 7 0 == 1 }, (rIs 8 r1).2)
  else if k = 3 then ({ e with index := (rIs 2 r1).1.getD 0 0, number := (rIs 2 r1).1.getD 1 0 }, (rIs 2 r1).2)
  else if k = 4 ∨ k = 8 then ({ e with number := (rI r1).1 }, (rI r1).2)
  else if k = 5 then
    let l := (rIs 2 r1).1
    let ws := (rWs 4 (rIs 2 r1).2).1
    ({ e with index := l.getD 0 0, oside := l.getD 1 0, oleft := ws.getD 0 [], oright := ws.getD 1 [], olow := ws.getD 2 [], ohigh := ws.getD 3 [] }, (rWs 4 (rIs 2 r1).2).2)
  else if k = 6 then
    let l := (rIs 2 (rW r1).2).1
    ({ e with zkind := 1 + indexW (rW r1).1, zwidth := l.getD 0 0, zdepth := l.getD 1 0 }, (rIs 2 (rW r1).2).2)
  else if k = 7 then
    let l := (rIs 6 r1).1
    let r2 := (rIs 6 r1).2
    ({ e with index := l.getD 0 0, bwidth := l.getD 1 0, bdepth := l.getD 2 0, blength := l.getD 3 0, bcount := l.getD 4 0, bcost := l.getD 5 0, gaps := (rG r2.1.length r2).1 }, (rG r2.1.length r2).2)
  else if k = 9 then
    let l := (rIs 4 r1).1
    ({ e with twidth := l.getD 0 0, tlength := l.getD 1 0, tlap := l.getD 2 0, ttail := l.getD 3 0 }, (rIs 4 r1).2)
  else if k = 10 then
    let l := (rIs 3 r1).1
    ({ e with index := l.getD 0 0, lkind := l.getD 1 0, lside := l.getD 2 0, lweight := (rW (rIs 3 r1).2).1 }, (rW (rIs 3 r1).2).2)
  else if k = 11 then
    let l := (rIs 5 r1).1
    ({ e with awidth := l.getD 0 0, adepth := l.getD 1 0, aspacing := l.getD 2 0, aload := l.getD 3 0, aspan := l.getD 4 0 }, (rIs 5 r1).2)
  else if k = 12 then ({ e with number := remOf (rW r1).1, index := (rI (rW r1).2).1 }, (rI (rW r1).2).2)
  else (e, r1)

open Classical in
/-- change.Parse -/
noncomputable def prs (chk : By → Int) (s : By) : Ed × Int :=
  if 65536 < s.length then (ed0, 4)
  else if (rE (Lib.split s [32], false)).2.2 = true ∨ ¬ (rE (Lib.split s [32], false)).2.1 = [] then (ed0, 3)
  else if ¬ txt chk (rE (Lib.split s [32], false)).1 = (s, 0) then (ed0, 3)
  else ((rE (Lib.split s [32], false)).1, 0)
end Kp
namespace Kp
open Go

theorem ofNat_dig {i : Nat} (h : i < 10) : isD (UInt8.ofNat (48 + i)) = true ∧ dig (UInt8.ofNat (48 + i)) = i := by
  have hh : ∀ n : Fin 10, isD (UInt8.ofNat (48 + n.1)) = true ∧ dig (UInt8.ofNat (48 + n.1)) = n.1 := by decide +kernel
  exact hh ⟨i, h⟩
theorem decDigits_spec (u : Nat) : (Lib.decDigits u).all isD = true ∧ natOf (Lib.decDigits u) = u ∧ Lib.decDigits u ≠ [] := by
  induction u using Nat.strongRecOn with
  | _ u ih =>
    rw [Lib.decDigits]
    split
    · rename_i h
      obtain ⟨h1, h2⟩ := ofNat_dig h
      exact ⟨by rw [List.all_cons, h1]; rfl, by show 0 * 10 + dig _ = u; rw [h2]; omega, by simp⟩
    · rename_i h
      obtain ⟨a, b, _⟩ := ih (u / 10) (by omega)
      obtain ⟨h1, h2⟩ := ofNat_dig (i := u % 10) (by omega)
      refine ⟨by rw [List.all_append, a, List.all_cons, h1]; rfl, ?_, by simp⟩
      rw [natOf_snoc, b, h2]; omega
theorem nDig_le (n k : Nat) (hk : 1 ≤ k) (h : n < 10 ^ k) : Lib.nDigits n ≤ k := by
  induction k generalizing n with
  | zero => omega
  | succ k ih =>
    by_cases h10 : n < 10
    · rw [Lib.nDigits_small h10]; omega
    · rw [Lib.nDigits, dif_neg h10]
      have : n / 10 < 10 ^ k := by rw [Nat.div_lt_iff_lt_mul (by decide)]; rw [Nat.pow_succ] at h; exact h
      have hk1 : 1 ≤ k := by
        rcases Nat.eq_zero_or_pos k with h0 | h0
        · subst h0; simp at this; omega
        · exact h0
      have := ih (n / 10) hk1 this
      omega
theorem itoa_len {n : Int} (h : outI n = false) : (Lib.itoa n).length ≤ 11 := by
  unfold outI at h
  simp only [Bool.or_eq_false_iff, decide_eq_false_iff_not] at h
  unfold Lib.itoa
  split
  · have := nDig_le n.natAbs 10 (by decide) (by omega)
    rw [List.length_cons, Lib.decDigits_length]; omega
  · have := nDig_le n.toNat 10 (by decide) (by omega)
    rw [Lib.decDigits_length]; omega
theorem atoi_itoa (n : Int) : Lib.atoi (Lib.itoa n) = some n := by
  unfold Lib.itoa
  split
  · rename_i h
    obtain ⟨a, b, c⟩ := decDigits_spec n.natAbs
    simp only [Lib.atoi, beq_self_eq_true, if_true, decNat_isD a c, b, Option.map_some]
    congr 1; omega
  · rename_i h
    obtain ⟨a, b, c⟩ := decDigits_spec n.toNat
    cases hd : Lib.decDigits n.toNat with
    | nil => exact absurd hd c
    | cons x r =>
      rw [hd] at a b c
      have hx : isD x = true := by simp only [List.all_cons, Bool.and_eq_true] at a; exact a.1
      have h1 : (x == 45) = false := by rw [beq_eq_false_iff_ne]; intro e; subst e; revert hx; decide
      have h2 : (x == 43) = false := by rw [beq_eq_false_iff_ne]; intro e; subst e; revert hx; decide
      simp only [Lib.atoi, h1, h2, Bool.false_eq_true, if_false, decNat_isD a c, b, Option.map_some]
      congr 1; omega
theorem atoiV_itoa {n : Int} (h : outI n = false) : atoiV (Lib.itoa n) = (n, false) := by
  unfold atoiV
  rw [Lib.atoiAll_short _ (by have := itoa_len h; omega), atoi_itoa]; rfl
theorem itoa_blank (n : Int) : (32 : UInt8) ∉ Lib.itoa n := by
  have h : ∀ u, (32 : UInt8) ∉ Lib.decDigits u := by
    intro u hm
    obtain ⟨a, _, _⟩ := decDigits_spec u
    rw [List.all_eq_true] at a
    have := a _ hm
    revert this; decide
  unfold Lib.itoa
  split
  · intro hm
    rcases List.mem_cons.1 hm with e | e
    · revert e; decide
    · exact h _ e
  · exact h _
theorem rI_itoa {n : Int} (h : outI n = false) (t : List By) (b : Bool) : rI (Lib.itoa n :: t, b) = (n, (t, b)) := by
  unfold rI rW
  simp [atoiV_itoa h]
theorem rIs_intW {l : List Int} (h : l.any outI = false) (t : List By) (b : Bool) : rIs l.length (intW l ++ t, b) = (l, (t, b)) := by
  induction l with
  | nil => rfl
  | cons n l ih =>
    simp only [List.any_cons, Bool.or_eq_false_iff] at h
    simp only [intW, List.map_cons, List.cons_append, List.length_cons, rIs, rI_itoa h.1]
    have := ih h.2
    simp only [intW] at this
    rw [this]
theorem rG_gaps {l : List (Int × Int)} (h : (gapI l).any outI = false) (b : Bool) (n : Nat) (hn : l.length ≤ n) : rG n (intW (gapI l), b) = (l, ([], b)) := by
  induction l generalizing n with
  | nil => cases n <;> rfl
  | cons g l ih =>
    cases n with
    | zero => simp at hn
    | succ n =>
      simp only [gapI, List.flatMap_cons, List.cons_append, List.nil_append, List.any_cons, Bool.or_eq_false_iff] at h
      have := ih (by simpa [gapI] using h.2.2) n (by simpa using hn)
      simp only [gapI, intW, List.flatMap_cons, List.cons_append, List.nil_append, List.map_cons, rG, rI_itoa h.1, rI_itoa h.2.1] at this ⊢
      rw [this]

/-- what a text's being there says -/
structure Fine (chk : By → Int) (e : Ed) : Prop where
  k1 : 1 ≤ e.kind
  k2 : e.kind ≤ 12
  used : e = usedE e
  nm : e.kind = 1 → isNm e.text = true
  size : e.kind = 6 → 1 ≤ e.zkind ∧ e.zkind ≤ 12
  rem : e.kind = 12 → remIs e.number = true
  gaps : e.gaps.length ≤ 16
  ints : (intsOf e).any outI = false
  nums : numE chk 0 (numsOf e) = 0
theorem txt_fine {chk : By → Int} {e : Ed} {t : By} (h : txt chk e = (t, 0)) : Fine chk e ∧ t = addWs [] (wordsOf e) := by
  unfold txt at h
  split at h
  · simp at h
  split at h
  · simp at h
  split at h
  · simp at h
  split at h
  · simp at h
  split at h
  · simp at h
  split at h
  · rename_i h6; simp only [Prod.mk.injEq] at h; exact absurd h.2 h6
  split at h
  · rename_i h7; simp only [Prod.mk.injEq] at h; exact absurd h.2 h7
  · rename_i h1 h2 h3 h4 h5 h6 h7
    simp only [Prod.mk.injEq] at h
    refine ⟨⟨by omega, by omega, Classical.not_not.1 h2, fun hk => ?_, fun hk => by omega, fun hk => ?_, by omega, ?_, Classical.not_not.1 h7⟩, h.1.symm⟩
    · cases hb : isNm e.text with
      | true => rfl
      | false => exact absurd ⟨hk, hb⟩ h3
    · cases hb : remIs e.number with
      | true => rfl
      | false => exact absurd (.inr ⟨hk, hb⟩) h4
    · unfold wideE at h6
      cases hb : (intsOf e).any outI with
      | false => rfl
      | true => rw [hb] at h6; simp at h6
theorem fine_txt {chk : By → Int} {e : Ed} (h : Fine chk e) : txt chk e = (addWs [] (wordsOf e), 0) := by
  unfold txt
  rw [if_neg (by have := h.k1; have := h.k2; omega), if_neg (fun x => x h.used), if_neg (fun x => by rw [h.nm x.1] at x; exact absurd x.2 (by decide)), if_neg, if_neg (by have := h.gaps; omega), if_neg, if_neg (fun x => x h.nums)]
  · intro x; exact x (by unfold wideE; rw [h.ints]; rfl)
  · rintro (⟨hk, hz⟩ | ⟨hk, hz⟩)
    · have := h.size hk; omega
    · rw [h.rem hk] at hz; cases hz

theorem numE_ne {chk : By → Int} {x : Int} (l : List By) (h : ¬ x = 0) : numE chk x l = x := by
  induction l with
  | nil => rfl
  | cons a l ih => unfold numE at *; rw [List.foldl_cons, if_neg h]; exact ih
theorem numE_ok {chk : By → Int} {l : List By} (h : numE chk 0 l = 0) : ∀ a ∈ l, chk a = 0 := by
  induction l with
  | nil => intro a ha; cases ha
  | cons b l ih =>
    have e : numE chk 0 (b :: l) = numE chk (chk b) l := by unfold numE; rw [List.foldl_cons, if_pos rfl]
    rw [e] at h
    by_cases hb : chk b = 0
    · rw [hb] at h
      intro a ha
      rcases List.mem_cons.1 ha with rfl | ha
      · exact hb
      · exact ih h a ha
    · rw [numE_ne l hb] at h; exact absurd h hb

theorem intW_app (a b : List Int) : intW (a ++ b) = intW a ++ intW b := by simp [intW]
theorem b2i_eq (b : Bool) : (b2i b == 1) = b := by cases b <;> rfl

theorem rE_words {chk : By → Int} {e : Ed} (h : Fine chk e) : rE (wordsOf e, false) = (e, ([], false)) := by
  obtain ⟨k1, k2, hu, hnm, hsz, hrm, -, hint, -⟩ := h
  obtain ⟨kind, index, sx, sy, srise, srun, gable, splate, sover, oside, oleft, oright, olow, ohigh, zkind, zwidth, zdepth, bwidth, bdepth, blength, bcount, bcost, gaps, lkind, lside, lweight, awidth, adepth, aspacing, aload, aspan, twidth, tlength, tlap, ttail, number, text⟩ := e
  simp only at k1 k2 hnm hsz hrm
  have hk : kind = 1 ∨ kind = 2 ∨ kind = 3 ∨ kind = 4 ∨ kind = 5 ∨ kind = 6 ∨ kind = 7 ∨ kind = 8 ∨ kind = 9 ∨ kind = 10 ∨ kind = 11 ∨ kind = 12 := by omega
  rcases hk with rfl | rfl | rfl | rfl | rfl | rfl | rfl | rfl | rfl | rfl | rfl | rfl
  all_goals
    simp only [usedE, ed0, Int.reduceEq, reduceIte, or_self, or_true, or_false, Ed.mk.injEq, true_and, and_true] at hu
    simp only [intsOf, Int.reduceEq, reduceIte] at hint
  all_goals
    repeat (obtain ⟨hx, hu⟩ := hu; subst hx)
    subst hu
    simp only [List.any_cons, List.any_nil, List.any_append, Bool.or_eq_false_iff, and_true] at hint
  · have hd : kindOf wName = 1 := by decide +kernel
    simp [wordsOf, headsOf, intsOf, numsOf, rE, rW, hd, ed0, intW]
  · have hd : kindOf wSide = 2 := by decide +kernel
    simp [wordsOf, headsOf, intsOf, numsOf, rE, rW, rIs, rI_itoa, hint, hd, ed0, intW, b2i_eq]
  · have hd : kindOf wSpacing = 3 := by decide +kernel
    simp [wordsOf, headsOf, intsOf, numsOf, rE, rW, rIs, rI_itoa, hint, hd, ed0, intW]
  · have hd : kindOf wPurlin = 4 := by decide +kernel
    simp [wordsOf, headsOf, intsOf, numsOf, rE, rW, rI_itoa, hint, hd, ed0, intW]
  · have hd : kindOf wOpening = 5 := by decide +kernel
    simp [wordsOf, headsOf, intsOf, numsOf, rE, rW, rWs, rIs, rI_itoa, hint, hd, ed0, intW]
  · have hd : kindOf wSize = 6 := by decide +kernel
    obtain ⟨z1, z2⟩ := hsz rfl
    simp [wordsOf, headsOf, intsOf, numsOf, rE, rW, rIs, rI_itoa, hint, hd, ed0, intW, index_kindW z1 z2]
  · have hd : kindOf wBar = 7 := by decide +kernel
    have hg := rG_gaps hint.2 false (intW (gapI gaps)).length (by
      have : ∀ l : List (Int × Int), l.length ≤ (gapI l).length := by
        intro l
        induction l with
        | nil => simp
        | cons g l ih => simp [gapI] at ih ⊢; omega
      have := this gaps
      simpa [intW] using this)
    simp only [intW] at hg
    simp [wordsOf, headsOf, intsOf, numsOf, rE, rW, rIs, rI_itoa, hint.1, hd, ed0, intW] at hg ⊢
    rw [hg]; simp
  · have hd : kindOf wKerf = 8 := by decide +kernel
    simp [wordsOf, headsOf, intsOf, numsOf, rE, rW, rI_itoa, hint, hd, ed0, intW]
  · have hd : kindOf wTile = 9 := by decide +kernel
    simp [wordsOf, headsOf, intsOf, numsOf, rE, rW, rIs, rI_itoa, hint, hd, ed0, intW]
  · have hd : kindOf wLoad = 10 := by decide +kernel
    simp [wordsOf, headsOf, intsOf, numsOf, rE, rW, rIs, rI_itoa, hint, hd, ed0, intW]
  · have hd : kindOf wSpan = 11 := by decide +kernel
    simp [wordsOf, headsOf, intsOf, numsOf, rE, rW, rIs, rI_itoa, hint, hd, ed0, intW]
  · have hd : kindOf wRemove = 12 := by decide +kernel
    simp [wordsOf, headsOf, intsOf, numsOf, rE, rW, rI_itoa, hint, hd, ed0, intW, remOf_remW (hrm rfl)]

/-- what is asked of the check of numbers: what it lets in has no blank -/
def NoBlank (chk : By → Int) : Prop := ∀ a, chk a = 0 → (32 : UInt8) ∉ a
theorem heads_blank {chk : By → Int} {e : Ed} (h : Fine chk e) : ∀ x ∈ headsOf e, (32 : UInt8) ∉ x := by
  have hn := h.nm
  have hz := h.size
  unfold headsOf
  intro x
  split
  · rename_i hk
    intro hx
    simp only [List.mem_cons, List.not_mem_nil, or_false] at hx
    rcases hx with rfl | rfl
    · decide
    · exact isNm_blank (hn hk)
  repeat (split; · intro hx; simp only [List.mem_cons, List.not_mem_nil, or_false] at hx; subst hx; decide)
  split
  · rename_i hk
    intro hx
    simp only [List.mem_cons, List.not_mem_nil, or_false] at hx
    rcases hx with rfl | rfl
    · decide
    · exact kindW_blank (hz hk).1 (hz hk).2
  repeat (split; · intro hx; simp only [List.mem_cons, List.not_mem_nil, or_false] at hx; subst hx; decide)
  intro hx
  simp only [List.mem_cons, List.not_mem_nil, or_false] at hx
  rcases hx with rfl | rfl
  · decide
  · exact remW_blank _
theorem words_blank {chk : By → Int} (hc : NoBlank chk) {e : Ed} (h : Fine chk e) : ∀ x ∈ wordsOf e, (32 : UInt8) ∉ x := by
  intro x hx
  unfold wordsOf at hx
  rcases List.mem_append.1 hx with hx | hx
  · rcases List.mem_append.1 hx with hx | hx
    · exact heads_blank h x hx
    · unfold intW at hx
      obtain ⟨n, _, rfl⟩ := List.mem_map.1 hx
      exact itoa_blank n
  · exact hc x (numE_ok h.nums x hx)
theorem heads_cons (e : Ed) : ∃ b w ws, headsOf e = (b :: w) :: ws := by
  have : ∀ l, headsOf e = l → ∃ b w ws, l = (b :: w) :: ws := by
    intro l
    unfold headsOf
    repeat' split
    all_goals intro h; subst h; exact ⟨_, _, _, rfl⟩
  exact this _ rfl
theorem words_split {chk : By → Int} (hc : NoBlank chk) {e : Ed} (h : Fine chk e) : Lib.split (addWs [] (wordsOf e)) [32] = wordsOf e := by
  have hb := words_blank hc h
  obtain ⟨b, w, ws, hh⟩ := heads_cons e
  have hw : wordsOf e = (b :: w) :: (ws ++ intW (intsOf e) ++ numsOf e) := by unfold wordsOf; rw [hh]; simp
  rw [hw] at hb ⊢
  rw [addWs_cons]
  have e1 : addW [] (b :: w) = b :: w := rfl
  rw [e1, addWs_tail (by simp)]
  exact split_words _ _ hb

theorem tailW_len {ws : List By} {m : Nat} (h : ∀ x ∈ ws, x.length ≤ m) : (tailW ws).length ≤ ws.length * (m + 1) := by
  induction ws with
  | nil => simp [tailW]
  | cons w ws ih =>
    have h1 := h w (by simp)
    have h2 := ih (fun x hx => h x (by simp [hx]))
    simp only [tailW, List.flatMap_cons, List.length_append, List.length_cons] at h2 ⊢
    rw [Nat.add_mul]; omega
theorem heads_len {chk : By → Int} {e : Ed} (h : Fine chk e) : (headsOf e).length ≤ 2 ∧ ∀ x ∈ headsOf e, x.length ≤ 16 := by
  have hn := h.nm
  have hz := h.size
  have hkw : ∀ z, (kindW z).length ≤ 16 := by
    intro z
    unfold kindW
    rw [List.getD_eq_getElem?_getD]
    cases hx : kindWs[(z - 1).toNat]? with
    | none => simp
    | some x =>
      have : ∀ y ∈ kindWs, y.length ≤ 16 := by decide +kernel
      exact this x (List.mem_of_getElem? hx)
  have hrw : ∀ n, (remW n).length ≤ 16 := by
    intro n
    unfold remW
    repeat' split
    all_goals decide
  have hnm : e.kind = 1 → e.text.length ≤ 16 := fun hk => by
    have := hn hk
    unfold isNm at this
    simp only [Bool.and_eq_true, decide_eq_true_eq] at this
    exact this.2
  have key : ∀ l, headsOf e = l → l.length ≤ 2 ∧ ∀ x ∈ l, x.length ≤ 16 := by
    intro l
    unfold headsOf
    repeat' split
    all_goals
      intro h
      subst h
      refine ⟨by simp, fun x hx => ?_⟩
      simp only [List.mem_cons, List.not_mem_nil, or_false] at hx
    · rcases hx with rfl | rfl
      · decide
      · exact hnm (by assumption)
    all_goals first
      | (subst hx; decide)
      | (rcases hx with rfl | rfl
         · decide
         · first | exact hkw _ | exact hrw _)
  exact key _ rfl
theorem ints_len {chk : By → Int} {e : Ed} (h : Fine chk e) : (intsOf e).length ≤ 38 := by
  have := h.gaps
  have hg : (gapI e.gaps).length = 2 * e.gaps.length := by
    unfold gapI
    induction e.gaps with
    | nil => rfl
    | cons g l ih => simp [ih]; omega
  unfold intsOf
  repeat' split
  all_goals simp
  omega
theorem text_len {chk : By → Int} {e : Ed} (h : Fine chk e) (hn : ∀ a ∈ numsOf e, a.length ≤ 700) : (addWs [] (wordsOf e)).length ≤ 65536 := by
  obtain ⟨b, w, ws, hh⟩ := heads_cons e
  have hw : wordsOf e = (b :: w) :: (ws ++ intW (intsOf e) ++ numsOf e) := by unfold wordsOf; rw [hh]; simp
  obtain ⟨h1, h2⟩ := heads_len h
  rw [hh] at h1 h2
  rw [hw, addWs_cons]
  have e1 : addW [] (b :: w) = b :: w := rfl
  rw [e1, addWs_tail (by simp), List.length_append]
  have hi := ints_len h
  have hni : (numsOf e).length ≤ 4 := by
    unfold numsOf
    split
    · simp
    · split
      · simp
      · simp
  have hs := h2 (b :: w) (by simp)
  have ht := tailW_len (ws := ws ++ intW (intsOf e) ++ numsOf e) (m := 700) (fun x hx => by
    rcases List.mem_append.1 hx with hx | hx
    · rcases List.mem_append.1 hx with hx | hx
      · have := h2 x (by simp [hx]); omega
      · unfold intW at hx
        obtain ⟨n, hm, rfl⟩ := List.mem_map.1 hx
        have ho : outI n = false := by
          have := h.ints
          rw [List.any_eq_false] at this
          simpa using this n hm
        have := itoa_len ho; omega
    · exact hn x hx)
  have hl : (ws ++ intW (intsOf e) ++ numsOf e).length ≤ 44 := by
    simp only [List.length_cons] at h1
    simp [intW]; omega
  have := Nat.mul_le_mul_right 701 hl
  omega

/-- texts are read back -/
theorem prs_txt {chk : By → Int} (hc : NoBlank chk) {e : Ed} {t : By} (h : txt chk e = (t, 0)) (hn : ∀ a ∈ numsOf e, a.length ≤ 700) : prs chk t = (e, 0) ∧ t.length ≤ 65536 := by
  obtain ⟨hf, rfl⟩ := txt_fine h
  have hl := text_len hf hn
  refine ⟨?_, hl⟩
  unfold prs
  rw [words_split hc hf, rE_words hf, if_neg (by omega), if_neg (by simp), if_neg (fun x => x (fine_txt hf))]
/-- what can be read is the text of the result -/
theorem txt_prs {chk : By → Int} {s : By} {a : Ed} (h : prs chk s = (a, 0)) : txt chk a = (s, 0) := by
  unfold prs at h
  split at h
  · simp at h
  split at h
  · simp at h
  split at h
  · simp at h
  · rename_i h3
    simp only [Prod.mk.injEq, and_true] at h
    rw [← h]; exact Classical.not_not.1 h3
theorem prs_bad {chk : By → Int} {s : By} (hs : s.length ≤ 65536) (h : ¬ (prs chk s).2 = 0) : prs chk s = (ed0, 3) := by
  unfold prs at h ⊢
  rw [if_neg (by omega)] at h ⊢
  split at h
  · rename_i h1; rw [if_pos h1]
  · rename_i h1
    rw [if_neg h1]
    split at h
    · rename_i h2; rw [if_pos h2]
    · simp at h
end Kp
