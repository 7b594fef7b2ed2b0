/- rational.cut, read, Check: the walks. -/
import Derived.Test.YtbnnccnicfddlaaGreatDoorRatA
set_option linter.unusedSimpArgs false
set_option linter.unusedVariables false
namespace Go.Proofs.YtbnnccnicfddlaaGreatDoor
open Go.RowKit Go.Shelf Kp

theorem cut_len (a sep : List UInt8) : (Lib.cut a sep).1.length ≤ a.length ∧ (Lib.cut a sep).2.1.length ≤ a.length := by
  unfold Lib.cut
  split
  · simp; omega
  · simp
abbrev MaxL (w : World) : Prop := ∃ m : Int, w.cell? ⟨1, 0, none⟩ = some (.int .i64 m)
theorem MaxL.below {w w' : World} (h : MaxL w) {B0 : Nat} (hb : Below B0 w w') (hB : w.heap.size ≤ B0) : MaxL w' := by
  obtain ⟨m, hm⟩ := h
  have := cell_lt hm
  exact ⟨m, (hb.cell (by omega)).trans hm⟩
theorem scut_any (a : List UInt8) (w : World) (hs : a.length ≤ 1000000) (hm : MaxL w) :
    Calls Tryz.prog 72 #[.string (tx a), .string ⟨#[47]⟩] w fun e w' => e = .returned (.tuple #[.string (tx (Lib.cut a [47]).1), .string (tx (Lib.cut a [47]).2.1), .bool (Lib.cut a [47]).2.2]) ∧ Below w.heap.size w w' := by
  obtain ⟨m, hm⟩ := hm
  have h := Tryz.strings_Cut (tx a) (tx [47]) m w (by rw [tx_size]; omega) hm
  rw [tx_list, tx_list] at h
  exact h.mono fun _ _ ⟨h1, n, h2⟩ => ⟨h1, by rw [h2]; exact below_drewN (Below.refl _ _) n⟩
theorem scutprefix_any (a : List UInt8) (w : World) :
    Calls Tryz.prog 73 #[.string (tx a), .string ⟨#[45]⟩] w fun e w' => e = .returned (.tuple #[.string (tx (own a)), .bool (Lib.hasPrefix a [45])]) ∧ w' = w := by
  have h := Tryz.strings_CutPrefix (tx a) (tx [45]) w
  rw [tx_list, tx_list] at h
  exact h

def good (s : List UInt8) : Bool := decide (¬ rdig s = 0) && decide (¬ rdig s < s.length)
theorem good_true {s : List UInt8} (h0 : ¬ rdig s = 0) (h1 : ¬ rdig s < s.length) : good s = true := by unfold good; simp [h0]; omega
/-- rational.cut: the parts -/
def cutR (a : List UInt8) : Option (List UInt8 × List UInt8) :=
  let n := (Lib.cut a [47]).1
  let d := (Lib.cut a [47]).2.1
  if good (own n) = false ∨ (Lib.hasPrefix n [45] = true ∧ own n = [48]) then none
  else if (Lib.cut a [47]).2.2 = false then some (n, [49])
  else if good d = false ∨ d = [48] ∨ d = [49] then none
  else some (n, d)
def CutPost (w : World) (r : Option (List UInt8 × List UInt8)) (e : Ending) (w' : World) : Prop :=
  (match r with
   | none => e = .returned (.tuple #[.agg #[.string ⟨#[]⟩, .string ⟨#[]⟩], .bool false])
   | some (n, d) => e = .returned (.tuple #[.agg #[.string (tx n), .string (tx d)], .bool true])) ∧ Below w.heap.size w w'
theorem cut_ret_none {w W : World} {a : Act} {r : Option (List UInt8 × List UInt8)} {blk : Nat} (hr : r = none) (hX : Bx2 W blk 104 (.string ⟨#[]⟩) (.string ⟨#[]⟩))
    (h2 : a.tmps[2]? = some (.pointer (some ⟨blk, 0, none⟩))) (h3 : a.tmps[3]? = some (.bool false)) (hd : a.defers = []) (hB : Below w.heap.size w W) :
    bodyPost Tryz.prog Tryz.f54 (CutPost w r) .ret a W := by
  have c0 := hX.cell0
  have c1 := hX.cell1
  subst hr
  refine bodyPost_ret (v := .tuple #[.agg #[.string ⟨#[]⟩, .string ⟨#[]⟩], .bool false]) ?_ hd ⟨rfl, hB⟩
  simp [results, Tryz.results54, go_sem, h2, h3, c0, c1]
theorem cut_ret_some {w W : World} {a : Act} {r : Option (List UInt8 × List UInt8)} {blk : Nat} {n d : List UInt8} (hr : r = some (n, d)) (hX : Bx2 W blk 104 (.string (tx n)) (.string (tx d)))
    (h2 : a.tmps[2]? = some (.pointer (some ⟨blk, 0, none⟩))) (h3 : a.tmps[3]? = some (.bool true)) (hd : a.defers = []) (hB : Below w.heap.size w W) :
    bodyPost Tryz.prog Tryz.f54 (CutPost w r) .ret a W := by
  have c0 := hX.cell0
  have c1 := hX.cell1
  subst hr
  refine bodyPost_ret (v := .tuple #[.agg #[.string (tx n), .string (tx d)], .bool true]) ?_ hd ⟨rfl, hB⟩
  simp [results, Tryz.results54, go_sem, h2, h3, c0, c1]

set_option maxRecDepth 100000 in
set_option maxHeartbeats 2000000 in
theorem cut_1 (a n d o : List UInt8) (is neg : Bool) (w : World) (hs : a.length ≤ 1000000) (hm : MaxL w) (h1 : (Lib.cut a [47]).1 = n) (h2 : (Lib.cut a [47]).2.1 = d) (h3 : (Lib.cut a [47]).2.2 = is) (ho : own n = o) (hp : Lib.hasPrefix n [45] = neg) (hk : rdig o = 0) : Calls Tryz.prog 54 #[.string (tx a)] w (CutPost w (cutR a)) := by
  have hol : o.length ≤ 1000000 := by have := own_len n; have := (cut_len a [47]).1; rw [h1] at this; rw [← ho]; omega
  have hdl : d.length ≤ 1000000 := by have := (cut_len a [47]).2; rw [h2] at this; omega
  have HR := Lib.hid (show cutR a = none by unfold cutR; simp only []; rw [h1, h2, h3, ho, hp]; rw [if_pos (.inl (by unfold good; simp [hk]))])
  have k0 : ((rdig o : Int) == 0) = true := by rw [beq_iff_eq]; omega
  have HC1 := Lib.hid h1
  have HC2 := Lib.hid h2
  have HC3 := Lib.hid h3
  have HO := Lib.hid ho
  have HP := Lib.hid hp
  have HM := Lib.hid hm
  clear hm h1 h2 h3 ho hp hk
  go_enter Tryz.func54, Tryz.ntmps54
  go_wp2_with (first
    | (go_at_call 72; refine (scut_any a _ hs (HM.out.below ((Below.refl _ _).alloc (Nat.le_refl _) _) (Nat.le_refl _))).mono ?_; rintro e w1 ⟨rfl, hB1⟩; rw [HC1.out, HC2.out, HC3.out]; have X1 := Lib.hid ((Bx2.at_ rfl).below hB1 (by simp)); have c0 := X1.out.cell0; have c1 := X1.out.cell1; have f0 := X1.out.frozen 0; have f1 := X1.out.frozen 1; have l1 := X1.out.lt)
    | (go_at_call 73; refine (scutprefix_any _ _).mono ?_; rintro e w2 ⟨rfl, rfl⟩; rw [HO.out, HP.out])
    | (go_at_call 74; refine (rdigits_any _ _ (by first | assumption | decide)).mono ?_; rintro e w2 ⟨rfl, rfl⟩))
  refine cut_ret_none (blk := w.heap.size) HR.out ?cutX rfl rfl rfl ?cutB
  case cutX => repeat first | with_reducible apply Bx2.put0 | with_reducible apply Bx2.put1 | with_reducible exact X1.out
  case cutB => repeat first | with_reducible refine Below.setCell ?_ (by first | omega | (simp; done) | (simp; omega)) _ | with_reducible refine Below.alloc ?_ (by first | omega | (simp; done) | (simp; omega)) _ | with_reducible refine below_call ?_ (by assumption) (by first | omega | (simp; done) | (simp [World.setCell]; omega)) | with_reducible exact Below.refl _ _

set_option maxRecDepth 100000 in
set_option maxHeartbeats 2000000 in
theorem cut_2 (a n d o : List UInt8) (is neg : Bool) (w : World) (hs : a.length ≤ 1000000) (hm : MaxL w) (h1 : (Lib.cut a [47]).1 = n) (h2 : (Lib.cut a [47]).2.1 = d) (h3 : (Lib.cut a [47]).2.2 = is) (ho : own n = o) (hp : Lib.hasPrefix n [45] = neg) (hk : ¬ rdig o = 0) (hl : rdig o < o.length) : Calls Tryz.prog 54 #[.string (tx a)] w (CutPost w (cutR a)) := by
  have hol : o.length ≤ 1000000 := by have := own_len n; have := (cut_len a [47]).1; rw [h1] at this; rw [← ho]; omega
  have hdl : d.length ≤ 1000000 := by have := (cut_len a [47]).2; rw [h2] at this; omega
  have HR := Lib.hid (show cutR a = none by unfold cutR; simp only []; rw [h1, h2, h3, ho, hp]; rw [if_pos (.inl (by unfold good; simp [hk, hl]))])
  have k0 : ((rdig o : Int) == 0) = false := by rw [beq_eq_false_iff_ne]; omega
  have kt : decide (rdig o < o.length) = true := by rw [decide_eq_true_eq]; omega
  have HC1 := Lib.hid h1
  have HC2 := Lib.hid h2
  have HC3 := Lib.hid h3
  have HO := Lib.hid ho
  have HP := Lib.hid hp
  have HM := Lib.hid hm
  clear hm h1 h2 h3 ho hp hk
  go_enter Tryz.func54, Tryz.ntmps54
  go_wp2_with (first
    | (go_at_call 72; refine (scut_any a _ hs (HM.out.below ((Below.refl _ _).alloc (Nat.le_refl _) _) (Nat.le_refl _))).mono ?_; rintro e w1 ⟨rfl, hB1⟩; rw [HC1.out, HC2.out, HC3.out]; have X1 := Lib.hid ((Bx2.at_ rfl).below hB1 (by simp)); have c0 := X1.out.cell0; have c1 := X1.out.cell1; have f0 := X1.out.frozen 0; have f1 := X1.out.frozen 1; have l1 := X1.out.lt)
    | (go_at_call 73; refine (scutprefix_any _ _).mono ?_; rintro e w2 ⟨rfl, rfl⟩; rw [HO.out, HP.out])
    | (go_at_call 74; refine (rdigits_any _ _ (by first | assumption | decide)).mono ?_; rintro e w2 ⟨rfl, rfl⟩))
  refine cut_ret_none (blk := w.heap.size) HR.out ?cutX rfl rfl rfl ?cutB
  case cutX => repeat first | with_reducible apply Bx2.put0 | with_reducible apply Bx2.put1 | with_reducible exact X1.out
  case cutB => repeat first | with_reducible refine Below.setCell ?_ (by first | omega | (simp; done) | (simp; omega)) _ | with_reducible refine Below.alloc ?_ (by first | omega | (simp; done) | (simp; omega)) _ | with_reducible refine below_call ?_ (by assumption) (by first | omega | (simp; done) | (simp [World.setCell]; omega)) | with_reducible exact Below.refl _ _

set_option maxRecDepth 100000 in
set_option maxHeartbeats 2000000 in
theorem cut_3 (a n d o : List UInt8) (is neg : Bool) (w : World) (hs : a.length ≤ 1000000) (hm : MaxL w) (h1 : (Lib.cut a [47]).1 = n) (h2 : (Lib.cut a [47]).2.1 = d) (h3 : (Lib.cut a [47]).2.2 = is) (ho : own n = o) (hp : Lib.hasPrefix n [45] = neg) (hk : ¬ rdig o = 0) (hl : ¬ rdig o < o.length) (hneg : neg = true) (hz : o = [48]) : Calls Tryz.prog 54 #[.string (tx a)] w (CutPost w (cutR a)) := by
  have hol : o.length ≤ 1000000 := by have := own_len n; have := (cut_len a [47]).1; rw [h1] at this; rw [← ho]; omega
  have hdl : d.length ≤ 1000000 := by have := (cut_len a [47]).2; rw [h2] at this; omega
  have HR := Lib.hid (show cutR a = none by unfold cutR; simp only []; rw [h1, h2, h3, ho, hp]; rw [if_pos (.inr ⟨hneg, hz⟩)])
  subst hneg
  have k0 : ((rdig o : Int) == 0) = false := by rw [beq_eq_false_iff_ne]; omega
  have kt : decide (rdig o < o.length) = false := by rw [decide_eq_false_iff_not]; omega
  subst hz
  have HC1 := Lib.hid h1
  have HC2 := Lib.hid h2
  have HC3 := Lib.hid h3
  have HO := Lib.hid ho
  have HP := Lib.hid hp
  have HM := Lib.hid hm
  clear hm h1 h2 h3 ho hp hk
  go_enter Tryz.func54, Tryz.ntmps54
  go_wp2_with (first
    | (go_at_call 72; refine (scut_any a _ hs (HM.out.below ((Below.refl _ _).alloc (Nat.le_refl _) _) (Nat.le_refl _))).mono ?_; rintro e w1 ⟨rfl, hB1⟩; rw [HC1.out, HC2.out, HC3.out]; have X1 := Lib.hid ((Bx2.at_ rfl).below hB1 (by simp)); have c0 := X1.out.cell0; have c1 := X1.out.cell1; have f0 := X1.out.frozen 0; have f1 := X1.out.frozen 1; have l1 := X1.out.lt)
    | (go_at_call 73; refine (scutprefix_any _ _).mono ?_; rintro e w2 ⟨rfl, rfl⟩; rw [HO.out, HP.out])
    | (go_at_call 74; refine (rdigits_any _ _ (by first | assumption | decide)).mono ?_; rintro e w2 ⟨rfl, rfl⟩))
  refine cut_ret_none (blk := w.heap.size) HR.out ?cutX rfl rfl rfl ?cutB
  case cutX => repeat first | with_reducible apply Bx2.put0 | with_reducible apply Bx2.put1 | with_reducible exact X1.out
  case cutB => repeat first | with_reducible refine Below.setCell ?_ (by first | omega | (simp; done) | (simp; omega)) _ | with_reducible refine Below.alloc ?_ (by first | omega | (simp; done) | (simp; omega)) _ | with_reducible refine below_call ?_ (by assumption) (by first | omega | (simp; done) | (simp [World.setCell]; omega)) | with_reducible exact Below.refl _ _

set_option maxRecDepth 100000 in
set_option maxHeartbeats 2000000 in
theorem cut_4neg (a n d o : List UInt8) (is neg : Bool) (w : World) (hs : a.length ≤ 1000000) (hm : MaxL w) (h1 : (Lib.cut a [47]).1 = n) (h2 : (Lib.cut a [47]).2.1 = d) (h3 : (Lib.cut a [47]).2.2 = is) (ho : own n = o) (hp : Lib.hasPrefix n [45] = neg) (hk : ¬ rdig o = 0) (hl : ¬ rdig o < o.length) (hz : ¬ (neg = true ∧ o = [48])) (hneg : neg = true) (hi : is = false) : Calls Tryz.prog 54 #[.string (tx a)] w (CutPost w (cutR a)) := by
  have hol : o.length ≤ 1000000 := by have := own_len n; have := (cut_len a [47]).1; rw [h1] at this; rw [← ho]; omega
  have hdl : d.length ≤ 1000000 := by have := (cut_len a [47]).2; rw [h2] at this; omega
  have HR := Lib.hid (show cutR a = some (n, [49]) by unfold cutR; simp only []; rw [h1, h2, h3, ho, hp]; rw [if_neg (fun h => h.elim (fun h => by rw [good_true hk hl] at h; cases h) hz)]; rw [if_pos hi])
  subst hi
  have k0 : ((rdig o : Int) == 0) = false := by rw [beq_eq_false_iff_ne]; omega
  have kt : decide (rdig o < o.length) = false := by rw [decide_eq_false_iff_not]; omega
  have hz1 : (o == [48]) = false := by rw [beq_eq_false_iff_ne]; exact fun e => hz ⟨hneg, e⟩
  subst hneg
  have HC1 := Lib.hid h1
  have HC2 := Lib.hid h2
  have HC3 := Lib.hid h3
  have HO := Lib.hid ho
  have HP := Lib.hid hp
  have HM := Lib.hid hm
  clear hm h1 h2 h3 ho hp hk hz
  go_enter Tryz.func54, Tryz.ntmps54
  go_wp2_with (first
    | (go_at_call 72; refine (scut_any a _ hs (HM.out.below ((Below.refl _ _).alloc (Nat.le_refl _) _) (Nat.le_refl _))).mono ?_; rintro e w1 ⟨rfl, hB1⟩; rw [HC1.out, HC2.out, HC3.out]; have X1 := Lib.hid ((Bx2.at_ rfl).below hB1 (by simp)); have c0 := X1.out.cell0; have c1 := X1.out.cell1; have f0 := X1.out.frozen 0; have f1 := X1.out.frozen 1; have l1 := X1.out.lt)
    | (go_at_call 73; refine (scutprefix_any _ _).mono ?_; rintro e w2 ⟨rfl, rfl⟩; rw [HO.out, HP.out])
    | (go_at_call 74; refine (rdigits_any _ _ (by first | assumption | decide)).mono ?_; rintro e w2 ⟨rfl, rfl⟩))
  refine cut_ret_some (blk := w.heap.size) (n := n) (d := [49]) HR.out ?cutX rfl rfl rfl ?cutB
  case cutX => repeat first | with_reducible apply Bx2.put0 | with_reducible apply Bx2.put1 | with_reducible exact X1.out
  case cutB => repeat first | with_reducible refine Below.setCell ?_ (by first | omega | (simp; done) | (simp; omega)) _ | with_reducible refine Below.alloc ?_ (by first | omega | (simp; done) | (simp; omega)) _ | with_reducible refine below_call ?_ (by assumption) (by first | omega | (simp; done) | (simp [World.setCell]; omega)) | with_reducible exact Below.refl _ _

set_option maxRecDepth 100000 in
set_option maxHeartbeats 2000000 in
theorem cut_5neg (a n d o : List UInt8) (is neg : Bool) (w : World) (hs : a.length ≤ 1000000) (hm : MaxL w) (h1 : (Lib.cut a [47]).1 = n) (h2 : (Lib.cut a [47]).2.1 = d) (h3 : (Lib.cut a [47]).2.2 = is) (ho : own n = o) (hp : Lib.hasPrefix n [45] = neg) (hk : ¬ rdig o = 0) (hl : ¬ rdig o < o.length) (hz : ¬ (neg = true ∧ o = [48])) (hneg : neg = true) (hi : is = true) (hj : rdig d = 0) : Calls Tryz.prog 54 #[.string (tx a)] w (CutPost w (cutR a)) := by
  have hol : o.length ≤ 1000000 := by have := own_len n; have := (cut_len a [47]).1; rw [h1] at this; rw [← ho]; omega
  have hdl : d.length ≤ 1000000 := by have := (cut_len a [47]).2; rw [h2] at this; omega
  have hi' : ¬ is = false := by rw [hi]; decide
  have HR := Lib.hid (show cutR a = none by unfold cutR; simp only []; rw [h1, h2, h3, ho, hp]; rw [if_neg (fun h => h.elim (fun h => by rw [good_true hk hl] at h; cases h) hz)]; rw [if_neg hi']; rw [if_pos (.inl (by unfold good; simp [hj]))])
  subst hi
  have j0 : ((rdig d : Int) == 0) = true := by rw [beq_iff_eq]; omega
  have k0 : ((rdig o : Int) == 0) = false := by rw [beq_eq_false_iff_ne]; omega
  have kt : decide (rdig o < o.length) = false := by rw [decide_eq_false_iff_not]; omega
  have hz1 : (o == [48]) = false := by rw [beq_eq_false_iff_ne]; exact fun e => hz ⟨hneg, e⟩
  subst hneg
  have HC1 := Lib.hid h1
  have HC2 := Lib.hid h2
  have HC3 := Lib.hid h3
  have HO := Lib.hid ho
  have HP := Lib.hid hp
  have HM := Lib.hid hm
  clear hm h1 h2 h3 ho hp hk hz hj hi'
  go_enter Tryz.func54, Tryz.ntmps54
  go_wp2_with (first
    | (go_at_call 72; refine (scut_any a _ hs (HM.out.below ((Below.refl _ _).alloc (Nat.le_refl _) _) (Nat.le_refl _))).mono ?_; rintro e w1 ⟨rfl, hB1⟩; rw [HC1.out, HC2.out, HC3.out]; have X1 := Lib.hid ((Bx2.at_ rfl).below hB1 (by simp)); have c0 := X1.out.cell0; have c1 := X1.out.cell1; have f0 := X1.out.frozen 0; have f1 := X1.out.frozen 1; have l1 := X1.out.lt)
    | (go_at_call 73; refine (scutprefix_any _ _).mono ?_; rintro e w2 ⟨rfl, rfl⟩; rw [HO.out, HP.out])
    | (go_at_call 74; refine (rdigits_any _ _ (by first | assumption | decide)).mono ?_; rintro e w2 ⟨rfl, rfl⟩))
  refine cut_ret_none (blk := w.heap.size) HR.out ?cutX rfl rfl rfl ?cutB
  case cutX => repeat first | with_reducible apply Bx2.put0 | with_reducible apply Bx2.put1 | with_reducible exact X1.out
  case cutB => repeat first | with_reducible refine Below.setCell ?_ (by first | omega | (simp; done) | (simp; omega)) _ | with_reducible refine Below.alloc ?_ (by first | omega | (simp; done) | (simp; omega)) _ | with_reducible refine below_call ?_ (by assumption) (by first | omega | (simp; done) | (simp [World.setCell]; omega)) | with_reducible exact Below.refl _ _

set_option maxRecDepth 100000 in
set_option maxHeartbeats 2000000 in
theorem cut_6neg (a n d o : List UInt8) (is neg : Bool) (w : World) (hs : a.length ≤ 1000000) (hm : MaxL w) (h1 : (Lib.cut a [47]).1 = n) (h2 : (Lib.cut a [47]).2.1 = d) (h3 : (Lib.cut a [47]).2.2 = is) (ho : own n = o) (hp : Lib.hasPrefix n [45] = neg) (hk : ¬ rdig o = 0) (hl : ¬ rdig o < o.length) (hz : ¬ (neg = true ∧ o = [48])) (hneg : neg = true) (hi : is = true) (hj : ¬ rdig d = 0) (hm2 : rdig d < d.length) : Calls Tryz.prog 54 #[.string (tx a)] w (CutPost w (cutR a)) := by
  have hol : o.length ≤ 1000000 := by have := own_len n; have := (cut_len a [47]).1; rw [h1] at this; rw [← ho]; omega
  have hdl : d.length ≤ 1000000 := by have := (cut_len a [47]).2; rw [h2] at this; omega
  have hi' : ¬ is = false := by rw [hi]; decide
  have HR := Lib.hid (show cutR a = none by unfold cutR; simp only []; rw [h1, h2, h3, ho, hp]; rw [if_neg (fun h => h.elim (fun h => by rw [good_true hk hl] at h; cases h) hz)]; rw [if_neg hi']; rw [if_pos (.inl (by unfold good; simp [hj, hm2]))])
  subst hi
  have j0 : ((rdig d : Int) == 0) = false := by rw [beq_eq_false_iff_ne]; omega
  have jt : decide (rdig d < d.length) = true := by rw [decide_eq_true_eq]; omega
  have k0 : ((rdig o : Int) == 0) = false := by rw [beq_eq_false_iff_ne]; omega
  have kt : decide (rdig o < o.length) = false := by rw [decide_eq_false_iff_not]; omega
  have hz1 : (o == [48]) = false := by rw [beq_eq_false_iff_ne]; exact fun e => hz ⟨hneg, e⟩
  subst hneg
  have HC1 := Lib.hid h1
  have HC2 := Lib.hid h2
  have HC3 := Lib.hid h3
  have HO := Lib.hid ho
  have HP := Lib.hid hp
  have HM := Lib.hid hm
  clear hm h1 h2 h3 ho hp hk hz hj hi'
  go_enter Tryz.func54, Tryz.ntmps54
  go_wp2_with (first
    | (go_at_call 72; refine (scut_any a _ hs (HM.out.below ((Below.refl _ _).alloc (Nat.le_refl _) _) (Nat.le_refl _))).mono ?_; rintro e w1 ⟨rfl, hB1⟩; rw [HC1.out, HC2.out, HC3.out]; have X1 := Lib.hid ((Bx2.at_ rfl).below hB1 (by simp)); have c0 := X1.out.cell0; have c1 := X1.out.cell1; have f0 := X1.out.frozen 0; have f1 := X1.out.frozen 1; have l1 := X1.out.lt)
    | (go_at_call 73; refine (scutprefix_any _ _).mono ?_; rintro e w2 ⟨rfl, rfl⟩; rw [HO.out, HP.out])
    | (go_at_call 74; refine (rdigits_any _ _ (by first | assumption | decide)).mono ?_; rintro e w2 ⟨rfl, rfl⟩))
  refine cut_ret_none (blk := w.heap.size) HR.out ?cutX rfl rfl rfl ?cutB
  case cutX => repeat first | with_reducible apply Bx2.put0 | with_reducible apply Bx2.put1 | with_reducible exact X1.out
  case cutB => repeat first | with_reducible refine Below.setCell ?_ (by first | omega | (simp; done) | (simp; omega)) _ | with_reducible refine Below.alloc ?_ (by first | omega | (simp; done) | (simp; omega)) _ | with_reducible refine below_call ?_ (by assumption) (by first | omega | (simp; done) | (simp [World.setCell]; omega)) | with_reducible exact Below.refl _ _

set_option maxRecDepth 100000 in
set_option maxHeartbeats 2000000 in
theorem cut_7neg (a n d o : List UInt8) (is neg : Bool) (w : World) (hs : a.length ≤ 1000000) (hm : MaxL w) (h1 : (Lib.cut a [47]).1 = n) (h2 : (Lib.cut a [47]).2.1 = d) (h3 : (Lib.cut a [47]).2.2 = is) (ho : own n = o) (hp : Lib.hasPrefix n [45] = neg) (hk : ¬ rdig o = 0) (hl : ¬ rdig o < o.length) (hz : ¬ (neg = true ∧ o = [48])) (hneg : neg = true) (hi : is = true) (hj : ¬ rdig d = 0) (hm2 : ¬ rdig d < d.length) (h48 : d = [48]) : Calls Tryz.prog 54 #[.string (tx a)] w (CutPost w (cutR a)) := by
  have hol : o.length ≤ 1000000 := by have := own_len n; have := (cut_len a [47]).1; rw [h1] at this; rw [← ho]; omega
  have hdl : d.length ≤ 1000000 := by have := (cut_len a [47]).2; rw [h2] at this; omega
  have hi' : ¬ is = false := by rw [hi]; decide
  have HR := Lib.hid (show cutR a = none by unfold cutR; simp only []; rw [h1, h2, h3, ho, hp]; rw [if_neg (fun h => h.elim (fun h => by rw [good_true hk hl] at h; cases h) hz)]; rw [if_neg hi']; rw [if_pos (.inr (.inl h48))])
  subst hi
  have j0 : ((rdig d : Int) == 0) = false := by rw [beq_eq_false_iff_ne]; omega
  have jt : decide (rdig d < d.length) = false := by rw [decide_eq_false_iff_not]; omega
  have k0 : ((rdig o : Int) == 0) = false := by rw [beq_eq_false_iff_ne]; omega
  have kt : decide (rdig o < o.length) = false := by rw [decide_eq_false_iff_not]; omega
  have hz1 : (o == [48]) = false := by rw [beq_eq_false_iff_ne]; exact fun e => hz ⟨hneg, e⟩
  subst hneg
  subst h48
  have HC1 := Lib.hid h1
  have HC2 := Lib.hid h2
  have HC3 := Lib.hid h3
  have HO := Lib.hid ho
  have HP := Lib.hid hp
  have HM := Lib.hid hm
  clear hm h1 h2 h3 ho hp hk hz hj hi'
  go_enter Tryz.func54, Tryz.ntmps54
  go_wp2_with (first
    | (go_at_call 72; refine (scut_any a _ hs (HM.out.below ((Below.refl _ _).alloc (Nat.le_refl _) _) (Nat.le_refl _))).mono ?_; rintro e w1 ⟨rfl, hB1⟩; rw [HC1.out, HC2.out, HC3.out]; have X1 := Lib.hid ((Bx2.at_ rfl).below hB1 (by simp)); have c0 := X1.out.cell0; have c1 := X1.out.cell1; have f0 := X1.out.frozen 0; have f1 := X1.out.frozen 1; have l1 := X1.out.lt)
    | (go_at_call 73; refine (scutprefix_any _ _).mono ?_; rintro e w2 ⟨rfl, rfl⟩; rw [HO.out, HP.out])
    | (go_at_call 74; refine (rdigits_any _ _ (by first | assumption | decide)).mono ?_; rintro e w2 ⟨rfl, rfl⟩))
  refine cut_ret_none (blk := w.heap.size) HR.out ?cutX rfl rfl rfl ?cutB
  case cutX => repeat first | with_reducible apply Bx2.put0 | with_reducible apply Bx2.put1 | with_reducible exact X1.out
  case cutB => repeat first | with_reducible refine Below.setCell ?_ (by first | omega | (simp; done) | (simp; omega)) _ | with_reducible refine Below.alloc ?_ (by first | omega | (simp; done) | (simp; omega)) _ | with_reducible refine below_call ?_ (by assumption) (by first | omega | (simp; done) | (simp [World.setCell]; omega)) | with_reducible exact Below.refl _ _

set_option maxRecDepth 100000 in
set_option maxHeartbeats 2000000 in
theorem cut_8neg (a n d o : List UInt8) (is neg : Bool) (w : World) (hs : a.length ≤ 1000000) (hm : MaxL w) (h1 : (Lib.cut a [47]).1 = n) (h2 : (Lib.cut a [47]).2.1 = d) (h3 : (Lib.cut a [47]).2.2 = is) (ho : own n = o) (hp : Lib.hasPrefix n [45] = neg) (hk : ¬ rdig o = 0) (hl : ¬ rdig o < o.length) (hz : ¬ (neg = true ∧ o = [48])) (hneg : neg = true) (hi : is = true) (hj : ¬ rdig d = 0) (hm2 : ¬ rdig d < d.length) (h48 : ¬ d = [48]) (h49 : d = [49]) : Calls Tryz.prog 54 #[.string (tx a)] w (CutPost w (cutR a)) := by
  have hol : o.length ≤ 1000000 := by have := own_len n; have := (cut_len a [47]).1; rw [h1] at this; rw [← ho]; omega
  have hdl : d.length ≤ 1000000 := by have := (cut_len a [47]).2; rw [h2] at this; omega
  have hi' : ¬ is = false := by rw [hi]; decide
  have HR := Lib.hid (show cutR a = none by unfold cutR; simp only []; rw [h1, h2, h3, ho, hp]; rw [if_neg (fun h => h.elim (fun h => by rw [good_true hk hl] at h; cases h) hz)]; rw [if_neg hi']; rw [if_pos (.inr (.inr h49))])
  subst hi
  have j0 : ((rdig d : Int) == 0) = false := by rw [beq_eq_false_iff_ne]; omega
  have jt : decide (rdig d < d.length) = false := by rw [decide_eq_false_iff_not]; omega
  have k0 : ((rdig o : Int) == 0) = false := by rw [beq_eq_false_iff_ne]; omega
  have kt : decide (rdig o < o.length) = false := by rw [decide_eq_false_iff_not]; omega
  have hz1 : (o == [48]) = false := by rw [beq_eq_false_iff_ne]; exact fun e => hz ⟨hneg, e⟩
  subst hneg
  clear h48
  subst h49
  have HC1 := Lib.hid h1
  have HC2 := Lib.hid h2
  have HC3 := Lib.hid h3
  have HO := Lib.hid ho
  have HP := Lib.hid hp
  have HM := Lib.hid hm
  clear hm h1 h2 h3 ho hp hk hz hj hi'
  go_enter Tryz.func54, Tryz.ntmps54
  go_wp2_with (first
    | (go_at_call 72; refine (scut_any a _ hs (HM.out.below ((Below.refl _ _).alloc (Nat.le_refl _) _) (Nat.le_refl _))).mono ?_; rintro e w1 ⟨rfl, hB1⟩; rw [HC1.out, HC2.out, HC3.out]; have X1 := Lib.hid ((Bx2.at_ rfl).below hB1 (by simp)); have c0 := X1.out.cell0; have c1 := X1.out.cell1; have f0 := X1.out.frozen 0; have f1 := X1.out.frozen 1; have l1 := X1.out.lt)
    | (go_at_call 73; refine (scutprefix_any _ _).mono ?_; rintro e w2 ⟨rfl, rfl⟩; rw [HO.out, HP.out])
    | (go_at_call 74; refine (rdigits_any _ _ (by first | assumption | decide)).mono ?_; rintro e w2 ⟨rfl, rfl⟩))
  refine cut_ret_none (blk := w.heap.size) HR.out ?cutX rfl rfl rfl ?cutB
  case cutX => repeat first | with_reducible apply Bx2.put0 | with_reducible apply Bx2.put1 | with_reducible exact X1.out
  case cutB => repeat first | with_reducible refine Below.setCell ?_ (by first | omega | (simp; done) | (simp; omega)) _ | with_reducible refine Below.alloc ?_ (by first | omega | (simp; done) | (simp; omega)) _ | with_reducible refine below_call ?_ (by assumption) (by first | omega | (simp; done) | (simp [World.setCell]; omega)) | with_reducible exact Below.refl _ _

set_option maxRecDepth 100000 in
set_option maxHeartbeats 2000000 in
theorem cut_9neg (a n d o : List UInt8) (is neg : Bool) (w : World) (hs : a.length ≤ 1000000) (hm : MaxL w) (h1 : (Lib.cut a [47]).1 = n) (h2 : (Lib.cut a [47]).2.1 = d) (h3 : (Lib.cut a [47]).2.2 = is) (ho : own n = o) (hp : Lib.hasPrefix n [45] = neg) (hk : ¬ rdig o = 0) (hl : ¬ rdig o < o.length) (hz : ¬ (neg = true ∧ o = [48])) (hneg : neg = true) (hi : is = true) (hj : ¬ rdig d = 0) (hm2 : ¬ rdig d < d.length) (h48 : ¬ d = [48]) (h49 : ¬ d = [49]) : Calls Tryz.prog 54 #[.string (tx a)] w (CutPost w (cutR a)) := by
  have hol : o.length ≤ 1000000 := by have := own_len n; have := (cut_len a [47]).1; rw [h1] at this; rw [← ho]; omega
  have hdl : d.length ≤ 1000000 := by have := (cut_len a [47]).2; rw [h2] at this; omega
  have hi' : ¬ is = false := by rw [hi]; decide
  have HR := Lib.hid (show cutR a = some (n, d) by unfold cutR; simp only []; rw [h1, h2, h3, ho, hp]; rw [if_neg (fun h => h.elim (fun h => by rw [good_true hk hl] at h; cases h) hz)]; rw [if_neg hi']; rw [if_neg (fun h => h.elim (fun h => by rw [good_true hj hm2] at h; cases h) (fun h => h.elim h48 h49))])
  subst hi
  have j0 : ((rdig d : Int) == 0) = false := by rw [beq_eq_false_iff_ne]; omega
  have jt : decide (rdig d < d.length) = false := by rw [decide_eq_false_iff_not]; omega
  have k0 : ((rdig o : Int) == 0) = false := by rw [beq_eq_false_iff_ne]; omega
  have kt : decide (rdig o < o.length) = false := by rw [decide_eq_false_iff_not]; omega
  have hz1 : (o == [48]) = false := by rw [beq_eq_false_iff_ne]; exact fun e => hz ⟨hneg, e⟩
  subst hneg
  have h48b : (d == [48]) = false := by rw [beq_eq_false_iff_ne]; exact h48
  have h49b : (d == [49]) = false := by rw [beq_eq_false_iff_ne]; exact h49
  have HC1 := Lib.hid h1
  have HC2 := Lib.hid h2
  have HC3 := Lib.hid h3
  have HO := Lib.hid ho
  have HP := Lib.hid hp
  have HM := Lib.hid hm
  clear hm h1 h2 h3 ho hp hk hz hj hi'
  go_enter Tryz.func54, Tryz.ntmps54
  go_wp2_with (first
    | (go_at_call 72; refine (scut_any a _ hs (HM.out.below ((Below.refl _ _).alloc (Nat.le_refl _) _) (Nat.le_refl _))).mono ?_; rintro e w1 ⟨rfl, hB1⟩; rw [HC1.out, HC2.out, HC3.out]; have X1 := Lib.hid ((Bx2.at_ rfl).below hB1 (by simp)); have c0 := X1.out.cell0; have c1 := X1.out.cell1; have f0 := X1.out.frozen 0; have f1 := X1.out.frozen 1; have l1 := X1.out.lt)
    | (go_at_call 73; refine (scutprefix_any _ _).mono ?_; rintro e w2 ⟨rfl, rfl⟩; rw [HO.out, HP.out])
    | (go_at_call 74; refine (rdigits_any _ _ (by first | assumption | decide)).mono ?_; rintro e w2 ⟨rfl, rfl⟩))
  refine cut_ret_some (blk := w.heap.size) (n := n) (d := d) HR.out ?cutX rfl rfl rfl ?cutB
  case cutX => repeat first | with_reducible apply Bx2.put0 | with_reducible apply Bx2.put1 | with_reducible exact X1.out
  case cutB => repeat first | with_reducible refine Below.setCell ?_ (by first | omega | (simp; done) | (simp; omega)) _ | with_reducible refine Below.alloc ?_ (by first | omega | (simp; done) | (simp; omega)) _ | with_reducible refine below_call ?_ (by assumption) (by first | omega | (simp; done) | (simp [World.setCell]; omega)) | with_reducible exact Below.refl _ _

set_option maxRecDepth 100000 in
set_option maxHeartbeats 2000000 in
theorem cut_4pos (a n d o : List UInt8) (is neg : Bool) (w : World) (hs : a.length ≤ 1000000) (hm : MaxL w) (h1 : (Lib.cut a [47]).1 = n) (h2 : (Lib.cut a [47]).2.1 = d) (h3 : (Lib.cut a [47]).2.2 = is) (ho : own n = o) (hp : Lib.hasPrefix n [45] = neg) (hk : ¬ rdig o = 0) (hl : ¬ rdig o < o.length) (hz : ¬ (neg = true ∧ o = [48])) (hneg : neg = false) (hi : is = false) : Calls Tryz.prog 54 #[.string (tx a)] w (CutPost w (cutR a)) := by
  have hol : o.length ≤ 1000000 := by have := own_len n; have := (cut_len a [47]).1; rw [h1] at this; rw [← ho]; omega
  have hdl : d.length ≤ 1000000 := by have := (cut_len a [47]).2; rw [h2] at this; omega
  have HR := Lib.hid (show cutR a = some (n, [49]) by unfold cutR; simp only []; rw [h1, h2, h3, ho, hp]; rw [if_neg (fun h => h.elim (fun h => by rw [good_true hk hl] at h; cases h) hz)]; rw [if_pos hi])
  subst hi
  have k0 : ((rdig o : Int) == 0) = false := by rw [beq_eq_false_iff_ne]; omega
  have kt : decide (rdig o < o.length) = false := by rw [decide_eq_false_iff_not]; omega
  subst hneg
  have HC1 := Lib.hid h1
  have HC2 := Lib.hid h2
  have HC3 := Lib.hid h3
  have HO := Lib.hid ho
  have HP := Lib.hid hp
  have HM := Lib.hid hm
  clear hm h1 h2 h3 ho hp hk hz
  go_enter Tryz.func54, Tryz.ntmps54
  go_wp2_with (first
    | (go_at_call 72; refine (scut_any a _ hs (HM.out.below ((Below.refl _ _).alloc (Nat.le_refl _) _) (Nat.le_refl _))).mono ?_; rintro e w1 ⟨rfl, hB1⟩; rw [HC1.out, HC2.out, HC3.out]; have X1 := Lib.hid ((Bx2.at_ rfl).below hB1 (by simp)); have c0 := X1.out.cell0; have c1 := X1.out.cell1; have f0 := X1.out.frozen 0; have f1 := X1.out.frozen 1; have l1 := X1.out.lt)
    | (go_at_call 73; refine (scutprefix_any _ _).mono ?_; rintro e w2 ⟨rfl, rfl⟩; rw [HO.out, HP.out])
    | (go_at_call 74; refine (rdigits_any _ _ (by first | assumption | decide)).mono ?_; rintro e w2 ⟨rfl, rfl⟩))
  refine cut_ret_some (blk := w.heap.size) (n := n) (d := [49]) HR.out ?cutX rfl rfl rfl ?cutB
  case cutX => repeat first | with_reducible apply Bx2.put0 | with_reducible apply Bx2.put1 | with_reducible exact X1.out
  case cutB => repeat first | with_reducible refine Below.setCell ?_ (by first | omega | (simp; done) | (simp; omega)) _ | with_reducible refine Below.alloc ?_ (by first | omega | (simp; done) | (simp; omega)) _ | with_reducible refine below_call ?_ (by assumption) (by first | omega | (simp; done) | (simp [World.setCell]; omega)) | with_reducible exact Below.refl _ _

set_option maxRecDepth 100000 in
set_option maxHeartbeats 2000000 in
theorem cut_5pos (a n d o : List UInt8) (is neg : Bool) (w : World) (hs : a.length ≤ 1000000) (hm : MaxL w) (h1 : (Lib.cut a [47]).1 = n) (h2 : (Lib.cut a [47]).2.1 = d) (h3 : (Lib.cut a [47]).2.2 = is) (ho : own n = o) (hp : Lib.hasPrefix n [45] = neg) (hk : ¬ rdig o = 0) (hl : ¬ rdig o < o.length) (hz : ¬ (neg = true ∧ o = [48])) (hneg : neg = false) (hi : is = true) (hj : rdig d = 0) : Calls Tryz.prog 54 #[.string (tx a)] w (CutPost w (cutR a)) := by
  have hol : o.length ≤ 1000000 := by have := own_len n; have := (cut_len a [47]).1; rw [h1] at this; rw [← ho]; omega
  have hdl : d.length ≤ 1000000 := by have := (cut_len a [47]).2; rw [h2] at this; omega
  have hi' : ¬ is = false := by rw [hi]; decide
  have HR := Lib.hid (show cutR a = none by unfold cutR; simp only []; rw [h1, h2, h3, ho, hp]; rw [if_neg (fun h => h.elim (fun h => by rw [good_true hk hl] at h; cases h) hz)]; rw [if_neg hi']; rw [if_pos (.inl (by unfold good; simp [hj]))])
  subst hi
  have j0 : ((rdig d : Int) == 0) = true := by rw [beq_iff_eq]; omega
  have k0 : ((rdig o : Int) == 0) = false := by rw [beq_eq_false_iff_ne]; omega
  have kt : decide (rdig o < o.length) = false := by rw [decide_eq_false_iff_not]; omega
  subst hneg
  have HC1 := Lib.hid h1
  have HC2 := Lib.hid h2
  have HC3 := Lib.hid h3
  have HO := Lib.hid ho
  have HP := Lib.hid hp
  have HM := Lib.hid hm
  clear hm h1 h2 h3 ho hp hk hz hj hi'
  go_enter Tryz.func54, Tryz.ntmps54
  go_wp2_with (first
    | (go_at_call 72; refine (scut_any a _ hs (HM.out.below ((Below.refl _ _).alloc (Nat.le_refl _) _) (Nat.le_refl _))).mono ?_; rintro e w1 ⟨rfl, hB1⟩; rw [HC1.out, HC2.out, HC3.out]; have X1 := Lib.hid ((Bx2.at_ rfl).below hB1 (by simp)); have c0 := X1.out.cell0; have c1 := X1.out.cell1; have f0 := X1.out.frozen 0; have f1 := X1.out.frozen 1; have l1 := X1.out.lt)
    | (go_at_call 73; refine (scutprefix_any _ _).mono ?_; rintro e w2 ⟨rfl, rfl⟩; rw [HO.out, HP.out])
    | (go_at_call 74; refine (rdigits_any _ _ (by first | assumption | decide)).mono ?_; rintro e w2 ⟨rfl, rfl⟩))
  refine cut_ret_none (blk := w.heap.size) HR.out ?cutX rfl rfl rfl ?cutB
  case cutX => repeat first | with_reducible apply Bx2.put0 | with_reducible apply Bx2.put1 | with_reducible exact X1.out
  case cutB => repeat first | with_reducible refine Below.setCell ?_ (by first | omega | (simp; done) | (simp; omega)) _ | with_reducible refine Below.alloc ?_ (by first | omega | (simp; done) | (simp; omega)) _ | with_reducible refine below_call ?_ (by assumption) (by first | omega | (simp; done) | (simp [World.setCell]; omega)) | with_reducible exact Below.refl _ _

set_option maxRecDepth 100000 in
set_option maxHeartbeats 2000000 in
theorem cut_6pos (a n d o : List UInt8) (is neg : Bool) (w : World) (hs : a.length ≤ 1000000) (hm : MaxL w) (h1 : (Lib.cut a [47]).1 = n) (h2 : (Lib.cut a [47]).2.1 = d) (h3 : (Lib.cut a [47]).2.2 = is) (ho : own n = o) (hp : Lib.hasPrefix n [45] = neg) (hk : ¬ rdig o = 0) (hl : ¬ rdig o < o.length) (hz : ¬ (neg = true ∧ o = [48])) (hneg : neg = false) (hi : is = true) (hj : ¬ rdig d = 0) (hm2 : rdig d < d.length) : Calls Tryz.prog 54 #[.string (tx a)] w (CutPost w (cutR a)) := by
  have hol : o.length ≤ 1000000 := by have := own_len n; have := (cut_len a [47]).1; rw [h1] at this; rw [← ho]; omega
  have hdl : d.length ≤ 1000000 := by have := (cut_len a [47]).2; rw [h2] at this; omega
  have hi' : ¬ is = false := by rw [hi]; decide
  have HR := Lib.hid (show cutR a = none by unfold cutR; simp only []; rw [h1, h2, h3, ho, hp]; rw [if_neg (fun h => h.elim (fun h => by rw [good_true hk hl] at h; cases h) hz)]; rw [if_neg hi']; rw [if_pos (.inl (by unfold good; simp [hj, hm2]))])
  subst hi
  have j0 : ((rdig d : Int) == 0) = false := by rw [beq_eq_false_iff_ne]; omega
  have jt : decide (rdig d < d.length) = true := by rw [decide_eq_true_eq]; omega
  have k0 : ((rdig o : Int) == 0) = false := by rw [beq_eq_false_iff_ne]; omega
  have kt : decide (rdig o < o.length) = false := by rw [decide_eq_false_iff_not]; omega
  subst hneg
  have HC1 := Lib.hid h1
  have HC2 := Lib.hid h2
  have HC3 := Lib.hid h3
  have HO := Lib.hid ho
  have HP := Lib.hid hp
  have HM := Lib.hid hm
  clear hm h1 h2 h3 ho hp hk hz hj hi'
  go_enter Tryz.func54, Tryz.ntmps54
  go_wp2_with (first
    | (go_at_call 72; refine (scut_any a _ hs (HM.out.below ((Below.refl _ _).alloc (Nat.le_refl _) _) (Nat.le_refl _))).mono ?_; rintro e w1 ⟨rfl, hB1⟩; rw [HC1.out, HC2.out, HC3.out]; have X1 := Lib.hid ((Bx2.at_ rfl).below hB1 (by simp)); have c0 := X1.out.cell0; have c1 := X1.out.cell1; have f0 := X1.out.frozen 0; have f1 := X1.out.frozen 1; have l1 := X1.out.lt)
    | (go_at_call 73; refine (scutprefix_any _ _).mono ?_; rintro e w2 ⟨rfl, rfl⟩; rw [HO.out, HP.out])
    | (go_at_call 74; refine (rdigits_any _ _ (by first | assumption | decide)).mono ?_; rintro e w2 ⟨rfl, rfl⟩))
  refine cut_ret_none (blk := w.heap.size) HR.out ?cutX rfl rfl rfl ?cutB
  case cutX => repeat first | with_reducible apply Bx2.put0 | with_reducible apply Bx2.put1 | with_reducible exact X1.out
  case cutB => repeat first | with_reducible refine Below.setCell ?_ (by first | omega | (simp; done) | (simp; omega)) _ | with_reducible refine Below.alloc ?_ (by first | omega | (simp; done) | (simp; omega)) _ | with_reducible refine below_call ?_ (by assumption) (by first | omega | (simp; done) | (simp [World.setCell]; omega)) | with_reducible exact Below.refl _ _

set_option maxRecDepth 100000 in
set_option maxHeartbeats 2000000 in
theorem cut_7pos (a n d o : List UInt8) (is neg : Bool) (w : World) (hs : a.length ≤ 1000000) (hm : MaxL w) (h1 : (Lib.cut a [47]).1 = n) (h2 : (Lib.cut a [47]).2.1 = d) (h3 : (Lib.cut a [47]).2.2 = is) (ho : own n = o) (hp : Lib.hasPrefix n [45] = neg) (hk : ¬ rdig o = 0) (hl : ¬ rdig o < o.length) (hz : ¬ (neg = true ∧ o = [48])) (hneg : neg = false) (hi : is = true) (hj : ¬ rdig d = 0) (hm2 : ¬ rdig d < d.length) (h48 : d = [48]) : Calls Tryz.prog 54 #[.string (tx a)] w (CutPost w (cutR a)) := by
  have hol : o.length ≤ 1000000 := by have := own_len n; have := (cut_len a [47]).1; rw [h1] at this; rw [← ho]; omega
  have hdl : d.length ≤ 1000000 := by have := (cut_len a [47]).2; rw [h2] at this; omega
  have hi' : ¬ is = false := by rw [hi]; decide
  have HR := Lib.hid (show cutR a = none by unfold cutR; simp only []; rw [h1, h2, h3, ho, hp]; rw [if_neg (fun h => h.elim (fun h => by rw [good_true hk hl] at h; cases h) hz)]; rw [if_neg hi']; rw [if_pos (.inr (.inl h48))])
  subst hi
  have j0 : ((rdig d : Int) == 0) = false := by rw [beq_eq_false_iff_ne]; omega
  have jt : decide (rdig d < d.length) = false := by rw [decide_eq_false_iff_not]; omega
  have k0 : ((rdig o : Int) == 0) = false := by rw [beq_eq_false_iff_ne]; omega
  have kt : decide (rdig o < o.length) = false := by rw [decide_eq_false_iff_not]; omega
  subst hneg
  subst h48
  have HC1 := Lib.hid h1
  have HC2 := Lib.hid h2
  have HC3 := Lib.hid h3
  have HO := Lib.hid ho
  have HP := Lib.hid hp
  have HM := Lib.hid hm
  clear hm h1 h2 h3 ho hp hk hz hj hi'
  go_enter Tryz.func54, Tryz.ntmps54
  go_wp2_with (first
    | (go_at_call 72; refine (scut_any a _ hs (HM.out.below ((Below.refl _ _).alloc (Nat.le_refl _) _) (Nat.le_refl _))).mono ?_; rintro e w1 ⟨rfl, hB1⟩; rw [HC1.out, HC2.out, HC3.out]; have X1 := Lib.hid ((Bx2.at_ rfl).below hB1 (by simp)); have c0 := X1.out.cell0; have c1 := X1.out.cell1; have f0 := X1.out.frozen 0; have f1 := X1.out.frozen 1; have l1 := X1.out.lt)
    | (go_at_call 73; refine (scutprefix_any _ _).mono ?_; rintro e w2 ⟨rfl, rfl⟩; rw [HO.out, HP.out])
    | (go_at_call 74; refine (rdigits_any _ _ (by first | assumption | decide)).mono ?_; rintro e w2 ⟨rfl, rfl⟩))
  refine cut_ret_none (blk := w.heap.size) HR.out ?cutX rfl rfl rfl ?cutB
  case cutX => repeat first | with_reducible apply Bx2.put0 | with_reducible apply Bx2.put1 | with_reducible exact X1.out
  case cutB => repeat first | with_reducible refine Below.setCell ?_ (by first | omega | (simp; done) | (simp; omega)) _ | with_reducible refine Below.alloc ?_ (by first | omega | (simp; done) | (simp; omega)) _ | with_reducible refine below_call ?_ (by assumption) (by first | omega | (simp; done) | (simp [World.setCell]; omega)) | with_reducible exact Below.refl _ _

set_option maxRecDepth 100000 in
set_option maxHeartbeats 2000000 in
theorem cut_8pos (a n d o : List UInt8) (is neg : Bool) (w : World) (hs : a.length ≤ 1000000) (hm : MaxL w) (h1 : (Lib.cut a [47]).1 = n) (h2 : (Lib.cut a [47]).2.1 = d) (h3 : (Lib.cut a [47]).2.2 = is) (ho : own n = o) (hp : Lib.hasPrefix n [45] = neg) (hk : ¬ rdig o = 0) (hl : ¬ rdig o < o.length) (hz : ¬ (neg = true ∧ o = [48])) (hneg : neg = false) (hi : is = true) (hj : ¬ rdig d = 0) (hm2 : ¬ rdig d < d.length) (h48 : ¬ d = [48]) (h49 : d = [49]) : Calls Tryz.prog 54 #[.string (tx a)] w (CutPost w (cutR a)) := by
  have hol : o.length ≤ 1000000 := by have := own_len n; have := (cut_len a [47]).1; rw [h1] at this; rw [← ho]; omega
  have hdl : d.length ≤ 1000000 := by have := (cut_len a [47]).2; rw [h2] at this; omega
  have hi' : ¬ is = false := by rw [hi]; decide
  have HR := Lib.hid (show cutR a = none by unfold cutR; simp only []; rw [h1, h2, h3, ho, hp]; rw [if_neg (fun h => h.elim (fun h => by rw [good_true hk hl] at h; cases h) hz)]; rw [if_neg hi']; rw [if_pos (.inr (.inr h49))])
  subst hi
  have j0 : ((rdig d : Int) == 0) = false := by rw [beq_eq_false_iff_ne]; omega
  have jt : decide (rdig d < d.length) = false := by rw [decide_eq_false_iff_not]; omega
  have k0 : ((rdig o : Int) == 0) = false := by rw [beq_eq_false_iff_ne]; omega
  have kt : decide (rdig o < o.length) = false := by rw [decide_eq_false_iff_not]; omega
  subst hneg
  clear h48
  subst h49
  have HC1 := Lib.hid h1
  have HC2 := Lib.hid h2
  have HC3 := Lib.hid h3
  have HO := Lib.hid ho
  have HP := Lib.hid hp
  have HM := Lib.hid hm
  clear hm h1 h2 h3 ho hp hk hz hj hi'
  go_enter Tryz.func54, Tryz.ntmps54
  go_wp2_with (first
    | (go_at_call 72; refine (scut_any a _ hs (HM.out.below ((Below.refl _ _).alloc (Nat.le_refl _) _) (Nat.le_refl _))).mono ?_; rintro e w1 ⟨rfl, hB1⟩; rw [HC1.out, HC2.out, HC3.out]; have X1 := Lib.hid ((Bx2.at_ rfl).below hB1 (by simp)); have c0 := X1.out.cell0; have c1 := X1.out.cell1; have f0 := X1.out.frozen 0; have f1 := X1.out.frozen 1; have l1 := X1.out.lt)
    | (go_at_call 73; refine (scutprefix_any _ _).mono ?_; rintro e w2 ⟨rfl, rfl⟩; rw [HO.out, HP.out])
    | (go_at_call 74; refine (rdigits_any _ _ (by first | assumption | decide)).mono ?_; rintro e w2 ⟨rfl, rfl⟩))
  refine cut_ret_none (blk := w.heap.size) HR.out ?cutX rfl rfl rfl ?cutB
  case cutX => repeat first | with_reducible apply Bx2.put0 | with_reducible apply Bx2.put1 | with_reducible exact X1.out
  case cutB => repeat first | with_reducible refine Below.setCell ?_ (by first | omega | (simp; done) | (simp; omega)) _ | with_reducible refine Below.alloc ?_ (by first | omega | (simp; done) | (simp; omega)) _ | with_reducible refine below_call ?_ (by assumption) (by first | omega | (simp; done) | (simp [World.setCell]; omega)) | with_reducible exact Below.refl _ _

set_option maxRecDepth 100000 in
set_option maxHeartbeats 2000000 in
theorem cut_9pos (a n d o : List UInt8) (is neg : Bool) (w : World) (hs : a.length ≤ 1000000) (hm : MaxL w) (h1 : (Lib.cut a [47]).1 = n) (h2 : (Lib.cut a [47]).2.1 = d) (h3 : (Lib.cut a [47]).2.2 = is) (ho : own n = o) (hp : Lib.hasPrefix n [45] = neg) (hk : ¬ rdig o = 0) (hl : ¬ rdig o < o.length) (hz : ¬ (neg = true ∧ o = [48])) (hneg : neg = false) (hi : is = true) (hj : ¬ rdig d = 0) (hm2 : ¬ rdig d < d.length) (h48 : ¬ d = [48]) (h49 : ¬ d = [49]) : Calls Tryz.prog 54 #[.string (tx a)] w (CutPost w (cutR a)) := by
  have hol : o.length ≤ 1000000 := by have := own_len n; have := (cut_len a [47]).1; rw [h1] at this; rw [← ho]; omega
  have hdl : d.length ≤ 1000000 := by have := (cut_len a [47]).2; rw [h2] at this; omega
  have hi' : ¬ is = false := by rw [hi]; decide
  have HR := Lib.hid (show cutR a = some (n, d) by unfold cutR; simp only []; rw [h1, h2, h3, ho, hp]; rw [if_neg (fun h => h.elim (fun h => by rw [good_true hk hl] at h; cases h) hz)]; rw [if_neg hi']; rw [if_neg (fun h => h.elim (fun h => by rw [good_true hj hm2] at h; cases h) (fun h => h.elim h48 h49))])
  subst hi
  have j0 : ((rdig d : Int) == 0) = false := by rw [beq_eq_false_iff_ne]; omega
  have jt : decide (rdig d < d.length) = false := by rw [decide_eq_false_iff_not]; omega
  have k0 : ((rdig o : Int) == 0) = false := by rw [beq_eq_false_iff_ne]; omega
  have kt : decide (rdig o < o.length) = false := by rw [decide_eq_false_iff_not]; omega
  subst hneg
  have h48b : (d == [48]) = false := by rw [beq_eq_false_iff_ne]; exact h48
  have h49b : (d == [49]) = false := by rw [beq_eq_false_iff_ne]; exact h49
  have HC1 := Lib.hid h1
  have HC2 := Lib.hid h2
  have HC3 := Lib.hid h3
  have HO := Lib.hid ho
  have HP := Lib.hid hp
  have HM := Lib.hid hm
  clear hm h1 h2 h3 ho hp hk hz hj hi'
  go_enter Tryz.func54, Tryz.ntmps54
  go_wp2_with (first
    | (go_at_call 72; refine (scut_any a _ hs (HM.out.below ((Below.refl _ _).alloc (Nat.le_refl _) _) (Nat.le_refl _))).mono ?_; rintro e w1 ⟨rfl, hB1⟩; rw [HC1.out, HC2.out, HC3.out]; have X1 := Lib.hid ((Bx2.at_ rfl).below hB1 (by simp)); have c0 := X1.out.cell0; have c1 := X1.out.cell1; have f0 := X1.out.frozen 0; have f1 := X1.out.frozen 1; have l1 := X1.out.lt)
    | (go_at_call 73; refine (scutprefix_any _ _).mono ?_; rintro e w2 ⟨rfl, rfl⟩; rw [HO.out, HP.out])
    | (go_at_call 74; refine (rdigits_any _ _ (by first | assumption | decide)).mono ?_; rintro e w2 ⟨rfl, rfl⟩))
  refine cut_ret_some (blk := w.heap.size) (n := n) (d := d) HR.out ?cutX rfl rfl rfl ?cutB
  case cutX => repeat first | with_reducible apply Bx2.put0 | with_reducible apply Bx2.put1 | with_reducible exact X1.out
  case cutB => repeat first | with_reducible refine Below.setCell ?_ (by first | omega | (simp; done) | (simp; omega)) _ | with_reducible refine Below.alloc ?_ (by first | omega | (simp; done) | (simp; omega)) _ | with_reducible refine below_call ?_ (by assumption) (by first | omega | (simp; done) | (simp [World.setCell]; omega)) | with_reducible exact Below.refl _ _

theorem rcut_any (a : List UInt8) (w : World) (hs : a.length ≤ 1000000) (hm : MaxL w) : Calls Tryz.prog 54 #[.string (tx a)] w (CutPost w (cutR a)) := by
  obtain ⟨n, h1⟩ : ∃ n, (Lib.cut a [47]).1 = n := ⟨_, rfl⟩
  obtain ⟨d, h2⟩ : ∃ d, (Lib.cut a [47]).2.1 = d := ⟨_, rfl⟩
  obtain ⟨is, h3⟩ : ∃ is, (Lib.cut a [47]).2.2 = is := ⟨_, rfl⟩
  obtain ⟨o, ho⟩ : ∃ o, own n = o := ⟨_, rfl⟩
  obtain ⟨neg, hp⟩ : ∃ neg, Lib.hasPrefix n [45] = neg := ⟨_, rfl⟩
  by_cases hk : rdig o = 0
  · exact cut_1 a n d o is neg w hs hm h1 h2 h3 ho hp hk
  by_cases hl : rdig o < o.length
  · exact cut_2 a n d o is neg w hs hm h1 h2 h3 ho hp hk hl
  by_cases hz : neg = true ∧ o = [48]
  · exact cut_3 a n d o is neg w hs hm h1 h2 h3 ho hp hk hl hz.1 hz.2
  cases hneg : neg with
  | true =>
    cases hi : is with
    | false => exact cut_4neg a n d o is neg w hs hm h1 h2 h3 ho hp hk hl hz hneg hi
    | true =>
      by_cases hj : rdig d = 0
      · exact cut_5neg a n d o is neg w hs hm h1 h2 h3 ho hp hk hl hz hneg hi hj
      by_cases hm2 : rdig d < d.length
      · exact cut_6neg a n d o is neg w hs hm h1 h2 h3 ho hp hk hl hz hneg hi hj hm2
      by_cases h48 : d = [48]
      · exact cut_7neg a n d o is neg w hs hm h1 h2 h3 ho hp hk hl hz hneg hi hj hm2 h48
      by_cases h49 : d = [49]
      · exact cut_8neg a n d o is neg w hs hm h1 h2 h3 ho hp hk hl hz hneg hi hj hm2 h48 h49
      · exact cut_9neg a n d o is neg w hs hm h1 h2 h3 ho hp hk hl hz hneg hi hj hm2 h48 h49
  | false =>
    cases hi : is with
    | false => exact cut_4pos a n d o is neg w hs hm h1 h2 h3 ho hp hk hl hz hneg hi
    | true =>
      by_cases hj : rdig d = 0
      · exact cut_5pos a n d o is neg w hs hm h1 h2 h3 ho hp hk hl hz hneg hi hj
      by_cases hm2 : rdig d < d.length
      · exact cut_6pos a n d o is neg w hs hm h1 h2 h3 ho hp hk hl hz hneg hi hj hm2
      by_cases h48 : d = [48]
      · exact cut_7pos a n d o is neg w hs hm h1 h2 h3 ho hp hk hl hz hneg hi hj hm2 h48
      by_cases h49 : d = [49]
      · exact cut_8pos a n d o is neg w hs hm h1 h2 h3 ho hp hk hl hz hneg hi hj hm2 h48 h49
      · exact cut_9pos a n d o is neg w hs hm h1 h2 h3 ho hp hk hl hz hneg hi hj hm2 h48 h49
end Go.Proofs.YtbnnccnicfddlaaGreatDoor
