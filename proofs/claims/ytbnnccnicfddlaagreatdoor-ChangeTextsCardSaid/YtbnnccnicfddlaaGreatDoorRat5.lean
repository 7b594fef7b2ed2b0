/- rational.read, Check: the walks. -/
import Derived.Test.YtbnnccnicfddlaaGreatDoorRat4
import Derived.Test.YtbnnccnicfddlaaGreatDoorChgA
set_option linter.unusedSimpArgs false
set_option linter.unusedVariables false
namespace Go.Proofs.YtbnnccnicfddlaaGreatDoor
open Go.RowKit Go.Shelf Kp

/-- rational.Check -/
noncomputable def chkR (a : List UInt8) : Int := match cutR a with
  | none => 11
  | some (n, d) =>
    if natOk a = true then 0
    else if 300 < (own n).length ∨ 300 < d.length then 4
    else if d = [49] then 0
    else if ¬ (gcdT n d).2 = 0 ∨ ¬ (gcdT n d).1 = [49] then 11
    else 0
def RrPost (w : World) (a : List UInt8) (e : Ending) (w' : World) : Prop := ∃ x y : ByteArray, e = .returned (.tuple #[.agg #[.string x, .string y], .int .i64 (chkR a)]) ∧ Below w.heap.size w w'
theorem rr_ret {w W : World} {a : Act} {s : List UInt8} {blk : Nat} {x y : ByteArray} {c : Int} (hr : chkR s = c) (hX : Bx2 W blk 104 (.string x) (.string y))
    (h2 : a.tmps[2]? = some (.pointer (some ⟨blk, 0, none⟩))) (h3 : a.tmps[3]? = some (.int .i64 c)) (hd : a.defers = []) (hB : Below w.heap.size w W) :
    bodyPost Tryz.prog Tryz.f45 (RrPost w s) .ret a W := by
  have c0 := hX.cell0
  have c1 := hX.cell1
  refine bodyPost_ret (v := .tuple #[.agg #[.string x, .string y], .int .i64 c]) ?_ hd ⟨x, y, by rw [hr], hB⟩
  simp [results, Tryz.results45, go_sem, h2, h3, c0, c1]
theorem cutR_len {a n d : List UInt8} (h : cutR a = some (n, d)) : n.length ≤ a.length ∧ d.length ≤ a.length + 1 := by
  have hl := cut_len a [47]
  unfold cutR at h
  simp only [] at h
  split at h
  · cases h
  split at h
  · simp only [Option.some.injEq, Prod.mk.injEq] at h
    rw [← h.1, ← h.2]; exact ⟨hl.1, by simp⟩
  split at h
  · cases h
  · simp only [Option.some.injEq, Prod.mk.injEq] at h
    rw [← h.1, ← h.2]; exact ⟨hl.1, by omega⟩

set_option maxRecDepth 100000 in
set_option maxHeartbeats 2000000 in
theorem rr_1 (a : List UInt8) (w : World) (hs : a.length ≤ 300000) (hm : MaxL w) (ht : Pow10 w) (hc : cutR a = none) : Calls Tryz.prog 45 #[.string (tx a)] w (RrPost w a) := by
  replace hs : a.length ≤ 1000000 := by omega
  have HR := Lib.hid (show chkR a = 11 by unfold chkR; rw [hc])
  have HM := Lib.hid hm
  have HT := Lib.hid ht
  have HC := Lib.hid hc
  clear hm ht hc 
  go_enter Tryz.func45, Tryz.ntmps45
  go_wp2_with (first
    | (go_at_call 54; refine (rcut_any a _ hs (HM.out.below ((Below.refl _ _).alloc (Nat.le_refl _) _) (Nat.le_refl _))).mono ?_; rw [HC.out]; rintro e w1 ⟨rfl, hB1⟩; have X1 := Lib.hid ((Bx2.at_ rfl).below hB1 (by simp)); have c0 := X1.out.cell0; have c1 := X1.out.cell1; have f0 := X1.out.frozen 0; have f1 := X1.out.frozen 1; have l1 := X1.out.lt)
    | (go_at_call 55; refine (rnativeof_any a _ hs).mono ?_; rintro e w2 ⟨nx, ny, rfl, hB2⟩; rw [HN.out]; have X2 := Lib.hid ((X1.out.alloc _).below hB2 (by simp; omega)); have Y2 := Lib.hid ((Bx2.at_ rfl).below hB2 (by simp)); have d0 := X2.out.cell0; have d1 := X2.out.cell1; have g0 := X2.out.frozen 0; have g1 := X2.out.frozen 1; have e0 := Y2.out.cell0; have e1 := Y2.out.cell1; have l2 := Y2.out.lt; have l3 := X2.out.lt)
    | (go_at_call 56; refine (trimPrefix_own _ _).mono ?_; rintro e w5 ⟨rfl, rfl⟩; rw [HO.out])
    | (go_at_call 57; refine (gcd_any _ _ _ (by assumption) (by assumption) (HT.out.below (B0 := w.heap.size) (by repeat first | with_reducible refine Below.setCell ?_ (by first | omega | (simp; done) | (simp; omega)) _ | with_reducible refine Below.alloc ?_ (by first | omega | (simp; done) | (simp; omega)) _ | with_reducible refine below_call ?_ (by assumption) (by first | omega | (simp; done) | (simp [World.setCell]; omega)) | with_reducible exact Below.refl _ _) (Nat.le_refl _))).mono ?_; rw [HG.out]; rintro e w3 ⟨rfl, hB3⟩; have X3 := Lib.hid ((X2.out.alloc _).below hB3 (by simp; omega)); have Y3 := Lib.hid ((Y2.out.alloc _).below hB3 (by simp; omega)); have m0 := X3.out.cell0; have m1 := X3.out.cell1; have n0 := X3.out.frozen 0; have n1 := X3.out.frozen 1; have o0 := Y3.out.cell0; have o1 := Y3.out.cell1))
  refine rr_ret (blk := w.heap.size) (x := ⟨#[]⟩) (y := ⟨#[]⟩) HR.out ?rrX rfl rfl rfl ?rrB
  case rrX => repeat first | with_reducible apply Bx2.put0 | with_reducible apply Bx2.put1 | with_reducible apply Bx2.far | with_reducible apply Bx2.alloc | with_reducible exact X3.out | with_reducible exact X2.out | with_reducible exact X1.out | omega | (simp; done) | (simp; omega)
  case rrB => repeat first | with_reducible refine Below.setCell ?_ (by first | omega | (simp; done) | (simp; omega)) _ | with_reducible refine Below.alloc ?_ (by first | omega | (simp; done) | (simp; omega)) _ | with_reducible refine below_call ?_ (by assumption) (by first | omega | (simp; done) | (simp [World.setCell]; omega)) | with_reducible exact Below.refl _ _

set_option maxRecDepth 100000 in
set_option maxHeartbeats 2000000 in
theorem rr_2 (a : List UInt8) (w : World) (hs : a.length ≤ 300000) (hm : MaxL w) (ht : Pow10 w) (n d : List UInt8) (hc : cutR a = some (n, d)) (hn : natOk a = true) : Calls Tryz.prog 45 #[.string (tx a)] w (RrPost w a) := by
  have hl := cutR_len hc
  have hnl : n.length ≤ 1000000 := by omega
  have hdl : d.length ≤ 1000000 := by omega
  replace hs : a.length ≤ 1000000 := by omega
  have HR := Lib.hid (show chkR a = 0 by unfold chkR; rw [hc]; simp only []; rw [if_pos hn])
  have HN := Lib.hid hn
  have HM := Lib.hid hm
  have HT := Lib.hid ht
  have HC := Lib.hid hc
  clear hm ht hc hl hn
  go_enter Tryz.func45, Tryz.ntmps45
  go_wp2_with (first
    | (go_at_call 54; refine (rcut_any a _ hs (HM.out.below ((Below.refl _ _).alloc (Nat.le_refl _) _) (Nat.le_refl _))).mono ?_; rw [HC.out]; rintro e w1 ⟨rfl, hB1⟩; have X1 := Lib.hid ((Bx2.at_ rfl).below hB1 (by simp)); have c0 := X1.out.cell0; have c1 := X1.out.cell1; have f0 := X1.out.frozen 0; have f1 := X1.out.frozen 1; have l1 := X1.out.lt)
    | (go_at_call 55; refine (rnativeof_any a _ hs).mono ?_; rintro e w2 ⟨nx, ny, rfl, hB2⟩; rw [HN.out]; have X2 := Lib.hid ((X1.out.alloc _).below hB2 (by simp; omega)); have Y2 := Lib.hid ((Bx2.at_ rfl).below hB2 (by simp)); have d0 := X2.out.cell0; have d1 := X2.out.cell1; have g0 := X2.out.frozen 0; have g1 := X2.out.frozen 1; have e0 := Y2.out.cell0; have e1 := Y2.out.cell1; have l2 := Y2.out.lt; have l3 := X2.out.lt)
    | (go_at_call 56; refine (trimPrefix_own _ _).mono ?_; rintro e w5 ⟨rfl, rfl⟩; rw [HO.out])
    | (go_at_call 57; refine (gcd_any _ _ _ (by assumption) (by assumption) (HT.out.below (B0 := w.heap.size) (by repeat first | with_reducible refine Below.setCell ?_ (by first | omega | (simp; done) | (simp; omega)) _ | with_reducible refine Below.alloc ?_ (by first | omega | (simp; done) | (simp; omega)) _ | with_reducible refine below_call ?_ (by assumption) (by first | omega | (simp; done) | (simp [World.setCell]; omega)) | with_reducible exact Below.refl _ _) (Nat.le_refl _))).mono ?_; rw [HG.out]; rintro e w3 ⟨rfl, hB3⟩; have X3 := Lib.hid ((X2.out.alloc _).below hB3 (by simp; omega)); have Y3 := Lib.hid ((Y2.out.alloc _).below hB3 (by simp; omega)); have m0 := X3.out.cell0; have m1 := X3.out.cell1; have n0 := X3.out.frozen 0; have n1 := X3.out.frozen 1; have o0 := Y3.out.cell0; have o1 := Y3.out.cell1))
  refine rr_ret (blk := w.heap.size) (x := (tx n)) (y := (tx d)) HR.out ?rrX rfl rfl rfl ?rrB
  case rrX => repeat first | with_reducible apply Bx2.put0 | with_reducible apply Bx2.put1 | with_reducible apply Bx2.far | with_reducible apply Bx2.alloc | with_reducible exact X3.out | with_reducible exact X2.out | with_reducible exact X1.out | omega | (simp; done) | (simp; omega)
  case rrB => repeat first | with_reducible refine Below.setCell ?_ (by first | omega | (simp; done) | (simp; omega)) _ | with_reducible refine Below.alloc ?_ (by first | omega | (simp; done) | (simp; omega)) _ | with_reducible refine below_call ?_ (by assumption) (by first | omega | (simp; done) | (simp [World.setCell]; omega)) | with_reducible exact Below.refl _ _

set_option maxRecDepth 100000 in
set_option maxHeartbeats 2000000 in
theorem rr_3 (a : List UInt8) (w : World) (hs : a.length ≤ 300000) (hm : MaxL w) (ht : Pow10 w) (n d : List UInt8) (hc : cutR a = some (n, d)) (hn : ¬ natOk a = true) (o : List UInt8) (ho : own n = o) (h3 : 300 < o.length) : Calls Tryz.prog 45 #[.string (tx a)] w (RrPost w a) := by
  have hl := cutR_len hc
  have hnl : n.length ≤ 1000000 := by omega
  have hdl : d.length ≤ 1000000 := by omega
  replace hs : a.length ≤ 1000000 := by omega
  have HR := Lib.hid (show chkR a = 4 by unfold chkR; rw [hc]; simp only []; rw [if_neg hn]; rw [ho, if_pos (.inl h3)])
  have HN := Lib.hid (show natOk a = false by simpa using hn)
  have HO := Lib.hid ho
  have HM := Lib.hid hm
  have HT := Lib.hid ht
  have HC := Lib.hid hc
  clear hm ht hc hl hn ho
  go_enter Tryz.func45, Tryz.ntmps45
  go_wp2_with (first
    | (go_at_call 54; refine (rcut_any a _ hs (HM.out.below ((Below.refl _ _).alloc (Nat.le_refl _) _) (Nat.le_refl _))).mono ?_; rw [HC.out]; rintro e w1 ⟨rfl, hB1⟩; have X1 := Lib.hid ((Bx2.at_ rfl).below hB1 (by simp)); have c0 := X1.out.cell0; have c1 := X1.out.cell1; have f0 := X1.out.frozen 0; have f1 := X1.out.frozen 1; have l1 := X1.out.lt)
    | (go_at_call 55; refine (rnativeof_any a _ hs).mono ?_; rintro e w2 ⟨nx, ny, rfl, hB2⟩; rw [HN.out]; have X2 := Lib.hid ((X1.out.alloc _).below hB2 (by simp; omega)); have Y2 := Lib.hid ((Bx2.at_ rfl).below hB2 (by simp)); have d0 := X2.out.cell0; have d1 := X2.out.cell1; have g0 := X2.out.frozen 0; have g1 := X2.out.frozen 1; have e0 := Y2.out.cell0; have e1 := Y2.out.cell1; have l2 := Y2.out.lt; have l3 := X2.out.lt)
    | (go_at_call 56; refine (trimPrefix_own _ _).mono ?_; rintro e w5 ⟨rfl, rfl⟩; rw [HO.out])
    | (go_at_call 57; refine (gcd_any _ _ _ (by assumption) (by assumption) (HT.out.below (B0 := w.heap.size) (by repeat first | with_reducible refine Below.setCell ?_ (by first | omega | (simp; done) | (simp; omega)) _ | with_reducible refine Below.alloc ?_ (by first | omega | (simp; done) | (simp; omega)) _ | with_reducible refine below_call ?_ (by assumption) (by first | omega | (simp; done) | (simp [World.setCell]; omega)) | with_reducible exact Below.refl _ _) (Nat.le_refl _))).mono ?_; rw [HG.out]; rintro e w3 ⟨rfl, hB3⟩; have X3 := Lib.hid ((X2.out.alloc _).below hB3 (by simp; omega)); have Y3 := Lib.hid ((Y2.out.alloc _).below hB3 (by simp; omega)); have m0 := X3.out.cell0; have m1 := X3.out.cell1; have n0 := X3.out.frozen 0; have n1 := X3.out.frozen 1; have o0 := Y3.out.cell0; have o1 := Y3.out.cell1))
  refine rr_ret (blk := w.heap.size) (x := ⟨#[]⟩) (y := ⟨#[]⟩) HR.out ?rrX rfl rfl rfl ?rrB
  case rrX => repeat first | with_reducible apply Bx2.put0 | with_reducible apply Bx2.put1 | with_reducible apply Bx2.far | with_reducible apply Bx2.alloc | with_reducible exact X3.out | with_reducible exact X2.out | with_reducible exact X1.out | omega | (simp; done) | (simp; omega)
  case rrB => repeat first | with_reducible refine Below.setCell ?_ (by first | omega | (simp; done) | (simp; omega)) _ | with_reducible refine Below.alloc ?_ (by first | omega | (simp; done) | (simp; omega)) _ | with_reducible refine below_call ?_ (by assumption) (by first | omega | (simp; done) | (simp [World.setCell]; omega)) | with_reducible exact Below.refl _ _

set_option maxRecDepth 100000 in
set_option maxHeartbeats 2000000 in
theorem rr_4 (a : List UInt8) (w : World) (hs : a.length ≤ 300000) (hm : MaxL w) (ht : Pow10 w) (n d : List UInt8) (hc : cutR a = some (n, d)) (hn : ¬ natOk a = true) (o : List UInt8) (ho : own n = o) (h3 : ¬ 300 < o.length) (h4 : 300 < d.length) : Calls Tryz.prog 45 #[.string (tx a)] w (RrPost w a) := by
  have hl := cutR_len hc
  have hnl : n.length ≤ 1000000 := by omega
  have hdl : d.length ≤ 1000000 := by omega
  replace hs : a.length ≤ 1000000 := by omega
  have HR := Lib.hid (show chkR a = 4 by unfold chkR; rw [hc]; simp only []; rw [if_neg hn]; rw [ho, if_pos (.inr h4)])
  have HN := Lib.hid (show natOk a = false by simpa using hn)
  have HO := Lib.hid ho
  have HM := Lib.hid hm
  have HT := Lib.hid ht
  have HC := Lib.hid hc
  clear hm ht hc hl hn ho
  go_enter Tryz.func45, Tryz.ntmps45
  go_wp2_with (first
    | (go_at_call 54; refine (rcut_any a _ hs (HM.out.below ((Below.refl _ _).alloc (Nat.le_refl _) _) (Nat.le_refl _))).mono ?_; rw [HC.out]; rintro e w1 ⟨rfl, hB1⟩; have X1 := Lib.hid ((Bx2.at_ rfl).below hB1 (by simp)); have c0 := X1.out.cell0; have c1 := X1.out.cell1; have f0 := X1.out.frozen 0; have f1 := X1.out.frozen 1; have l1 := X1.out.lt)
    | (go_at_call 55; refine (rnativeof_any a _ hs).mono ?_; rintro e w2 ⟨nx, ny, rfl, hB2⟩; rw [HN.out]; have X2 := Lib.hid ((X1.out.alloc _).below hB2 (by simp; omega)); have Y2 := Lib.hid ((Bx2.at_ rfl).below hB2 (by simp)); have d0 := X2.out.cell0; have d1 := X2.out.cell1; have g0 := X2.out.frozen 0; have g1 := X2.out.frozen 1; have e0 := Y2.out.cell0; have e1 := Y2.out.cell1; have l2 := Y2.out.lt; have l3 := X2.out.lt)
    | (go_at_call 56; refine (trimPrefix_own _ _).mono ?_; rintro e w5 ⟨rfl, rfl⟩; rw [HO.out])
    | (go_at_call 57; refine (gcd_any _ _ _ (by assumption) (by assumption) (HT.out.below (B0 := w.heap.size) (by repeat first | with_reducible refine Below.setCell ?_ (by first | omega | (simp; done) | (simp; omega)) _ | with_reducible refine Below.alloc ?_ (by first | omega | (simp; done) | (simp; omega)) _ | with_reducible refine below_call ?_ (by assumption) (by first | omega | (simp; done) | (simp [World.setCell]; omega)) | with_reducible exact Below.refl _ _) (Nat.le_refl _))).mono ?_; rw [HG.out]; rintro e w3 ⟨rfl, hB3⟩; have X3 := Lib.hid ((X2.out.alloc _).below hB3 (by simp; omega)); have Y3 := Lib.hid ((Y2.out.alloc _).below hB3 (by simp; omega)); have m0 := X3.out.cell0; have m1 := X3.out.cell1; have n0 := X3.out.frozen 0; have n1 := X3.out.frozen 1; have o0 := Y3.out.cell0; have o1 := Y3.out.cell1))
  refine rr_ret (blk := w.heap.size) (x := ⟨#[]⟩) (y := ⟨#[]⟩) HR.out ?rrX rfl rfl rfl ?rrB
  case rrX => repeat first | with_reducible apply Bx2.put0 | with_reducible apply Bx2.put1 | with_reducible apply Bx2.far | with_reducible apply Bx2.alloc | with_reducible exact X3.out | with_reducible exact X2.out | with_reducible exact X1.out | omega | (simp; done) | (simp; omega)
  case rrB => repeat first | with_reducible refine Below.setCell ?_ (by first | omega | (simp; done) | (simp; omega)) _ | with_reducible refine Below.alloc ?_ (by first | omega | (simp; done) | (simp; omega)) _ | with_reducible refine below_call ?_ (by assumption) (by first | omega | (simp; done) | (simp [World.setCell]; omega)) | with_reducible exact Below.refl _ _

set_option maxRecDepth 100000 in
set_option maxHeartbeats 2000000 in
theorem rr_5 (a : List UInt8) (w : World) (hs : a.length ≤ 300000) (hm : MaxL w) (ht : Pow10 w) (n d : List UInt8) (hc : cutR a = some (n, d)) (hn : ¬ natOk a = true) (o : List UInt8) (ho : own n = o) (h3 : ¬ 300 < o.length) (h4 : ¬ 300 < d.length) (h5 : d = [49]) : Calls Tryz.prog 45 #[.string (tx a)] w (RrPost w a) := by
  have hl := cutR_len hc
  have hnl : n.length ≤ 1000000 := by omega
  have hdl : d.length ≤ 1000000 := by omega
  replace hs : a.length ≤ 1000000 := by omega
  have HR := Lib.hid (show chkR a = 0 by unfold chkR; rw [hc]; simp only []; rw [if_neg hn]; rw [ho, if_neg (fun h => h.elim h3 h4)]; rw [if_pos h5])
  have HN := Lib.hid (show natOk a = false by simpa using hn)
  have HO := Lib.hid ho
  subst h5
  have HM := Lib.hid hm
  have HT := Lib.hid ht
  have HC := Lib.hid hc
  clear hm ht hc hl hn ho
  go_enter Tryz.func45, Tryz.ntmps45
  go_wp2_with (first
    | (go_at_call 54; refine (rcut_any a _ hs (HM.out.below ((Below.refl _ _).alloc (Nat.le_refl _) _) (Nat.le_refl _))).mono ?_; rw [HC.out]; rintro e w1 ⟨rfl, hB1⟩; have X1 := Lib.hid ((Bx2.at_ rfl).below hB1 (by simp)); have c0 := X1.out.cell0; have c1 := X1.out.cell1; have f0 := X1.out.frozen 0; have f1 := X1.out.frozen 1; have l1 := X1.out.lt)
    | (go_at_call 55; refine (rnativeof_any a _ hs).mono ?_; rintro e w2 ⟨nx, ny, rfl, hB2⟩; rw [HN.out]; have X2 := Lib.hid ((X1.out.alloc _).below hB2 (by simp; omega)); have Y2 := Lib.hid ((Bx2.at_ rfl).below hB2 (by simp)); have d0 := X2.out.cell0; have d1 := X2.out.cell1; have g0 := X2.out.frozen 0; have g1 := X2.out.frozen 1; have e0 := Y2.out.cell0; have e1 := Y2.out.cell1; have l2 := Y2.out.lt; have l3 := X2.out.lt)
    | (go_at_call 56; refine (trimPrefix_own _ _).mono ?_; rintro e w5 ⟨rfl, rfl⟩; rw [HO.out])
    | (go_at_call 57; refine (gcd_any _ _ _ (by assumption) (by assumption) (HT.out.below (B0 := w.heap.size) (by repeat first | with_reducible refine Below.setCell ?_ (by first | omega | (simp; done) | (simp; omega)) _ | with_reducible refine Below.alloc ?_ (by first | omega | (simp; done) | (simp; omega)) _ | with_reducible refine below_call ?_ (by assumption) (by first | omega | (simp; done) | (simp [World.setCell]; omega)) | with_reducible exact Below.refl _ _) (Nat.le_refl _))).mono ?_; rw [HG.out]; rintro e w3 ⟨rfl, hB3⟩; have X3 := Lib.hid ((X2.out.alloc _).below hB3 (by simp; omega)); have Y3 := Lib.hid ((Y2.out.alloc _).below hB3 (by simp; omega)); have m0 := X3.out.cell0; have m1 := X3.out.cell1; have n0 := X3.out.frozen 0; have n1 := X3.out.frozen 1; have o0 := Y3.out.cell0; have o1 := Y3.out.cell1))
  refine rr_ret (blk := w.heap.size) (x := (tx n)) (y := (tx [49])) HR.out ?rrX rfl rfl rfl ?rrB
  case rrX => repeat first | with_reducible apply Bx2.put0 | with_reducible apply Bx2.put1 | with_reducible apply Bx2.far | with_reducible apply Bx2.alloc | with_reducible exact X3.out | with_reducible exact X2.out | with_reducible exact X1.out | omega | (simp; done) | (simp; omega)
  case rrB => repeat first | with_reducible refine Below.setCell ?_ (by first | omega | (simp; done) | (simp; omega)) _ | with_reducible refine Below.alloc ?_ (by first | omega | (simp; done) | (simp; omega)) _ | with_reducible refine below_call ?_ (by assumption) (by first | omega | (simp; done) | (simp [World.setCell]; omega)) | with_reducible exact Below.refl _ _

set_option maxRecDepth 100000 in
set_option maxHeartbeats 2000000 in
theorem rr_6 (a : List UInt8) (w : World) (hs : a.length ≤ 300000) (hm : MaxL w) (ht : Pow10 w) (n d : List UInt8) (hc : cutR a = some (n, d)) (hn : ¬ natOk a = true) (o : List UInt8) (ho : own n = o) (h3 : ¬ 300 < o.length) (h4 : ¬ 300 < d.length) (h5 : ¬ d = [49]) (g : List UInt8) (ge : Int) (hg : gcdT n d = (g, ge)) (h6 : ¬ ge = 0) : Calls Tryz.prog 45 #[.string (tx a)] w (RrPost w a) := by
  have hl := cutR_len hc
  have hnl : n.length ≤ 1000000 := by omega
  have hdl : d.length ≤ 1000000 := by omega
  replace hs : a.length ≤ 1000000 := by omega
  have HR := Lib.hid (show chkR a = 11 by unfold chkR; rw [hc]; simp only []; rw [if_neg hn]; rw [ho, if_neg (fun h => h.elim h3 h4)]; rw [if_neg h5]; rw [hg, if_pos (.inl h6)])
  have HN := Lib.hid (show natOk a = false by simpa using hn)
  have HO := Lib.hid ho
  have h5b : (d == [49]) = false := by rw [beq_eq_false_iff_ne]; exact h5
  have HG := Lib.hid hg
  have h6b : (ge != 0) = true := by rw [bne_iff_ne]; exact h6
  have HM := Lib.hid hm
  have HT := Lib.hid ht
  have HC := Lib.hid hc
  clear hm ht hc hl hn ho h5 hg h6
  go_enter Tryz.func45, Tryz.ntmps45
  go_wp2_with (first
    | (go_at_call 54; refine (rcut_any a _ hs (HM.out.below ((Below.refl _ _).alloc (Nat.le_refl _) _) (Nat.le_refl _))).mono ?_; rw [HC.out]; rintro e w1 ⟨rfl, hB1⟩; have X1 := Lib.hid ((Bx2.at_ rfl).below hB1 (by simp)); have c0 := X1.out.cell0; have c1 := X1.out.cell1; have f0 := X1.out.frozen 0; have f1 := X1.out.frozen 1; have l1 := X1.out.lt)
    | (go_at_call 55; refine (rnativeof_any a _ hs).mono ?_; rintro e w2 ⟨nx, ny, rfl, hB2⟩; rw [HN.out]; have X2 := Lib.hid ((X1.out.alloc _).below hB2 (by simp; omega)); have Y2 := Lib.hid ((Bx2.at_ rfl).below hB2 (by simp)); have d0 := X2.out.cell0; have d1 := X2.out.cell1; have g0 := X2.out.frozen 0; have g1 := X2.out.frozen 1; have e0 := Y2.out.cell0; have e1 := Y2.out.cell1; have l2 := Y2.out.lt; have l3 := X2.out.lt)
    | (go_at_call 56; refine (trimPrefix_own _ _).mono ?_; rintro e w5 ⟨rfl, rfl⟩; rw [HO.out])
    | (go_at_call 57; refine (gcd_any _ _ _ (by assumption) (by assumption) (HT.out.below (B0 := w.heap.size) (by repeat first | with_reducible refine Below.setCell ?_ (by first | omega | (simp; done) | (simp; omega)) _ | with_reducible refine Below.alloc ?_ (by first | omega | (simp; done) | (simp; omega)) _ | with_reducible refine below_call ?_ (by assumption) (by first | omega | (simp; done) | (simp [World.setCell]; omega)) | with_reducible exact Below.refl _ _) (Nat.le_refl _))).mono ?_; rw [HG.out]; rintro e w3 ⟨rfl, hB3⟩; have X3 := Lib.hid ((X2.out.alloc _).below hB3 (by simp; omega)); have Y3 := Lib.hid ((Y2.out.alloc _).below hB3 (by simp; omega)); have m0 := X3.out.cell0; have m1 := X3.out.cell1; have n0 := X3.out.frozen 0; have n1 := X3.out.frozen 1; have o0 := Y3.out.cell0; have o1 := Y3.out.cell1))
  refine rr_ret (blk := w.heap.size) (x := ⟨#[]⟩) (y := ⟨#[]⟩) HR.out ?rrX rfl rfl rfl ?rrB
  case rrX => repeat first | with_reducible apply Bx2.put0 | with_reducible apply Bx2.put1 | with_reducible apply Bx2.far | with_reducible apply Bx2.alloc | with_reducible exact X3.out | with_reducible exact X2.out | with_reducible exact X1.out | omega | (simp; done) | (simp; omega)
  case rrB => repeat first | with_reducible refine Below.setCell ?_ (by first | omega | (simp; done) | (simp; omega)) _ | with_reducible refine Below.alloc ?_ (by first | omega | (simp; done) | (simp; omega)) _ | with_reducible refine below_call ?_ (by assumption) (by first | omega | (simp; done) | (simp [World.setCell]; omega)) | with_reducible exact Below.refl _ _

set_option maxRecDepth 100000 in
set_option maxHeartbeats 2000000 in
theorem rr_7 (a : List UInt8) (w : World) (hs : a.length ≤ 300000) (hm : MaxL w) (ht : Pow10 w) (n d : List UInt8) (hc : cutR a = some (n, d)) (hn : ¬ natOk a = true) (o : List UInt8) (ho : own n = o) (h3 : ¬ 300 < o.length) (h4 : ¬ 300 < d.length) (h5 : ¬ d = [49]) (g : List UInt8) (ge : Int) (hg : gcdT n d = (g, ge)) (h6 : ge = 0) (h7 : ¬ g = [49]) : Calls Tryz.prog 45 #[.string (tx a)] w (RrPost w a) := by
  have hl := cutR_len hc
  have hnl : n.length ≤ 1000000 := by omega
  have hdl : d.length ≤ 1000000 := by omega
  replace hs : a.length ≤ 1000000 := by omega
  have HR := Lib.hid (show chkR a = 11 by unfold chkR; rw [hc]; simp only []; rw [if_neg hn]; rw [ho, if_neg (fun h => h.elim h3 h4)]; rw [if_neg h5]; rw [hg, if_pos (.inr h7)])
  have HN := Lib.hid (show natOk a = false by simpa using hn)
  have HO := Lib.hid ho
  have h5b : (d == [49]) = false := by rw [beq_eq_false_iff_ne]; exact h5
  have HG := Lib.hid hg
  subst h6
  have h7b : (g == [49]) = false := by rw [beq_eq_false_iff_ne]; exact h7
  have HM := Lib.hid hm
  have HT := Lib.hid ht
  have HC := Lib.hid hc
  clear hm ht hc hl hn ho h5 hg
  go_enter Tryz.func45, Tryz.ntmps45
  go_wp2_with (first
    | (go_at_call 54; refine (rcut_any a _ hs (HM.out.below ((Below.refl _ _).alloc (Nat.le_refl _) _) (Nat.le_refl _))).mono ?_; rw [HC.out]; rintro e w1 ⟨rfl, hB1⟩; have X1 := Lib.hid ((Bx2.at_ rfl).below hB1 (by simp)); have c0 := X1.out.cell0; have c1 := X1.out.cell1; have f0 := X1.out.frozen 0; have f1 := X1.out.frozen 1; have l1 := X1.out.lt)
    | (go_at_call 55; refine (rnativeof_any a _ hs).mono ?_; rintro e w2 ⟨nx, ny, rfl, hB2⟩; rw [HN.out]; have X2 := Lib.hid ((X1.out.alloc _).below hB2 (by simp; omega)); have Y2 := Lib.hid ((Bx2.at_ rfl).below hB2 (by simp)); have d0 := X2.out.cell0; have d1 := X2.out.cell1; have g0 := X2.out.frozen 0; have g1 := X2.out.frozen 1; have e0 := Y2.out.cell0; have e1 := Y2.out.cell1; have l2 := Y2.out.lt; have l3 := X2.out.lt)
    | (go_at_call 56; refine (trimPrefix_own _ _).mono ?_; rintro e w5 ⟨rfl, rfl⟩; rw [HO.out])
    | (go_at_call 57; refine (gcd_any _ _ _ (by assumption) (by assumption) (HT.out.below (B0 := w.heap.size) (by repeat first | with_reducible refine Below.setCell ?_ (by first | omega | (simp; done) | (simp; omega)) _ | with_reducible refine Below.alloc ?_ (by first | omega | (simp; done) | (simp; omega)) _ | with_reducible refine below_call ?_ (by assumption) (by first | omega | (simp; done) | (simp [World.setCell]; omega)) | with_reducible exact Below.refl _ _) (Nat.le_refl _))).mono ?_; rw [HG.out]; rintro e w3 ⟨rfl, hB3⟩; have X3 := Lib.hid ((X2.out.alloc _).below hB3 (by simp; omega)); have Y3 := Lib.hid ((Y2.out.alloc _).below hB3 (by simp; omega)); have m0 := X3.out.cell0; have m1 := X3.out.cell1; have n0 := X3.out.frozen 0; have n1 := X3.out.frozen 1; have o0 := Y3.out.cell0; have o1 := Y3.out.cell1))
  refine rr_ret (blk := w.heap.size) (x := ⟨#[]⟩) (y := ⟨#[]⟩) HR.out ?rrX rfl rfl rfl ?rrB
  case rrX => repeat first | with_reducible apply Bx2.put0 | with_reducible apply Bx2.put1 | with_reducible apply Bx2.far | with_reducible apply Bx2.alloc | with_reducible exact X3.out | with_reducible exact X2.out | with_reducible exact X1.out | omega | (simp; done) | (simp; omega)
  case rrB => repeat first | with_reducible refine Below.setCell ?_ (by first | omega | (simp; done) | (simp; omega)) _ | with_reducible refine Below.alloc ?_ (by first | omega | (simp; done) | (simp; omega)) _ | with_reducible refine below_call ?_ (by assumption) (by first | omega | (simp; done) | (simp [World.setCell]; omega)) | with_reducible exact Below.refl _ _

set_option maxRecDepth 100000 in
set_option maxHeartbeats 2000000 in
theorem rr_8 (a : List UInt8) (w : World) (hs : a.length ≤ 300000) (hm : MaxL w) (ht : Pow10 w) (n d : List UInt8) (hc : cutR a = some (n, d)) (hn : ¬ natOk a = true) (o : List UInt8) (ho : own n = o) (h3 : ¬ 300 < o.length) (h4 : ¬ 300 < d.length) (h5 : ¬ d = [49]) (g : List UInt8) (ge : Int) (hg : gcdT n d = (g, ge)) (h6 : ge = 0) (h7 : g = [49]) : Calls Tryz.prog 45 #[.string (tx a)] w (RrPost w a) := by
  have hl := cutR_len hc
  have hnl : n.length ≤ 1000000 := by omega
  have hdl : d.length ≤ 1000000 := by omega
  replace hs : a.length ≤ 1000000 := by omega
  have HR := Lib.hid (show chkR a = 0 by unfold chkR; rw [hc]; simp only []; rw [if_neg hn]; rw [ho, if_neg (fun h => h.elim h3 h4)]; rw [if_neg h5]; rw [hg, if_neg (fun h => h.elim (fun x => x h6) (fun x => x h7))])
  have HN := Lib.hid (show natOk a = false by simpa using hn)
  have HO := Lib.hid ho
  have h5b : (d == [49]) = false := by rw [beq_eq_false_iff_ne]; exact h5
  have HG := Lib.hid hg
  subst h6
  subst h7
  have HM := Lib.hid hm
  have HT := Lib.hid ht
  have HC := Lib.hid hc
  clear hm ht hc hl hn ho h5 hg
  go_enter Tryz.func45, Tryz.ntmps45
  go_wp2_with (first
    | (go_at_call 54; refine (rcut_any a _ hs (HM.out.below ((Below.refl _ _).alloc (Nat.le_refl _) _) (Nat.le_refl _))).mono ?_; rw [HC.out]; rintro e w1 ⟨rfl, hB1⟩; have X1 := Lib.hid ((Bx2.at_ rfl).below hB1 (by simp)); have c0 := X1.out.cell0; have c1 := X1.out.cell1; have f0 := X1.out.frozen 0; have f1 := X1.out.frozen 1; have l1 := X1.out.lt)
    | (go_at_call 55; refine (rnativeof_any a _ hs).mono ?_; rintro e w2 ⟨nx, ny, rfl, hB2⟩; rw [HN.out]; have X2 := Lib.hid ((X1.out.alloc _).below hB2 (by simp; omega)); have Y2 := Lib.hid ((Bx2.at_ rfl).below hB2 (by simp)); have d0 := X2.out.cell0; have d1 := X2.out.cell1; have g0 := X2.out.frozen 0; have g1 := X2.out.frozen 1; have e0 := Y2.out.cell0; have e1 := Y2.out.cell1; have l2 := Y2.out.lt; have l3 := X2.out.lt)
    | (go_at_call 56; refine (trimPrefix_own _ _).mono ?_; rintro e w5 ⟨rfl, rfl⟩; rw [HO.out])
    | (go_at_call 57; refine (gcd_any _ _ _ (by assumption) (by assumption) (HT.out.below (B0 := w.heap.size) (by repeat first | with_reducible refine Below.setCell ?_ (by first | omega | (simp; done) | (simp; omega)) _ | with_reducible refine Below.alloc ?_ (by first | omega | (simp; done) | (simp; omega)) _ | with_reducible refine below_call ?_ (by assumption) (by first | omega | (simp; done) | (simp [World.setCell]; omega)) | with_reducible exact Below.refl _ _) (Nat.le_refl _))).mono ?_; rw [HG.out]; rintro e w3 ⟨rfl, hB3⟩; have X3 := Lib.hid ((X2.out.alloc _).below hB3 (by simp; omega)); have Y3 := Lib.hid ((Y2.out.alloc _).below hB3 (by simp; omega)); have m0 := X3.out.cell0; have m1 := X3.out.cell1; have n0 := X3.out.frozen 0; have n1 := X3.out.frozen 1; have o0 := Y3.out.cell0; have o1 := Y3.out.cell1))
  refine rr_ret (blk := w.heap.size) (x := (tx n)) (y := (tx d)) HR.out ?rrX rfl rfl rfl ?rrB
  case rrX => repeat first | with_reducible apply Bx2.put0 | with_reducible apply Bx2.put1 | with_reducible apply Bx2.far | with_reducible apply Bx2.alloc | with_reducible exact X3.out | with_reducible exact X2.out | with_reducible exact X1.out | omega | (simp; done) | (simp; omega)
  case rrB => repeat first | with_reducible refine Below.setCell ?_ (by first | omega | (simp; done) | (simp; omega)) _ | with_reducible refine Below.alloc ?_ (by first | omega | (simp; done) | (simp; omega)) _ | with_reducible refine below_call ?_ (by assumption) (by first | omega | (simp; done) | (simp [World.setCell]; omega)) | with_reducible exact Below.refl _ _

theorem rread_any (a : List UInt8) (w : World) (hs : a.length ≤ 300000) (hm : MaxL w) (ht : Pow10 w) : Calls Tryz.prog 45 #[.string (tx a)] w (RrPost w a) := by
  cases hc : cutR a with
  | none => exact rr_1 a w hs hm ht hc
  | some p =>
    obtain ⟨n, d⟩ := p
    by_cases hn : natOk a = true
    · exact rr_2 a w hs hm ht n d hc hn
    obtain ⟨o, ho⟩ : ∃ o, own n = o := ⟨_, rfl⟩
    by_cases h3 : 300 < o.length
    · exact rr_3 a w hs hm ht n d hc hn o ho h3
    by_cases h4 : 300 < d.length
    · exact rr_4 a w hs hm ht n d hc hn o ho h3 h4
    by_cases h5 : d = [49]
    · exact rr_5 a w hs hm ht n d hc hn o ho h3 h4 h5
    obtain ⟨⟨g, ge⟩, hg⟩ : ∃ p, gcdT n d = p := ⟨_, rfl⟩
    by_cases h6 : ge = 0
    · by_cases h7 : g = [49]
      · exact rr_8 a w hs hm ht n d hc hn o ho h3 h4 h5 g ge hg h6 h7
      · exact rr_7 a w hs hm ht n d hc hn o ho h3 h4 h5 g ge hg h6 h7
    · exact rr_6 a w hs hm ht n d hc hn o ho h3 h4 h5 g ge hg h6

set_option maxRecDepth 100000 in
set_option maxHeartbeats 1000000 in
theorem rcheck_any (a : List UInt8) (w : World) (hs : a.length ≤ 300000) (hm : MaxL w) (ht : Pow10 w) :
    Calls Tryz.prog 38 #[.string (tx a)] w fun e w' => e = .returned (.int .i64 (chkR a)) ∧ Below w.heap.size w w' := by
  have hr := Lib.hid (rread_any a w hs hm ht)
  clear hm ht
  go_enter Tryz.func38, Tryz.ntmps38
  go_wp2_with (go_at_call 45; refine hr.out.mono ?_; rintro e w1 ⟨x, y, rfl, hB1⟩; have hz1 := hB1.size)
  go_ret
  exact ⟨rfl, by repeat first | with_reducible refine Below.setCell ?_ (by first | omega | (simp; done) | (simp; omega)) _ | with_reducible refine Below.alloc ?_ (by first | omega | (simp; done) | (simp; omega)) _ | with_reducible refine below_call ?_ (by assumption) (by first | omega | (simp; done) | (simp [World.setCell]; omega)) | with_reducible exact Below.refl _ _⟩

theorem isD_blank {s : List UInt8} (h : s.all isD = true) : (32 : UInt8) ∉ s := by
  rw [List.all_eq_true] at h
  intro hm
  have := h _ hm
  revert this; decide
theorem good_digits {s : List UInt8} (h : good s = true) : s.all isD = true := by
  unfold good at h
  simp only [Bool.and_eq_true, decide_eq_true_eq] at h
  obtain ⟨h0, h1⟩ := h
  unfold rdig at h0 h1
  split at h0
  · exact absurd rfl h0
  · rename_i hx
    rw [if_neg hx] at h1
    have h3 := lead_take s
    rw [List.take_of_length_le (by omega)] at h3
    rw [h3]; exact lead_all s
theorem own_blank {n : List UInt8} (h : (32 : UInt8) ∉ own n) : (32 : UInt8) ∉ n := by
  rcases own_cases n with ⟨r, e, ho⟩ | ⟨ho, _⟩
  · rw [e]; rw [ho] at h
    intro hm
    rcases List.mem_cons.1 hm with e | e
    · revert e; decide
    · exact h e
  · rw [ho] at h; exact h
theorem cut_parts (a : List UInt8) : ((Lib.cut a [47]).2.2 = false ∧ (Lib.cut a [47]).1 = a) ∨ ((Lib.cut a [47]).2.2 = true ∧ a = (Lib.cut a [47]).1 ++ 47 :: (Lib.cut a [47]).2.1) := by
  rcases Lib.index_spec a [47] with ⟨h1, _⟩ | ⟨i, h1, h2, h3, _⟩
  · left; unfold Lib.cut; rw [h1]; simp
  · right
    unfold Lib.cut
    rw [h1, if_pos (by omega)]
    refine ⟨rfl, ?_⟩
    unfold Lib.occAt at h3
    cases hd : a.drop i with
    | nil => rw [hd] at h3; simp at h3
    | cons b r =>
      rw [hd] at h3
      simp [List.isPrefixOf] at h3
      have e1 : a.drop (i + 1) = r := by
        have := congrArg (List.drop 1) hd
        simpa [List.drop_drop] using this
      simp only [Int.toNat_natCast, List.length_cons, List.length_nil, Nat.zero_add]
      rw [e1, h3, ← hd, List.take_append_drop]
/-- what rational.Check lets in has no blank -/
theorem chkR_blank : NoBlank chkR := by
  intro a h
  unfold chkR at h
  cases hc : cutR a with
  | none => rw [hc] at h; simp at h
  | some p =>
    unfold cutR at hc
    simp only [] at hc
    split at hc
    · cases hc
    · rename_i hg
      have hn : (32 : UInt8) ∉ (Lib.cut a [47]).1 := own_blank (isD_blank (good_digits (by
        cases hb : good (own (Lib.cut a [47]).1) with
        | true => rfl
        | false => exact absurd (.inl hb) hg)))
      rcases cut_parts a with ⟨_, e⟩ | ⟨h2, e⟩
      · rw [e] at hn; exact hn
      · rw [h2] at hc
        rw [if_neg (by decide)] at hc
        split at hc
        · cases hc
        · rename_i hd
          have hdb : (32 : UInt8) ∉ (Lib.cut a [47]).2.1 := isD_blank (good_digits (by
            cases hb : good (Lib.cut a [47]).2.1 with
            | true => rfl
            | false => exact absurd (.inl hb) hd))
          rw [e]
          intro hm
          rcases List.mem_append.1 hm with h | h
          · exact hn h
          · rcases List.mem_cons.1 h with h | h
            · revert h; decide
            · exact hdb h
end Go.Proofs.YtbnnccnicfddlaaGreatDoor
