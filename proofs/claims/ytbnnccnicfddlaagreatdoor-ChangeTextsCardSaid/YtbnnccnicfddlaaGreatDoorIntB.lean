/- integer.divide: the short ways. · integer.divide: what its loop keeps. -/
import Derived.Test.YtbnnccnicfddlaaGreatDoorInt8
import Derived.Test.YtbnnccnicfddlaaGreatDoorMathA
set_option linter.unusedSimpArgs false
set_option linter.unusedVariables false
namespace Go.Proofs.YtbnnccnicfddlaaGreatDoor
open Go.RowKit Go.Shelf Kp

theorem SlN.new {w : World} {v : Value} {l : List Nat} (h : SlN w w.heap.size v l) (o : Obj) : SlN (w.alloc o) (w.alloc o).heap.size v l :=
  (h.below ((Below.refl _ _).alloc (Nat.le_refl _) o)).more (by simp)
theorem SlN.grow {w w' : World} {v : Value} {l : List Nat} (h : SlN w w.heap.size v l) (hb : Below w.heap.size w w') : SlN w' w'.heap.size v l := (h.below hb).more hb.size
theorem OwnN.sl {w w' : World} {v : Value} {l : List Nat} (h : OwnN w w' v l) : SlN w' w'.heap.size v l := by
  obtain ⟨g, cap, rfl, hg, hr⟩ := h
  exact hr.sl hr.lt

/-- quotient and remainder, wherever they lie -/
def DivPost (w : World) (a b : List Nat) (e : Ending) (w' : World) : Prop :=
  ∃ vq vr ql rl, e = .returned (.tuple #[vq, vr]) ∧ SlN w' w'.heap.size vq ql ∧ Canon ql ∧ val ql = val a / val b ∧ SlN w' w'.heap.size vr rl ∧ Canon rl ∧ val rl = val a % val b ∧ Below w.heap.size w w'

theorem canon_nil : Canon [] := ⟨fun _ h => (by cases h), trim_nil⟩
theorem slN_nil (w : World) (b0 : Nat) : SlN w b0 (.slice none 0 0) [] := ⟨none, 0, rfl, by simp, by simp [maxLen], fun h => by simp at h⟩

set_option maxRecDepth 100000 in
set_option maxHeartbeats 1000000 in
theorem divide_less (w : World) (a b : List Nat) (va vb : Value) (ha : SlN w w.heap.size va a) (hb : SlN w w.heap.size vb b) (hca : Canon a) (hcb : Canon b) (hlen : a.length ≤ 1000000) (hlt : val a < val b) :
    Calls Tryz.prog 81 #[va, vb] w (DivPost w a b) := by
  have hcmp := Lib.hid (compare_any (w.alloc (.cells #[.slice none 0 0] 97)) a b va vb (ha.new _) (hb.new _) hca hcb (by omega))
  have HA := Lib.hid ha
  obtain ⟨A, ca, rfl, _, _, hac⟩ := ha
  obtain ⟨A', cb, rfl, _, _, hbc⟩ := hb
  clear hac hbc
  go_enter Tryz.func81, Tryz.ntmps81
  go_wp2_with (go_at_call 99; refine hcmp.out.mono ?_; rintro e w1 ⟨c, rfl, h1, h2, hB⟩; have hc : c < 0 := h1.2 hlt; clear h1 h2; have b1 := ((Bx.new w 97 (.slice none 0 0)).below hB (by simp)).cell; have f1 := ((Bx.new w 97 (.slice none 0 0)).below hB (by simp)).frozen)
  have hfin : DivPost w a b (.returned (.tuple #[.slice none 0 0, .slice A a.length ca])) (w1.setCell ⟨w.heap.size, 0, none⟩ (.slice none 0 0)) := by
    have hb1 : Below w.heap.size w (w1.setCell ⟨w.heap.size, 0, none⟩ (.slice none 0 0)) := (((Below.refl _ _).alloc (Nat.le_refl _) _).trans (hB.mono (by simp))).setCell (p := ⟨w.heap.size, 0, none⟩) (Nat.le_refl _) _
    exact ⟨_, _, [], a, rfl, slN_nil _ _, canon_nil, by rw [Nat.div_eq_of_lt hlt]; rfl, HA.out.grow hb1, hca, (Nat.mod_eq_of_lt hlt).symm, hb1⟩
  have hcell := World.cell?_setCell_same' w1 ⟨w.heap.size, 0, none⟩ (.slice none 0 0) (by rw [b1]; rfl)
  exact bodyPost_ret (v := .tuple #[.slice none 0 0, .slice A a.length ca]) (by simp [results, Tryz.results81, go_sem, hcell]) rfl hfin

set_option maxRecDepth 100000 in
set_option maxHeartbeats 1000000 in
theorem divide_one (w : World) (a : List Nat) (d : Nat) (va vb : Value) (ha : SlN w w.heap.size va a) (hb : SlN w w.heap.size vb [d]) (hca : Canon a) (hcb : Canon [d]) (hlen : a.length ≤ 1000000) (hge : val [d] ≤ val a) :
    Calls Tryz.prog 81 #[va, vb] w (DivPost w a [d]) := by
  have hcmp := Lib.hid (compare_any (w.alloc (.cells #[.slice none 0 0] 97)) a [d] va vb (ha.new _) (hb.new _) hca hcb (by omega))
  have hd1 : d < 1000000000 := hcb.small d (by simp)
  have hd0 : 1 ≤ d := by have : d ≠ 0 := Trim.last (l := []) hcb.trim; omega
  have HA := Lib.hid ha
  obtain ⟨A, ca, rfl, _, _, hac⟩ := ha
  obtain ⟨A', cb, rfl, _, _, hbc⟩ := hb
  obtain ⟨bb, bo, rfl, hbb, hcell⟩ := hbc (by simp)
  have hx : w.cell? ⟨bb, bo, none⟩ = some (.int .i64 d) := hcell 0 (by simp)
  clear hac hbc hcell
  go_enter Tryz.func81, Tryz.ntmps81
  go_wp2_with (first
    | (go_at_call 99; refine hcmp.out.mono ?_; rintro e w1 ⟨c, rfl, h1, h2, hB⟩; have hc : ¬ c < 0 := fun h => absurd (h1.1 h) (by omega); clear h1 h2; have b1 := ((Bx.new w 97 (.slice none 0 0)).below hB (by simp)); have x1 : w1.cell? ⟨bb, bo, none⟩ = some (.int .i64 d) := ((hB.cell (p := ⟨bb, bo, none⟩) (by simp; omega)).trans (World.cell?_alloc_lt w _ ⟨bb, bo, none⟩ hbb)).trans hx)
    | (go_at_call 100; refine (dshort_any w1 a _ d (HA.out.grow (((Below.refl _ _).alloc (Nat.le_refl _) _).trans (hB.mono (by simp)))) hca.small hd0 hd1 (by omega)).mono ?_; rintro e w2 ⟨vq, vr, ql, rl, rfl, hq, hcq, hvq, hr, hcr, hvr, hB2⟩; obtain ⟨gq, cq, rfl, hgq, hrq⟩ := hq; obtain ⟨gr, cr, rfl, hgr, hrr⟩ := hr; have bx2 := b1.below hB2 b1.lt; have b2 := bx2.cell; have f2 := bx2.frozen))
  have hne1 : gq ≠ w.heap.size := by have := b1.lt; omega
  have hne2 : gr ≠ w.heap.size := by have := b1.lt; omega
  have hcell := World.cell?_setCell_same' w2 ⟨w.heap.size, 0, none⟩ (.slice (some ⟨gq, 0, none⟩) ql.length cq) (by rw [b2]; rfl)
  have hb1 : Below w.heap.size w (w2.setCell ⟨w.heap.size, 0, none⟩ (.slice (some ⟨gq, 0, none⟩) ql.length cq)) :=
    ((((Below.refl _ _).alloc (Nat.le_refl _) _).trans (hB.mono (by simp))).trans (hB2.mono (by have := b1.lt; omega))).setCell (p := ⟨w.heap.size, 0, none⟩) (Nat.le_refl _) _
  have hfin : DivPost w a [d] (.returned (.tuple #[.slice (some ⟨gq, 0, none⟩) ql.length cq, .slice (some ⟨gr, 0, none⟩) rl.length cr])) (w2.setCell ⟨w.heap.size, 0, none⟩ (.slice (some ⟨gq, 0, none⟩) ql.length cq)) := by
    have r1 := hrq.far (p := ⟨w.heap.size, 0, none⟩) hne1 (.slice (some ⟨gq, 0, none⟩) ql.length cq)
    have r2 := hrr.far (p := ⟨w.heap.size, 0, none⟩) hne2 (.slice (some ⟨gq, 0, none⟩) ql.length cq)
    exact ⟨_, _, ql, rl, rfl, r1.sl r1.lt, hcq, by rw [val_one]; exact hvq, r2.sl r2.lt, hcr, by rw [val_one]; exact hvr, hb1⟩
  exact bodyPost_ret (v := .tuple #[.slice (some ⟨gq, 0, none⟩) ql.length cq, .slice (some ⟨gr, 0, none⟩) rl.length cr]) (by simp [results, Tryz.results81, go_sem, hcell]) rfl hfin
end Go.Proofs.YtbnnccnicfddlaaGreatDoor
namespace Go.Proofs.YtbnnccnicfddlaaGreatDoor
open Go.RowKit Go.Shelf Kp

theorem Bx.only {g : Nat} {W W' : World} {b : Nat} {t : TypeId} {v : Value} (h : Bx W b t v) (ho : Only g W W') (hb : b ≠ g) : Bx W' b t v := (ho.block b hb).trans h
theorem Row.only {g g' cap : Nat} {W W' : World} {l : List Nat} (h : Row W g' cap l) (ho : Only g W W') (hb : g' ≠ g) : Row W' g' cap l := h.keep (ho.block g' hb)
/-- a store of what a box holds already -/
theorem Only.again {g : Nat} {W W' : World} {b : Nat} {t : TypeId} {v : Value} (ho : Only g W W') (h : Bx W' b t v) : Only g W (W'.setCell ⟨b, 0, none⟩ v) := by
  refine ⟨ho.os, ho.tape, ho.output, by simpa [World.setCell] using ho.size, fun k hk => ?_⟩
  by_cases hb : k = b
  · subst hb
    rw [← ho.block k hk]
    exact (h.put v).trans h.symm
  · exact (Below.heap_setCell W' ⟨b, 0, none⟩ v k hb).trans (ho.block k hk)
theorem Only.others {g : Nat} {W W' : World} (ho : Only g W W') {cs : Array Value} {t : TypeId} {m : Nat × Nat} (hg : W.heap[g]? = some (.cells cs t m)) : KeepsOthers W W' :=
  ⟨by rw [ho.size]; exact Nat.le_refl _, fun k o hk hc => by
    by_cases e : k = g
    · subst e; rw [hg] at hk; cases hk; cases hc
    · exact (ho.block k e).trans hk⟩

/-- what holds behind k rounds of divide -/
structure DvI (w : World) (nb gu cu gb cv : Nat) (tv : List Nat) (A mq m : Nat) (k : Nat) (u q : List Nat) (W : World) : Prop where
  bq : Bx W w.heap.size 97 (.slice (some ⟨nb + 2, 0, none⟩) mq mq)
  bu : Bx W nb 97 (.slice (some ⟨gu, 0, none⟩) m cu)
  bv : Bx W (nb + 1) 97 (.slice (some ⟨gb, 0, none⟩) tv.length cv)
  it : Bx W (nb + 3) 97 (.slice (some ⟨nb + 2, 0, none⟩) mq mq)
  ru : Row W gu cu u
  rv : Row W gb cv tv
  rq : Row W (nb + 2) mq q
  lu : u.length = m
  lq : q.length = mq
  dm : DvM A (val tv) tv.length k u q
  low : Below w.heap.size w W
theorem DvI.stays {w : World} {nb gu cu gb cv : Nat} {tv : List Nat} {A mq m k : Nat} {u q : List Nat} {n0 : Nat} {W W' : World} (h : DvI w nb gu cu gb cv tv A mq m k u q W) (hs : Stays n0 W W') (hn : w.heap.size ≤ n0) :
    DvI w nb gu cu gb cv tv A mq m k u q W' :=
  ⟨h.bq.stays hs, h.bu.stays hs, h.bv.stays hs, h.it.stays hs, h.ru.stays hs, h.rv.stays hs, h.rq.stays hs, h.lu, h.lq, h.dm, h.low.trans (hs.below.mono hn)⟩
def DvLoop (w : World) (nb gu cu gb cv : Nat) (tv : List Nat) (A mq m : Nat) (k : Nat) (W : World) : Prop := ∃ u q, DvI w nb gu cu gb cv tv A mq m k u q W
theorem DvI.back {w : World} {nb gu cu gb cv : Nat} {tv : List Nat} {A mq m k : Nat} {u q : List Nat} {W : World} (h : DvI w nb gu cu gb cv tv A mq m k u q W) :
    BackM (nb + 3) (some ⟨nb + 2, 0, none⟩) mq mq (fun _ _ => True) W :=
  ⟨h.it.cell, fun _ => ⟨nb + 2, 0, rfl, fun j hj => ⟨_, by rw [Nat.zero_add]; exact h.rq.cell (by rw [h.lq]; exact hj), trivial⟩⟩⟩

/-- what holds in the loop of takes of one round: u is the dividend at the round's start, x that of now -/
structure DvIn (W : World) (gu cu : Nat) (tv u : List Nat) (j : Nat) (d : Nat) (x : List Nat) (W' : World) : Prop where
  row : Row W' gu cu x
  len : x.length = u.length
  small : Small x
  same : ∀ i, i < j ∨ j + (tv.length + 1) ≤ i → fv x i = fv u i
  seg : S (sh (fv x) j) (tv.length + 1) = S (sh (fv u) j) (tv.length + 1)
  lt : S (sh (fv u) j) (tv.length + 1) < (d + 1) * val tv
  bound : d ≤ 2000000000
  only : Only gu W W'
def DvInLoop (W : World) (gu cu : Nat) (tv u : List Nat) (j : Nat) (d : Value) (W' : World) : Prop := ∃ dN x, d = .int .i64 (dN : Nat) ∧ DvIn W gu cu tv u j dN x W'

theorem val_ge_len {l : List Nat} : S (fv l) (l.length + 1) = val l := val_of_ge (by omega)
/-- too much was taken: put back, and one less -/
theorem DvIn.less {W W1 W2 W3 : World} {gu cu : Nat} {tv u x y z : List Nat} {j d c c2 : Nat} (h : DvIn W gu cu tv u j d x W1) (ht : TakeRel W1 gu cu x tv j d (tv.length + 1) c y W2)
    (hr : RestRel W2 gu cu y tv j d (tv.length + 1) c2 z W3) (hc : 0 < c) : 1 ≤ d ∧ DvIn W gu cu tv u j (d - 1) z W3 := by
  obtain ⟨row, len, small, same, seg, lt, bound, only⟩ := h
  obtain ⟨tR, tl, tS, tsame, teq, tc, tO⟩ := ht
  obtain ⟨rR, rl, rS, rsame, req, rc, rO⟩ := hr
  rw [val_ge_len] at teq req
  have hU : S (sh (fv x) j) (tv.length + 1) < B ^ (tv.length + 1) := S_lt (fun k _ => fv_small small _)
  have hX : S (sh (fv y) j) (tv.length + 1) < B ^ (tv.length + 1) := S_lt (fun k _ => fv_small tS _)
  have hZ : S (sh (fv z) j) (tv.length + 1) < B ^ (tv.length + 1) := S_lt (fun k _ => fv_small rS _)
  have hbig : S (sh (fv x) j) (tv.length + 1) < d * val tv := by
    have := take_fits teq hX hU
    rcases Nat.lt_or_ge (S (sh (fv x) j) (tv.length + 1)) (d * val tv) with h | h
    · exact h
    · have := this.2 h; omega
  have hz : S (sh (fv z) j) (tv.length + 1) = S (sh (fv x) j) (tv.length + 1) := restore_same teq req hZ hU
  have h1 : 1 ≤ d := by
    rcases Nat.eq_zero_or_pos d with h0 | h0
    · subst h0; omega
    · exact h0
  refine ⟨h1, rR, by omega, rS, fun i hi => ?_, by rw [hz, seg], by rw [Nat.sub_add_cancel h1, ← seg]; exact hbig, by omega, (only.trans tO).trans rO⟩
  rw [rsame i hi, tsame i hi, same i hi]
/-- the digit is right -/
theorem DvI.next {w W W1 W2 : World} {nb gu cu gb cv : Nat} {tv : List Nat} {A mq m k d : Nat} {u q x y : List Nat} (h : DvI w nb gu cu gb cv tv A mq m k u q W) (hk : k < mq) (htv : Small tv)
    (hgw : w.heap.size < gu) (hgu : gu < nb) (hgb : gb < nb) (hne : gu ≠ gb) (hwn : w.heap.size < nb)
    (hi : DvIn W gu cu tv u (mq - 1 - k) d x W1) (ht : TakeRel W1 gu cu x tv (mq - 1 - k) d (tv.length + 1) 0 y W2) :
    d < 1000000000 ∧ KeepsOthers W (W2.setCell ⟨nb + 2, mq - 1 - k, none⟩ (.int .i64 d)) ∧ DvI w nb gu cu gb cv tv A mq m (k + 1) y (q.set (mq - 1 - k) d) (W2.setCell ⟨nb + 2, mq - 1 - k, none⟩ (.int .i64 d)) := by
  obtain ⟨row, len, small, same, seg, lt, bound, only⟩ := hi
  obtain ⟨tR, tl, tS, tsame, teq, tc, tO⟩ := ht
  have lq := h.lq
  subst lq
  rw [val_ge_len, seg, Nat.zero_mul, Nat.add_zero] at teq
  have hO : Only gu W W2 := only.trans tO
  obtain ⟨hd, hM⟩ := h.dm.step hk (val_lt htv) (by omega) tS (fun i hi => by rw [tsame i hi, same i hi]) rfl teq lt
  obtain ⟨cur, hcur, _⟩ := h.ru
  refine ⟨hd, (hO.others hcur).trans (KeepsOthers.setCell _ _ _), (h.bq.only hO (by omega)).far (by simp; omega) _, (h.bu.only hO (by omega)).far (by simp) _, (h.bv.only hO (by omega)).far (by simp) _, (h.it.only hO (by omega)).far (by simp) _,
    tR.far (by simp; omega) _, (h.rv.only hO (by omega)).far (by simp; omega) _, (h.rq.only hO (by omega)).set (by omega) d, by have := h.lu; omega, by simp, hM, ?_⟩
  exact (h.low.trans (hO.below (by omega))).setCell (p := ⟨nb + 2, _, none⟩) (by simp; omega) _
end Go.Proofs.YtbnnccnicfddlaaGreatDoor
