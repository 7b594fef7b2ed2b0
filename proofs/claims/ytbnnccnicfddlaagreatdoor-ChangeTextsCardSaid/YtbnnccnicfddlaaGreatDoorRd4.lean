/- change.reader.read of removals: the walk. -/
import Derived.Test.YtbnnccnicfddlaaGreatDoorRd2
import Derived.Test.YtbnnccnicfddlaaGreatDoorMap2
import Derived.Maps.StringElems
set_option linter.unusedSimpArgs false
set_option linter.unusedVariables false
namespace Go.Proofs.YtbnnccnicfddlaaGreatDoor
open Go.RowKit Go.Shelf Kp Go.Maps
attribute [local go_sem] edC_size edC_0 edC_1 edC_2 edC_3 edC_4 edC_5 edC_6 edC_7 edC_8 edC_9 edC_10 edC_11 edC_12 edC_13 edC_14 edC_15 edC_16 edC_17 edC_18 edC_19 edC_20 edC_21 edC_22 edC_23 edC_24 edC_25 edC_26 edC_27 edC_28 edC_29 edC_30 edC_31 edC_32 edC_33 edC_34 edC_35 edC_36 edK_kind setRow_at setRow_past setRow_drew setRow_drewN
theorem grown_set (w : World) (p : Addr) (v : Value) : w.grownBy (w.setCell p v) (some p.block) :=
  ⟨rfl, rfl, rfl, by simp [World.setCell], fun i _ hi => Below.heap_setCell w p v i (fun e => hi (by rw [e]))⟩
theorem strR_inv {v : Value} {z : DataW Unit × List MemPlace} (h : strR v = some z) : ∃ s : ByteArray, v = .string s ∧ z = (.lit (.string s.data.toList), []) := by
  obtain ⟨s, h1, h2, _⟩ := plainElem_string_inv Tryz.underlying9 h
  exact ⟨s, h1, h2⟩
theorem RdKeep.grown {B b : Nat} {u w w' : World} {row : Option Nat} (h : RdKeep B b u w) (hg : w.grownBy w' row) (hr : ∀ k, row = some k → u.heap.size ≤ k) (hB : B ≤ u.heap.size) : RdKeep B b u w' :=
  ⟨h.low.grown hg (Nat.le_trans hB h.low.size) (fun k hk => Nat.le_trans hB (hr k hk)), fun k hk hb => (hg.block k (Nat.lt_of_lt_of_le hk h.low.size) (fun e => by have := hr k e.symm; omega)).trans (h.others k hk hb)⟩
theorem EC.grown {w w' : World} {c : Nat} {C : Array Value} {row : Option Nat} (h : EC w c C) (hg : w.grownBy w' row) (hr : some c ≠ row) : EC w' c C := (hg.block c h.lt hr).trans h
theorem RdAt.grown {B N b : Nat} {r : Rdr} {w w' : World} {row : Option Nat} (h : RdAt B N b r w) (hg : w.grownBy w' row) (hr : ∀ k, row = some k → N ≤ k) : RdAt B N b r w' := by
  obtain ⟨lo, hi, ⟨sb, off, cap, h1, h2, h3, h4, h5, ⟨cur, h7⟩, h8⟩, hl⟩ := h
  have l1 : b < w.heap.size := (Array.getElem?_eq_some_iff.1 h1).1
  have l2 : sb < w.heap.size := (Array.getElem?_eq_some_iff.1 h7).1
  have e1 := hg.block b l1 (fun e => by have := hr b e.symm; omega)
  have e2 := hg.block sb l2 (fun e => by have := hr sb e.symm; omega)
  exact ⟨lo, hi, ⟨sb, off, cap, e1.trans h1, h2, h3, h4, h5, ⟨cur, e2.trans h7⟩, fun j hj => (World.cell?_of_block e2).trans (h8 j hj)⟩, hl⟩

/-- what holds of the number while the lists' words are gone through -/
structure RemN (l : By) (left : Lit → Bool) (n : Int) : Prop where
  hit : ∀ x, remIs x = true → left (.int .i64 x) = false → remW x = l → n = x
  own : n = 0 ∨ (remIs n = true ∧ remW n = l)
theorem remW_inj {x y : Int} (hx : remIs x = true) (hy : remIs y = true) (h : remW x = remW y) : x = y := by
  rw [← remOf_remW hx, ← remOf_remW hy, h]
theorem RemN.start (l : By) : RemN l (Maps.has remD) 0 := by
  refine ⟨fun x hx hl _ => ?_, .inl rfl⟩
  unfold remIs at hx
  simp only [Bool.or_eq_true, beq_iff_eq] at hx
  rcases hx with ((((h | h) | h) | h) | h) | h <;> subst h <;> revert hl <;> decide +kernel
theorem RemN.step_hit {l : By} {left : Lit → Bool} {n x : Int} (h : RemN l left n) (hx : remIs x = true) (hw : remW x = l) : RemN l (fun z => left z && !z.sameKey (.int .i64 x)) x :=
  ⟨fun y hy _ hyl => remW_inj hx hy (hw.trans hyl.symm), .inr ⟨hx, hw⟩⟩
theorem RemN.step_miss {l : By} {left : Lit → Bool} {n x : Int} (h : RemN l left n) (hw : ¬ remW x = l) : RemN l (fun z => left z && !z.sameKey (.int .i64 x)) n := by
  refine ⟨fun y hy hl hyl => ?_, h.own⟩
  by_cases hyx : y = x
  · subst hyx; exact absurd hyl hw
  · refine h.hit y hy ?_ hyl
    have : Lit.sameKey (.int .i64 y) (.int .i64 x) = false := by simp [Lit.sameKey, hyx]
    simp only [this, Bool.not_false, Bool.and_true] at hl
    exact hl
theorem RemN.done {l : By} {left : Lit → Bool} {n : Int} (h : RemN l left n) (hl : ∀ k, left k = false) : n = remOf l := by
  rcases h.own with h0 | ⟨h1, h2⟩
  · subst h0
    unfold remOf
    split
    · rename_i hh; exact h.hit 4 rfl (hl _) hh.symm
    split
    · rename_i hh; exact h.hit 5 rfl (hl _) hh.symm
    split
    · rename_i hh; exact h.hit 6 rfl (hl _) hh.symm
    split
    · rename_i hh; exact h.hit 7 rfl (hl _) hh.symm
    split
    · rename_i hh; exact h.hit 10 rfl (hl _) hh.symm
    split
    · rename_i hh; exact h.hit 11 rfl (hl _) hh.symm
    · rfl
  · rw [← h2, remOf_remW h1]

/-- what holds in the loop; m: the map's block, y: the edit's -/
structure RemR (B b m y : Nat) (r2 : Rdr) (l : By) (w : World) (wr : World) : Prop where
  ex : ∃ left cnt n, wr.ranges Tryz.prog 3 strR m (m + 1) 6 remD left cnt ∧ (∀ k, left k = true → Maps.has remD k = true) ∧ RemN l left n ∧ EC wr y ((edC (edK 12) nilS).setIfInBounds 35 (.int .i64 n))
  rd : RdAt B w.heap.size b r2 wr
  z : EC wr w.heap.size (edC ed0 nilS)
  keep : RdKeep B b w wr
  size : m + 2 ≤ wr.heap.size

set_option maxRecDepth 100000 in
set_option maxHeartbeats 8000000 in
theorem read_12 (B b : Nat) (r : Rdr) (w : World) (h : RdAt B w.heap.size b r w) (hk : kindOf (rW r).1 = 12) (hg : Gl w) (hB : 9 ≤ B) (hBw : B ≤ w.heap.size) :
    Calls Tryz.prog 18 #[slf b] w (RePost B w.heap.size b r w) := by
  have hbl := h.hi
  have H0 := Lib.hid h
  have HG := Lib.hid hg
  have HK := Lib.hid hk
  have HE := Lib.hid (show rE r = ({ edK 12 with number := remOf (rW (rW r).2).1, index := (rI (rW (rW r).2).2).1 }, (rI (rW (rW r).2).2).2) by simp only [rE, hk]; rfl)
  clear h hg hk
  go_enter Tryz.func18, Tryz.ntmps18
  go_wp2_with (first
    | (at_range; refine wpList_range_own _ rfl _ 55 rfl 3 9 int_law Tryz.underlying55 strR W2.heap.size 6 remD rfl O3.out ?_; intro w0 hrg0 hg0 hs0; rw [z3]; rw [z3] at hrg0 hs0)
    | (go_at_call 12; refine (removed_any _).mono ?_; rintro e W3 ⟨rfl, hW3⟩; have O3 := Lib.hid (show W3.ownsMap Tryz.prog 3 strR W2.heap.size 6 remD by rw [hW3]; exact rem_owns W2); have H3 := Lib.hid (show RdAt B w.heap.size b (rW (rW r).2).2 W3 by rw [hW3]; exact H2.out.alloc _); have C3 := Lib.hid (show EC W3 W1.heap.size (edC (edK 12) nilS) by rw [hW3]; exact C2.out.alloc _); have Z3 := Lib.hid (show EC W3 w.heap.size (edC ed0 nilS) by rw [hW3]; exact Z2.out.alloc _); have K3 := Lib.hid (show RdKeep B b w W3 by rw [hW3]; exact K2.out.alloc (by omega) _); have z3 : W3.heap.size = W2.heap.size + 1 := (by rw [hW3]; simp); clear hW3)
    | (go_at_call 29; refine (rdword_any B w.heap.size b _ _ H1.out).mono ?_; rintro e W2 ⟨rfl, h2, k2⟩; have H2 := Lib.hid h2; have C2 := Lib.hid (EC.keep (C := edC (edK 12) nilS) C1.out k2 (by omega)); have Z2 := Lib.hid (EC.keep (C := edC ed0 nilS) Z1.out k2 (by omega)); have K2 := Lib.hid (K1.out.trans k2); have z2 := k2.low.size; simp only [World.size_alloc] at z2; clear h2 k2)
    | (go_at_call 28; refine (ckinds_any _).mono ?_; rintro e W0 ⟨rfl, hW0⟩; have H00 := Lib.hid (show RdAt B w.heap.size b r W0 by rw [hW0]; exact (H0.out.alloc _).alloc _); have K00 := Lib.hid (show RdKeep B b w W0 by rw [hW0]; exact ((RdKeep.refl B b w).alloc hBw _).alloc (by simp; omega) _); have M00 := Lib.hid (show W0.heap[w.heap.size + 1]? = some (.map knd12 12) by rw [hW0]; have := World.alloc_heap_new (w.alloc (.cells (edC ed0 nilS) 39)) (.map knd12 12); rw [World.size_alloc] at this; exact this); have Z00 := Lib.hid (show EC W0 w.heap.size (edC ed0 nilS) by rw [hW0]; exact (EC.new w _).alloc _); have zz0 : W0.heap.size = w.heap.size + 1 + 1 := (by rw [hW0]; simp); clear hW0)
    | (go_at_call 29; refine (rdword_any B w.heap.size b _ _ H00.out).mono ?_; rintro e W1 ⟨rfl, h1, k1⟩; have z1 := k1.low.size; have hlk := knd_look W1 (w.heap.size + 1) 12 ((k1.others _ (by omega) (by omega)).trans M00.out) (rW r).1; rw [HK.out] at hlk; have H1 := Lib.hid (h1.alloc (.cells (edC (edK 12) nilS) 39)); have C1 := Lib.hid (EC.new W1 (edC (edK 12) nilS)); have Z1 := Lib.hid ((Z00.out.keep k1 (by omega)).alloc (.cells (edC (edK 12) nilS) 39)); have K1 := Lib.hid ((K00.out.trans k1).alloc (by omega) (.cells (edC (edK 12) nilS) 39)); clear h1 k1)
    | (refine wpList_build rfl 39 _ rfl (by kernel_rfl) ?_; rw [show Value.agg (Option.getD (Tryz.prog.built 39 _) #[]) = .agg (edC (edK 12) nilS) from by kernel_rfl])
    | (refine wpList_store_row rfl 39 _ _ rfl _ _ rfl rfl 39 _ (World.alloc_heap_new W1 _) (by kernel_rfl) (by kernel_rfl) (by kernel_rfl) ?_))
  go_frame
  have HST := Lib.hid (show RemR B b W2.heap.size W1.heap.size (rW (rW r).2).2 (rW (rW r).2).1 w w0 from ⟨⟨_, _, 0, hrg0, fun k hk => hk, RemN.start _, by
    have : (edC (edK 12) nilS).setIfInBounds 35 (.int .i64 0) = edC (edK 12) nilS := by kernel_rfl
    rw [this]; exact C3.out.grown hg0 (by simp)⟩, H3.out.grown hg0 (fun k hk => by cases hk), Z3.out.grown hg0 (by simp), K3.out.grown hg0 (fun k hk => by cases hk) hBw, by omega⟩)
  go_loopw [5] (fun _ wr => RemR B b W2.heap.size W1.heap.size (rW (rW r).2).2 (rW (rW r).2).1 w wr) (fun _ wr => wr.rangeLeft W2.heap.size (W2.heap.size + 1))
  case atStart => exact HST.out
  case round =>
    obtain ⟨⟨left, cnt, n, hrg, hlh, hn, hc⟩, hrd, hz, hkp, hsz⟩ := hrel
    have HN := Lib.hid hn
    have HLH := Lib.hid hlh
    have HC := Lib.hid hc
    have HRD := Lib.hid hrd
    have HZ := Lib.hid hz
    have HKP := Lib.hid hkp
    have HRG := Lib.hid hrg
    clear hn hlh hc hrd hz hkp hrg hrg0 HST
    go_wp2_with (at_next; go_loud (refine wpList_next_ranges _ rfl _ rfl 3 int_law strR (fun x : Int => .int .i64 x) (fun s : ByteArray => .string s) (fun key kl hh => by obtain ⟨x, hx, _⟩ := Maps.keyOf_int_inv Tryz.underlying3 hh; exact ⟨x, hx⟩) (fun v y hh => by obtain ⟨s, hs, _⟩ := strR_inv hh; exact ⟨s, hs⟩) W2.heap.size (W2.heap.size + 1) 6 remD left cnt rfl HRG.out ?_ ?_))
    · intro hc0 hl0
      have hnr := HN.out.done hl0
      subst hnr
      have cc := fun i => HC.out.cell i
      have cf := fun i => HC.out.frozen i
      have hzk := HKP.out.low.size
      clear hl0 HLH HRG
      go_wp2_with (first
        | (refine wpList_load_row rfl 39 _ rfl _ rfl 39 _ (0, 0) _ (EC.heap (C5.out.put 1 (.int .i64 (rI (rW (rW r).2).2).1))) Tryz.underlying39 rfl (by kernel_rfl) ?_)
        | (refine wpList_store_row rfl 39 _ _ rfl _ _ rfl rfl 39 _ (EC.heap (Z5.out.far (p := ⟨W1.heap.size, 1, none⟩) (by first | omega | (simp; omega)) (.int .i64 (rI (rW (rW r).2).2).1))) (by kernel_rfl) (by kernel_rfl) (by kernel_rfl) ?_)
        | (go_at_call 30; refine (rdint_any B w.heap.size b _ _ HRD.out (HG.out.keep HKP.out.low hB) hB (by omega)).mono ?_; rintro e W5 ⟨rfl, h5, k5⟩; have H5 := Lib.hid h5; have C5 := Lib.hid (HC.out.keep k5 (by omega)); have Z5 := Lib.hid (HZ.out.keep k5 (by omega)); have K5 := Lib.hid (HKP.out.trans k5); have z5 := k5.low.size; have cc5 := fun i => C5.out.cell i; have cf5 := fun i => C5.out.frozen i; clear h5 k5))
      refine bodyPost_ret (results_cell_row rfl _ _ _ _ _ (0, 0) _ rfl (setRow_heap (EC.heap (Z5.out.far (p := ⟨W1.heap.size, 1, none⟩) (by first | omega | (simp; omega)) (.int .i64 (rI (rW (rW r).2).2).1))) _) Tryz.underlying39 rfl (by kernel_rfl)) rfl ⟨none, 0, congrArg (fun c => Ending.returned (.agg c)) ?_, ?_, ?_, ?_⟩
      · rw [HE.out]; kernel_rfl
      · rw [HE.out]; exact gapAt_nil _ _
      · rw [HE.out]; exact RdAt.row (H5.out.far (p := ⟨W1.heap.size, 1, none⟩) (by first | omega | (simp; omega)) (.int .i64 (rI (rW (rW r).2).2).1)) (Nat.le_refl _) _
      · exact RdKeep.row (K5.out.far (p := ⟨W1.heap.size, 1, none⟩) (by first | omega | (simp; omega)) (by first | omega | (simp; omega)) (.int .i64 (rI (rW (rW r).2).2).1)) (Nat.le_refl _) (by omega) _
    · intro x c kl yd yp w1 cnt1 hkl hlx hR hat hrg1 hlt hg1 hs1 hen
      obtain ⟨x', hx', hkl', _⟩ := Maps.keyOf_int_inv Tryz.underlying3 hkl
      cases hx'
      subst hkl'
      obtain ⟨s, hs', hy⟩ := strR_inv hR
      cases hs'
      cases hy
      obtain ⟨hrx, hcw⟩ := remD_at (HLH.out _ hlx) hat
      have hc' : c = tx (remW x) := by rw [← hcw, tx_self]
      subst hc'
      have HEN := Lib.hid hen
      have HRG1 := Lib.hid hrg1
      have hzk := HKP.out.low.size
      have C1' := Lib.hid (HC.out.grown hg1 (fun e => by have := Option.some.inj e; omega))
      have Z1' := Lib.hid (HZ.out.grown hg1 (fun e => by have := Option.some.inj e; omega))
      have R1' := Lib.hid (HRD.out.grown hg1 (fun k hk => by cases hk; omega))
      have K1' := Lib.hid (HKP.out.grown hg1 (fun k hk => by cases hk; omega) hBw)
      have hlh1 : ∀ k, (left k && !k.sameKey (.int .i64 x)) = true → Maps.has remD k = true := fun k hk => HLH.out k (by simp only [Bool.and_eq_true] at hk; exact hk.1)
      have HLH1 := Lib.hid hlh1
      have HM := Lib.hid (show w1.rangeLeft W2.heap.size (W2.heap.size + 1) < wr.rangeLeft W2.heap.size (W2.heap.size + 1) by rw [hrg1.left_eq, HRG.out.left_eq]; exact hlt)
      have cc := fun i => C1'.out.cell i
      have cf := fun i => C1'.out.frozen i
      clear hkl hlx hR hat hrg1 hlt hg1 hcw hlh1
      by_cases hw : remW x = (rW (rW r).2).1
      · have hwb : (remW x == (rW (rW r).2).1) = true := by rw [beq_iff_eq]; exact hw
        have HN1 := Lib.hid (HN.out.step_hit hrx hw)
        clear hw
        go_wp2
        have hrg2 := HRG1.out.kept (grown_set w1 ⟨W1.heap.size, 35, none⟩ (.int .i64 x)) (fun e => by have := Option.some.inj e; simp at this; omega) (fun e => by have := Option.some.inj e; simp at this; omega)
        have hce := C1'.out.put 35 (.int .i64 x)
        rw [show ((edC (edK 12) nilS).setIfInBounds 35 (.int .i64 n)).setIfInBounds 35 (.int .i64 x) = (edC (edK 12) nilS).setIfInBounds 35 (.int .i64 x) by simp] at hce
        refine ⟨⟨⟨_, cnt1, x, hrg2, HLH1.out, HN1.out, hce⟩, R1'.out.far (p := ⟨W1.heap.size, 35, none⟩) (by simp; omega) _, Z1'.out.far (p := ⟨W1.heap.size, 35, none⟩) (by simp; omega) _, K1'.out.far (p := ⟨W1.heap.size, 35, none⟩) (by simp; omega) (by simp; omega) _, by simp [World.setCell]; omega⟩, ?_⟩
        have hm := HM.out
        rw [HRG1.out.left_eq] at hm
        rw [hrg2.left_eq]; exact hm
      · have hwb : (remW x == (rW (rW r).2).1) = false := by rw [beq_eq_false_iff_ne]; exact hw
        have HN1 := Lib.hid (HN.out.step_miss hw)
        clear hw
        go_wp2
        exact ⟨⟨⟨_, cnt1, n, HRG1.out, HLH1.out, HN1.out, C1'.out⟩, R1'.out, Z1'.out, K1'.out, by omega⟩, HM.out⟩
end Go.Proofs.YtbnnccnicfddlaaGreatDoor
