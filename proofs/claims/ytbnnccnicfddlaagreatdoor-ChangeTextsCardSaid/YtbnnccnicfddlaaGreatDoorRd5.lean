/- change.reader.read of bars: the walk. -/
import Derived.Test.YtbnnccnicfddlaaGreatDoorRd2
import Derived.Deep.AppendLies
import Derived.Deep.RegionLaw
set_option linter.unusedSimpArgs false
set_option linter.unusedVariables false
namespace Go.Proofs.YtbnnccnicfddlaaGreatDoor
open Go.RowKit Go.Shelf Kp
attribute [local go_sem] edC_size edC_0 edC_1 edC_2 edC_3 edC_4 edC_5 edC_6 edC_7 edC_8 edC_9 edC_10 edC_11 edC_12 edC_13 edC_14 edC_15 edC_16 edC_17 edC_18 edC_19 edC_20 edC_21 edC_22 edC_23 edC_24 edC_25 edC_26 edC_27 edC_28 edC_29 edC_30 edC_31 edC_32 edC_33 edC_34 edC_35 edC_36 edK_kind setRow_at setRow_past setRow_drew setRow_drewN

theorem edC_put22 (E : Ed) (g g' : Value) : (edC E g).setIfInBounds 22 g' = edC E g' := by kernel_rfl
theorem edC_gaps (E : Ed) (l : List (Int × Int)) (g : Value) : edC { E with gaps := l } g = edC E g := rfl
/-- gaps as cells -/
abbrev gapV (l : List (Int × Int)) : List Value := l.flatMap fun p => [.int .i64 p.1, .int .i64 p.2]
theorem gapV_len (l : List (Int × Int)) : (gapV l).length = l.length * 2 := by
  induction l with
  | nil => rfl
  | cons p l ih => simp only [gapV, List.flatMap_cons, List.length_append, List.length_cons, List.length_nil] at ih ⊢; omega
theorem gapV_snoc (l : List (Int × Int)) (x y : Int) : gapV (l ++ [(x, y)]) = gapV l ++ [.int .i64 x, .int .i64 y] := by simp [gapV]
theorem gapV_at (l : List (Int × Int)) (j : Nat) (hj : j < l.length) : (gapV l)[2 * j]? = some (.int .i64 (l[j]'hj).1) ∧ (gapV l)[2 * j + 1]? = some (.int .i64 (l[j]'hj).2) := by
  induction l generalizing j with
  | nil => simp at hj
  | cons p l ih =>
    cases j with
    | zero => simp [gapV]
    | succ j =>
      have := ih j (by simpa using hj)
      rw [show 2 * (j + 1) = 2 * j + 2 by omega, show 2 * j + 2 + 1 = 2 * j + 1 + 2 by omega]
      simpa [gapV] using this
theorem gapAt_of_owns {w : World} {base : Nat} {g : Value} {l : List (Int × Int)} (h : w.ownsRow base 82 2 g l.length (gapV l)) :
    ∃ ga gc, g = .slice ga l.length gc ∧ ∀ w' : World, (∀ k, base ≤ k → k < w.heap.size → w'.heap[k]? = w.heap[k]?) → w.heap.size ≤ w'.heap.size → GapAt w' w'.heap.size ga gc l := by
  obtain ⟨_, ⟨hv, h0⟩ | ⟨gb, cap, cur, hv, hb, hh, hn, hc, hcs, ht⟩⟩ := h
  · have hl : l = [] := List.length_eq_zero_iff.1 h0
    subst hl
    exact ⟨none, 0, hv, fun w' _ _ => gapAt_nil _ _⟩
  · refine ⟨_, cap, hv, fun w' hw hz => ⟨hn, hc, fun _ => ⟨gb, 0, rfl, ?_, fun j hj => ?_⟩⟩⟩
    · have := (Array.getElem?_eq_some_iff.1 hh).1; omega
    · have hb' := (hw gb hb (Array.getElem?_eq_some_iff.1 hh).1).trans hh
      obtain ⟨g1, g2⟩ := gapV_at l j hj
      rw [← ht, List.getElem?_take_of_lt (by omega)] at g1 g2
      constructor
      · simp [World.cell?, hb']; simpa using g1
      · simp [World.cell?, hb']; simpa using g2
theorem RdAt.low {B N b M : Nat} {r : Rdr} {w w' : World} (h : RdAt B N b r w) (hb : Below M w w') (hM : N ≤ M) : RdAt B N b r w' := by
  obtain ⟨lo, hi, ⟨sb, off, cap, h1, h2, h3, h4, h5, ⟨cur, h7⟩, h8⟩, hl⟩ := h
  exact ⟨lo, hi, ⟨sb, off, cap, (hb.block b (by omega)).trans h1, h2, h3, h4, h5, ⟨cur, (hb.block sb (by omega)).trans h7⟩, fun j hj => (hb.cell (p := ⟨sb, off + j, none⟩) (by show sb < M; omega)).trans (h8 j hj)⟩, hl⟩
theorem RdKeep.step {B b M : Nat} {u w w' : World} (h : RdKeep B b u w) (hb : Below M w w') (hM : u.heap.size ≤ M) (hB : B ≤ M) : RdKeep B b u w' :=
  ⟨h.low.trans (hb.mono hB), fun k hk hkb => (hb.block k (by omega)).trans (h.others k hk hkb)⟩
theorem owns_keep {w w' : World} {B b base : Nat} {e : TypeId} {n : Nat} {v : Value} {xs : List Value} (h : w.ownsRow base e 2 v n xs) (hk : RdKeep B b w w') (hb : b < base) : w'.ownsRow base e 2 v n xs := by
  obtain ⟨hl, h | ⟨g, cap, cur, e, hbs, hh, r⟩⟩ := h
  · exact ⟨hl, .inl h⟩
  · exact ⟨hl, .inr ⟨g, cap, cur, e, hbs, (hk.others g (Array.getElem?_eq_some_iff.1 hh).1 (by omega)).trans hh, r⟩⟩
theorem owns_far {w : World} {base : Nat} {e : TypeId} {n : Nat} {v : Value} {xs : List Value} (h : w.ownsRow base e 2 v n xs) {p : Addr} (hp : p.block < base) (x : Value) : (w.setCell p x).ownsRow base e 2 v n xs := by
  obtain ⟨hl, h | ⟨g, cap, cur, e, hbs, hh, r⟩⟩ := h
  · exact ⟨hl, .inl h⟩
  · exact ⟨hl, .inr ⟨g, cap, cur, e, hbs, (Below.heap_setCell w p x g (by omega)).trans hh, r⟩⟩
theorem owns_base {w : World} {base : Nat} {e : TypeId} {n s : Nat} {v : Value} {xs : List Value} (h : w.ownsRow base e s v n xs) : ∀ k, v.ownBlock = some k → base ≤ k := by
  obtain ⟨hl, ⟨rfl, _⟩ | ⟨g, cap, cur, rfl, hbs, r⟩⟩ := h
  · intro k hk; simp [Value.ownBlock] at hk
  · intro k hk; simp [Value.ownBlock] at hk; omega
/-- how many words a reader has left, off the world -/
def wlen (b : Nat) (w : World) : Nat := match w.cell? ⟨b, 0, none⟩ with
  | some (.slice _ n _) => n
  | _ => 0
theorem RdAt.wlen {B N b : Nat} {r : Rdr} {w : World} (h : RdAt B N b r w) : wlen b w = r.1.length := by
  obtain ⟨_, _, A, c, hc⟩ := h.cells
  unfold Proofs.YtbnnccnicfddlaaGreatDoor.wlen; rw [hc]
theorem rW_short (r : Rdr) : (rW r).2.1.length = r.1.length - 1 := by
  obtain ⟨ws, x⟩ := r
  cases ws <;> simp [rW]
theorem rI_short (r : Rdr) : (rI r).2.1.length = r.1.length - 1 := rW_short r
/-- what holds ahead of each round over the gaps -/
structure BarR (B b Y : Nat) (w : World) (r0 : Rdr) (E : Ed) (wr : World) : Prop where
  ex : ∃ (n : Nat) (l : List (Int × Int)) (r : Rdr) (g : Value), rG r0.1.length r0 = (l ++ (rG n r).1, (rG n r).2) ∧ r.1.length ≤ n ∧ RdAt B w.heap.size b r wr ∧ EC wr Y (edC E g) ∧
    wr.ownsRow (Y + 1) 82 2 g l.length (gapV l) ∧ l.length + r.1.length ≤ 1000000
  z : EC wr w.heap.size (edC ed0 nilS)
  keep : RdKeep B b w wr
theorem RdAt.words {B N b : Nat} {r : Rdr} {w : World} (h : RdAt B N b r w) : r.1.length ≤ 1000000 := by
  obtain ⟨lo, hi, ⟨sb, off, cap, h1, h2, h3, h4, h5, _⟩, hl⟩ := h
  omega
/-- what read leaves; the gaps lie in a new block -/
def RePost2 (B N b : Nat) (r : Rdr) (w : World) (e : Ending) (w' : World) : Prop :=
  ∃ ga gc, e = .returned (.agg (edC (rE r).1 (.slice ga (rE r).1.gaps.length gc))) ∧ (∀ w2 : World, (∀ k, N ≤ k → k < w'.heap.size → w2.heap[k]? = w'.heap[k]?) → w'.heap.size ≤ w2.heap.size → GapAt w2 w2.heap.size ga gc (rE r).1.gaps) ∧ RdAt B N b (rE r).2 w' ∧ RdKeep B b w w'
theorem RePost.two {B N b : Nat} {r : Rdr} {w : World} {e : Ending} {w' : World} (h : RePost B N b r w e w') (hg : (rE r).1.gaps = []) : RePost2 B N b r w e w' := by
  obtain ⟨ga, gc, h1, h2, h3, h4⟩ := h
  refine ⟨ga, gc, h1, fun w2 _ _ => ⟨h2.1, h2.2.1, fun h => ?_⟩, h3, h4⟩
  rw [hg] at h; simp at h
theorem gap_info : (Tryz.prog.info? 82).map (fun i => (i.zero, i.size, i.bytes)) = some (some (.agg #[.int .i64 0, .int .i64 0]), 2, 16) := by kernel_rfl
/-- the edit of a bar -/
def barE (i a b c d e : Int) : Ed := { edK 7 with index := i, bwidth := a, bdepth := b, blength := c, bcount := d, bcost := e }
theorem rG_nil {n : Nat} {r : Rdr} (h : r.1 = []) : rG n r = ([], r) := by
  cases n with
  | zero => rfl
  | succ n => simp only [rG]; split <;> simp_all
theorem rG_step {n : Nat} {r : Rdr} (h : 0 < r.1.length) : rG (n + 1) r = (((rI r).1, (rI (rI r).2).1) :: (rG n (rI (rI r).2).2).1, (rG n (rI (rI r).2).2).2) := by
  simp only [rG]; split <;> simp_all
theorem BarR.next {B b Y : Nat} {w : World} {r0 : Rdr} {E : Ed} {n : Nat} {l : List (Int × Int)} {r : Rdr} {g v : Value} {w4 : World} (hrg : rG r0.1.length r0 = (l ++ (rG n r).1, (rG n r).2)) (hn : r.1.length ≤ n) (h0 : 0 < r.1.length)
    (hrd : RdAt B w.heap.size b (rI (rI r).2).2 w4) (hec : EC w4 Y (edC E g)) (hown : w4.ownsRow (Y + 1) 82 2 v (l.length + 1) (gapV l ++ [.int .i64 (rI r).1, .int .i64 (rI (rI r).2).1]))
    (hlen : l.length + r.1.length ≤ 1000000) (hz : EC w4 w.heap.size (edC ed0 nilS)) (hk : RdKeep B b w w4) (hY : w.heap.size < Y) (hB : B ≤ w.heap.size) :
    BarR B b Y w r0 E (w4.setCell ⟨Y, 22, none⟩ v) ∧ wlen b (w4.setCell ⟨Y, 22, none⟩ v) < r.1.length := by
  have hs1 := rI_short r
  have hs2 := rI_short (rI r).2
  have hrd' : RdAt B w.heap.size b (rI (rI r).2).2 (w4.setCell ⟨Y, 22, none⟩ v) := hrd.far (p := ⟨Y, 22, none⟩) (by show w.heap.size ≤ Y; omega) v
  refine ⟨⟨⟨n - 1, l ++ [((rI r).1, (rI (rI r).2).1)], (rI (rI r).2).2, v, ?_, by omega, hrd', ?_, ?_, ?_⟩, hz.far (p := ⟨Y, 22, none⟩) (by show w.heap.size ≠ Y; omega) v, hk.far (p := ⟨Y, 22, none⟩) (by show w.heap.size ≤ Y; omega) (by show B ≤ Y; omega) v⟩, ?_⟩
  · obtain ⟨m, rfl⟩ : ∃ m, n = m + 1 := ⟨n - 1, by omega⟩
    rw [rG_step h0] at hrg
    rw [hrg]; simp
  · have := hec.put 22 v
    rw [edC_put22] at this
    exact this
  · rw [gapV_snoc, List.length_append]
    exact owns_far hown (p := ⟨Y, 22, none⟩) (by show Y < Y + 1; omega) v
  · simp only [List.length_append, List.length_cons, List.length_nil]; omega
  · rw [hrd'.wlen]; omega

set_option maxRecDepth 100000 in
set_option maxHeartbeats 8000000 in
theorem read_7 (B b : Nat) (r : Rdr) (w : World) (h : RdAt B w.heap.size b r w) (hk : kindOf (rW r).1 = 7) (hg : Gl w) (hB : 9 ≤ B) (hBw : B ≤ w.heap.size) :
    Calls Tryz.prog 18 #[slf b] w (RePost2 B w.heap.size b r w) := by
  have hbl := h.hi
  have H0 := Lib.hid h
  have HG := Lib.hid hg
  have HK := Lib.hid hk
  have HE := Lib.hid (show rE r = ({ (barE (rI (rW r).2).1 (rI (rI (rW r).2).2).1 (rI (rI (rI (rW r).2).2).2).1 (rI (rI (rI (rI (rW r).2).2).2).2).1 (rI (rI (rI (rI (rI (rW r).2).2).2).2).2).1 (rI (rI (rI (rI (rI (rI (rW r).2).2).2).2).2).2).1) with gaps := (rG (rI (rI (rI (rI (rI (rI (rW r).2).2).2).2).2).2).2.1.length (rI (rI (rI (rI (rI (rI (rW r).2).2).2).2).2).2).2).1 }, (rG (rI (rI (rI (rI (rI (rI (rW r).2).2).2).2).2).2).2.1.length (rI (rI (rI (rI (rI (rI (rW r).2).2).2).2).2).2).2).2) by simp only [rE, hk]; rfl)
  clear h hg hk
  go_enter Tryz.func18, Tryz.ntmps18
  go_wp2_with (first
    | (go_at_call 30; refine (rdint_any B w.heap.size b _ _ H6.out (HG.out.keep (RdKeep.low K6.out) hB) hB (by first | omega | (simp; done) | (simp; omega) | (simp [World.setCell]; omega))).mono ?_; rintro e W7 ⟨rfl, h7, k7⟩; have H7 := Lib.hid h7; have C7 := Lib.hid (EC.keep (C := _) C6.out k7 (by omega)); have Z7 := Lib.hid (EC.keep (C := _) Z6.out k7 (by omega)); have K7 := Lib.hid (RdKeep.trans K6.out k7); have z7 := k7.low.size; (try simp only [World.size_alloc, World.size_setCell] at z7); have cc7 := fun i => C7.out.cell i; have cf7 := fun i => C7.out.frozen i; clear h7 k7)
    | (go_at_call 30; refine (rdint_any B w.heap.size b _ _ H5.out (HG.out.keep (RdKeep.low K5.out) hB) hB (by first | omega | (simp; done) | (simp; omega) | (simp [World.setCell]; omega))).mono ?_; rintro e W6 ⟨rfl, h6, k6⟩; have H6 := Lib.hid h6; have C6 := Lib.hid (EC.keep (C := _) C5.out k6 (by omega)); have Z6 := Lib.hid (EC.keep (C := _) Z5.out k6 (by omega)); have K6 := Lib.hid (RdKeep.trans K5.out k6); have z6 := k6.low.size; (try simp only [World.size_alloc, World.size_setCell] at z6); have cc6 := fun i => C6.out.cell i; have cf6 := fun i => C6.out.frozen i; clear h6 k6)
    | (go_at_call 30; refine (rdint_any B w.heap.size b _ _ H4.out (HG.out.keep (RdKeep.low K4.out) hB) hB (by first | omega | (simp; done) | (simp; omega) | (simp [World.setCell]; omega))).mono ?_; rintro e W5 ⟨rfl, h5, k5⟩; have H5 := Lib.hid h5; have C5 := Lib.hid (EC.keep (C := _) C4.out k5 (by omega)); have Z5 := Lib.hid (EC.keep (C := _) Z4.out k5 (by omega)); have K5 := Lib.hid (RdKeep.trans K4.out k5); have z5 := k5.low.size; (try simp only [World.size_alloc, World.size_setCell] at z5); have cc5 := fun i => C5.out.cell i; have cf5 := fun i => C5.out.frozen i; clear h5 k5)
    | (go_at_call 30; refine (rdint_any B w.heap.size b _ _ H3.out (HG.out.keep (RdKeep.low K3.out) hB) hB (by first | omega | (simp; done) | (simp; omega) | (simp [World.setCell]; omega))).mono ?_; rintro e W4 ⟨rfl, h4, k4⟩; have H4 := Lib.hid h4; have C4 := Lib.hid (EC.keep (C := _) C3.out k4 (by omega)); have Z4 := Lib.hid (EC.keep (C := _) Z3.out k4 (by omega)); have K4 := Lib.hid (RdKeep.trans K3.out k4); have z4 := k4.low.size; (try simp only [World.size_alloc, World.size_setCell] at z4); have cc4 := fun i => C4.out.cell i; have cf4 := fun i => C4.out.frozen i; clear h4 k4)
    | (go_at_call 30; refine (rdint_any B w.heap.size b _ _ (H2.out.far (p := ⟨W1.heap.size, 1, none⟩) (by first | omega | (simp; omega)) (.int .i64 (rI (rW r).2).1)) (HG.out.keep (RdKeep.low (K2.out.far (p := ⟨W1.heap.size, 1, none⟩) (by first | omega | (simp; omega)) (by first | omega | (simp; omega)) (.int .i64 (rI (rW r).2).1))) hB) hB (by first | omega | (simp; done) | (simp; omega) | (simp [World.setCell]; omega))).mono ?_; rintro e W3 ⟨rfl, h3, k3⟩; have H3 := Lib.hid h3; have C3 := Lib.hid (EC.keep (C := _) (C2.out.put 1 (.int .i64 (rI (rW r).2).1)) k3 (by omega)); have Z3 := Lib.hid (EC.keep (C := _) (Z2.out.far (p := ⟨W1.heap.size, 1, none⟩) (by first | omega | (simp; omega)) (.int .i64 (rI (rW r).2).1)) k3 (by omega)); have K3 := Lib.hid (RdKeep.trans (K2.out.far (p := ⟨W1.heap.size, 1, none⟩) (by first | omega | (simp; omega)) (by first | omega | (simp; omega)) (.int .i64 (rI (rW r).2).1)) k3); have z3 := k3.low.size; (try simp only [World.size_alloc, World.size_setCell] at z3); have cc3 := fun i => C3.out.cell i; have cf3 := fun i => C3.out.frozen i; clear h3 k3)
    | (go_at_call 30; refine (rdint_any B w.heap.size b _ _ H1.out (HG.out.keep (RdKeep.low K1.out) hB) hB (by first | omega | (simp; done) | (simp; omega) | (simp [World.setCell]; omega))).mono ?_; rintro e W2 ⟨rfl, h2, k2⟩; have H2 := Lib.hid h2; have C2 := Lib.hid (EC.keep (C := _) C1.out k2 (by omega)); have Z2 := Lib.hid (EC.keep (C := _) Z1.out k2 (by omega)); have K2 := Lib.hid (RdKeep.trans K1.out k2); have z2 := k2.low.size; (try simp only [World.size_alloc, World.size_setCell] at z2); have cc2 := fun i => C2.out.cell i; have cf2 := fun i => C2.out.frozen i; clear h2 k2)
    | (go_at_call 28; refine (ckinds_any _).mono ?_; rintro e W0 ⟨rfl, hW0⟩; have H00 := Lib.hid (show RdAt B w.heap.size b r W0 by rw [hW0]; exact (H0.out.alloc _).alloc _); have K00 := Lib.hid (show RdKeep B b w W0 by rw [hW0]; exact ((RdKeep.refl B b w).alloc hBw _).alloc (by simp; omega) _); have M00 := Lib.hid (show W0.heap[w.heap.size + 1]? = some (.map knd12 12) by rw [hW0]; have := World.alloc_heap_new (w.alloc (.cells (edC ed0 nilS) 39)) (.map knd12 12); rw [World.size_alloc] at this; exact this); have Z00 := Lib.hid (show EC W0 w.heap.size (edC ed0 nilS) by rw [hW0]; exact (EC.new w _).alloc _); have zz0 : W0.heap.size = w.heap.size + 1 + 1 := (by rw [hW0]; simp); clear hW0)
    | (go_at_call 29; refine (rdword_any B w.heap.size b _ _ H00.out).mono ?_; rintro e W1 ⟨rfl, h1, k1⟩; have z1 := k1.low.size; have hlk := knd_look W1 (w.heap.size + 1) 12 ((k1.others _ (by omega) (by omega)).trans M00.out) (rW r).1; rw [HK.out] at hlk; have H1 := Lib.hid (h1.alloc (.cells (edC (edK 7) nilS) 39)); have C1 := Lib.hid (EC.new W1 (edC (edK 7) nilS)); have Z1 := Lib.hid ((Z00.out.keep k1 (by omega)).alloc (.cells (edC (edK 7) nilS) 39)); have K1 := Lib.hid ((K00.out.trans k1).alloc (by omega) (.cells (edC (edK 7) nilS) 39)); clear h1 k1)
    | (refine wpList_build rfl 39 _ rfl (by kernel_rfl) ?_; rw [show Value.agg (Option.getD (Tryz.prog.built 39 _) #[]) = .agg (edC (edK 7) nilS) from by kernel_rfl])
    | (refine wpList_store_row rfl 39 _ _ rfl _ _ rfl rfl 39 _ (by first | exact (EC.heap (Z7.out.rfar (n := W1.heap.size) (by first | omega | (simp; omega)) (putAt ((edC (edK 7) nilS).setIfInBounds 1 (.int .i64 (rI (rW r).2).1)) 17 #[.int .i64 (rI (rI (rW r).2).2).1, .int .i64 (rI (rI (rI (rW r).2).2).2).1, .int .i64 (rI (rI (rI (rI (rW r).2).2).2).2).1, .int .i64 (rI (rI (rI (rI (rI (rW r).2).2).2).2).2).1, .int .i64 (rI (rI (rI (rI (rI (rI (rW r).2).2).2).2).2).2).1, nilS]))) | exact World.alloc_heap_new W1 _) (by kernel_rfl) (by kernel_rfl) (by kernel_rfl) ?_)
    | (refine wpList_store_part rfl 31 _ _ rfl W1.heap.size 17 _ rfl rfl 39 _ (EC.heap C7.out) (by kernel_rfl) (Nat.le_of_ble_eq_true (by kernel_rfl)) (by kernel_rfl) ?_))
  have H8 := Lib.hid (RdAt.row H7.out (n := W1.heap.size) (by first | omega | (simp; omega)) (putAt ((edC (edK 7) nilS).setIfInBounds 1 (.int .i64 (rI (rW r).2).1)) 17 #[.int .i64 (rI (rI (rW r).2).2).1, .int .i64 (rI (rI (rI (rW r).2).2).2).1, .int .i64 (rI (rI (rI (rI (rW r).2).2).2).2).1, .int .i64 (rI (rI (rI (rI (rI (rW r).2).2).2).2).2).1, .int .i64 (rI (rI (rI (rI (rI (rI (rW r).2).2).2).2).2).2).1, nilS]))
  have C8 := Lib.hid (show EC (W7.setRow W1.heap.size (putAt ((edC (edK 7) nilS).setIfInBounds 1 (.int .i64 (rI (rW r).2).1)) 17 #[.int .i64 (rI (rI (rW r).2).2).1, .int .i64 (rI (rI (rI (rW r).2).2).2).1, .int .i64 (rI (rI (rI (rI (rW r).2).2).2).2).1, .int .i64 (rI (rI (rI (rI (rI (rW r).2).2).2).2).2).1, .int .i64 (rI (rI (rI (rI (rI (rI (rW r).2).2).2).2).2).2).1, nilS])) W1.heap.size (edC (barE (rI (rW r).2).1 (rI (rI (rW r).2).2).1 (rI (rI (rI (rW r).2).2).2).1 (rI (rI (rI (rI (rW r).2).2).2).2).1 (rI (rI (rI (rI (rI (rW r).2).2).2).2).2).1 (rI (rI (rI (rI (rI (rI (rW r).2).2).2).2).2).2).1) nilS) from Eq.mp (congrArg (fun c => EC (W7.setRow W1.heap.size (putAt ((edC (edK 7) nilS).setIfInBounds 1 (.int .i64 (rI (rW r).2).1)) 17 #[.int .i64 (rI (rI (rW r).2).2).1, .int .i64 (rI (rI (rI (rW r).2).2).2).1, .int .i64 (rI (rI (rI (rI (rW r).2).2).2).2).1, .int .i64 (rI (rI (rI (rI (rI (rW r).2).2).2).2).2).1, .int .i64 (rI (rI (rI (rI (rI (rI (rW r).2).2).2).2).2).2).1, nilS])) W1.heap.size c) (show (putAt ((edC (edK 7) nilS).setIfInBounds 1 (.int .i64 (rI (rW r).2).1)) 17 #[.int .i64 (rI (rI (rW r).2).2).1, .int .i64 (rI (rI (rI (rW r).2).2).2).1, .int .i64 (rI (rI (rI (rI (rW r).2).2).2).2).1, .int .i64 (rI (rI (rI (rI (rI (rW r).2).2).2).2).2).1, .int .i64 (rI (rI (rI (rI (rI (rI (rW r).2).2).2).2).2).2).1, nilS]) = edC (barE (rI (rW r).2).1 (rI (rI (rW r).2).2).1 (rI (rI (rI (rW r).2).2).2).1 (rI (rI (rI (rI (rW r).2).2).2).2).1 (rI (rI (rI (rI (rI (rW r).2).2).2).2).2).1 (rI (rI (rI (rI (rI (rI (rW r).2).2).2).2).2).2).1) nilS from by kernel_rfl)) (C7.out.rput (putAt ((edC (edK 7) nilS).setIfInBounds 1 (.int .i64 (rI (rW r).2).1)) 17 #[.int .i64 (rI (rI (rW r).2).2).1, .int .i64 (rI (rI (rI (rW r).2).2).2).1, .int .i64 (rI (rI (rI (rI (rW r).2).2).2).2).1, .int .i64 (rI (rI (rI (rI (rI (rW r).2).2).2).2).2).1, .int .i64 (rI (rI (rI (rI (rI (rI (rW r).2).2).2).2).2).2).1, nilS])))
  have Z8 := Lib.hid (Z7.out.rfar (n := W1.heap.size) (by first | omega | (simp; omega)) (putAt ((edC (edK 7) nilS).setIfInBounds 1 (.int .i64 (rI (rW r).2).1)) 17 #[.int .i64 (rI (rI (rW r).2).2).1, .int .i64 (rI (rI (rI (rW r).2).2).2).1, .int .i64 (rI (rI (rI (rI (rW r).2).2).2).2).1, .int .i64 (rI (rI (rI (rI (rI (rW r).2).2).2).2).2).1, .int .i64 (rI (rI (rI (rI (rI (rI (rW r).2).2).2).2).2).2).1, nilS]))
  have K8 := Lib.hid (RdKeep.row K7.out (n := W1.heap.size) (by first | omega | (simp; omega)) (by first | omega | (simp; omega)) (putAt ((edC (edK 7) nilS).setIfInBounds 1 (.int .i64 (rI (rW r).2).1)) 17 #[.int .i64 (rI (rI (rW r).2).2).1, .int .i64 (rI (rI (rI (rW r).2).2).2).1, .int .i64 (rI (rI (rI (rI (rW r).2).2).2).2).1, .int .i64 (rI (rI (rI (rI (rI (rW r).2).2).2).2).2).1, .int .i64 (rI (rI (rI (rI (rI (rI (rW r).2).2).2).2).2).2).1, nilS]))
  generalize W7.setRow W1.heap.size (putAt ((edC (edK 7) nilS).setIfInBounds 1 (.int .i64 (rI (rW r).2).1)) 17 #[.int .i64 (rI (rI (rW r).2).2).1, .int .i64 (rI (rI (rI (rW r).2).2).2).1, .int .i64 (rI (rI (rI (rI (rW r).2).2).2).2).1, .int .i64 (rI (rI (rI (rI (rI (rW r).2).2).2).2).2).1, .int .i64 (rI (rI (rI (rI (rI (rI (rW r).2).2).2).2).2).2).1, nilS]) = V8 at H8 C8 Z8 K8 ⊢
  generalize (barE (rI (rW r).2).1 (rI (rI (rW r).2).2).1 (rI (rI (rI (rW r).2).2).2).1 (rI (rI (rI (rI (rW r).2).2).2).2).1 (rI (rI (rI (rI (rI (rW r).2).2).2).2).2).1 (rI (rI (rI (rI (rI (rI (rW r).2).2).2).2).2).2).1) = E at C8 HE
  generalize (rI (rI (rI (rI (rI (rI (rW r).2).2).2).2).2).2).2 = r0 at H8 HE
  clear H00 K00 M00 Z00 H1 C1 Z1 K1 H2 C2 Z2 K2 H3 C3 Z3 K3 H4 C4 Z4 K4 H5 C5 Z5 K5 H6 C6 Z6 K6 H7 C7 Z7 K7 cc2 cc3 cc4 cc5 cc6 cc7 cf2 cf3 cf4 cf5 cf6 cf7 H0 hlk
  obtain ⟨i0, hi0, hz0, hz1, hz2⟩ := info_parts gap_info
  have I0 := Lib.hid hi0
  have I1 := Lib.hid hz0
  have I2 := Lib.hid hz1
  have I3 := Lib.hid hz2
  clear hi0 hz0 hz1 hz2
  have hYw : w.heap.size < W1.heap.size := by omega
  clear zz0 z1 z2 z3 z4 z5 z6 z7
  go_frame
  go_loopw [] (fun wr => BarR B b W1.heap.size w r0 E wr) (fun wr => wlen b wr)
  case atStart => exact ⟨⟨r0.1.length, [], r0, nilS, by simp, Nat.le_refl _, H8.out, C8.out, World.ownsRow_nil _ _ _ _, by have := H8.out.words; simpa using this⟩, Z8.out, K8.out⟩
  case round =>
    clear H8 C8 Z8 K8
    obtain ⟨⟨n, l, r1, g, hrg, hn, hrd, hec, hown, hlen⟩, hz, hk⟩ := hrel
    obtain ⟨_, _, A, cp, c0⟩ := hrd.cells
    have hwl := hrd.wlen
    by_cases hw : 0 < r1.1.length
    · have ce := hec.cell 22
      rw [edC_22] at ce
      have hYr := hec.lt
      have hKr := hk.low.size
      have HRG := Lib.hid hrg
      have H1 := Lib.hid (show RdAt B w.heap.size b r1 wr.drew from hrd.below ((Below.drew (Below.refl _ _))))
      have C1 := Lib.hid (show EC wr.drew W1.heap.size (edC E g) from hec)
      have O1 := Lib.hid (show wr.drew.ownsRow (W1.heap.size + 1) 82 2 g l.length (gapV l) from hown)
      have Z1 := Lib.hid (show EC wr.drew w.heap.size (edC ed0 nilS) from hz)
      have K1 := Lib.hid (hk.trans (RdKeep.of_below (Below.drew (Below.refl _ _)) (by omega)))
      have HWL := Lib.hid hwl
      have G1 := Lib.hid (HG.out.keep K1.out.low hB)
      have hs1 : B ≤ wr.drew.heap.size := by show B ≤ wr.heap.size; omega
      clear hrg hrd hec hown hz hk hwl
      go_wp2
      go_region_law (first
        | (refine step_append_lies _ (by rfl) _ _ _ (by rfl) (W1.heap.size + 1) 82 i0 _ 2 16 Tryz.underlying29 I0.out I1.out I2.out I3.out rfl (by omega) g l.length (gapV l) (by rfl) (O3.out.alloc _) ⟨W3.heap.size, 0, none⟩ 1 1 [.int .i64 (rI r1).1, .int .i64 (rI (rI r1).2).1] (by rfl) (by rfl) (World.news_of_block (cs := #[.int .i64 (rI r1).1, .int .i64 (rI (rI r1).2).1]) (t := 82) (fr := (0, 0)) (World.alloc_heap_new W3 _)) (by simp [Value.oneCell']) (by omega) (by unfold maxLen; omega) (by omega) (by simp; omega) (W3.heap.size + 1) (by simp) ?_; intro gg cap w4 hown4 hgrow hat hlt4; have B4 := Lib.hid ((Below.refl (W1.heap.size + 1) _).grown hgrow (by simp; omega) (owns_base O3.out)); have H4 := Lib.hid ((H3.out.alloc _).low B4.out (by omega)); have C4 := Lib.hid ((B4.out.block _ (by omega)).trans (C3.out.alloc _)); have Z4 := Lib.hid ((B4.out.block _ (by omega)).trans (Z3.out.alloc _)); have K4 := Lib.hid ((K3.out.alloc (by omega) _).step B4.out (by omega) (by omega)); have O4 := Lib.hid hown4; have c4 := EC.cell C4.out 22; have f4 := EC.frozen C4.out 22; rw [edC_22] at c4; clear hown4 hgrow hat hlt4)
        | (go_simp; go_at_call 30; refine (rdint_any B w.heap.size b (rI r1).2 W2 H2.out G2.out hB hs2).mono ?_; rintro e W3 ⟨rfl, h3, k3⟩; have H3 := Lib.hid h3; have C3 := Lib.hid (C2.out.keep k3 (by omega)); have Z3 := Lib.hid (Z2.out.keep k3 (by omega)); have K3 := Lib.hid (K2.out.trans k3); have O3 := Lib.hid (owns_keep O2.out k3 (by omega)); have c3 := C3.out.cell 22; have hY3 := C3.out.lt; have hs3 : W2.heap.size ≤ W3.heap.size := k3.low.size; rw [edC_22] at c3; clear h3 k3)
        | (go_simp; go_at_call 30; refine (rdint_any B w.heap.size b r1 wr.drew H1.out G1.out hB hs1).mono ?_; rintro e W2 ⟨rfl, h2, k2⟩; have H2 := Lib.hid h2; have C2 := Lib.hid (C1.out.keep k2 (by omega)); have Z2 := Lib.hid (Z1.out.keep k2 (by omega)); have K2 := Lib.hid (K1.out.trans k2); have O2 := Lib.hid (owns_keep O1.out k2 (by omega)); have G2 := Lib.hid (HG.out.keep K2.out.low hB); have c2 := C2.out.cell 22; have hY2 := C2.out.lt; have hs2' := k2.low.size; have hs2 : B ≤ W2.heap.size := (by omega); rw [edC_22] at c2; clear h2 k2))
      all_goals go_wp2
      all_goals
        obtain ⟨q1, q2⟩ := BarR.next HRG.out hn hw H4.out C4.out O4.out hlen Z4.out K4.out hYw hBw
        refine ⟨q1, ?_⟩
        rw [HWL.out]
        exact q2
    · have hw0 : r1.1 = [] := List.length_eq_zero_iff.1 (by omega)
      have c0' : wr.cell? ⟨b, 0, none⟩ = some (.slice A 0 cp) := by rw [c0, hw0]; rfl
      have HEND := Lib.hid (show rG r0.1.length r0 = (l, r1) by rw [hrg, rG_nil hw0]; simp)
      obtain ⟨ga, gc, rfl, hgap⟩ := gapAt_of_owns hown
      have HGAP := Lib.hid hgap
      have C1 := Lib.hid hec
      have Z1 := Lib.hid hz
      have H1 := Lib.hid hrd
      have K1 := Lib.hid hk
      have hYr := hec.lt
      clear c0 hrg hrd hec hown hz hk hwl hw hw0 hgap
      go_wp2_with (first
        | (refine wpList_load_row rfl 39 _ rfl _ rfl 39 _ (0, 0) _ (EC.heap C1.out) Tryz.underlying39 rfl (by kernel_rfl) ?_)
        | (refine wpList_store_row rfl 39 _ _ rfl _ _ rfl rfl 39 _ (EC.heap Z1.out) (by kernel_rfl) (by kernel_rfl) (by kernel_rfl) ?_))
      refine bodyPost_ret (results_cell_row rfl _ _ _ _ _ (0, 0) _ rfl (setRow_heap (EC.heap Z1.out) _) Tryz.underlying39 rfl (by kernel_rfl)) rfl ⟨ga, gc, congrArg (fun c => Ending.returned (.agg c)) ?_, ?_, ?_, ?_⟩
      · rw [HE.out, HEND.out]; kernel_rfl
      · rw [HE.out, HEND.out]
        intro w2 hw2 hz2
        have hzr : wr.heap.size = (wr.setRow w.heap.size (edC E (.slice ga l.length gc))).heap.size := by simp [World.setRow]
        refine HGAP.out _ (fun k hk hkl => ?_) (by rw [hzr]; exact hz2)
        rw [hw2 k (by omega) (by rw [← hzr]; exact hkl)]
        simp only [World.setRow, Array.getElem?_modify]; rw [if_neg (by omega)]
      · rw [HE.out, HEND.out]; exact RdAt.row H1.out (Nat.le_refl _) _
      · exact RdKeep.row K1.out (Nat.le_refl _) (by omega) _
end Go.Proofs.YtbnnccnicfddlaaGreatDoor
