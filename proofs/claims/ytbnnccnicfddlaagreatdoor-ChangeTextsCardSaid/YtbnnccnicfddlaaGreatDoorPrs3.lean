/- change.Parse: the walk. -/
import Derived.Test.YtbnnccnicfddlaaGreatDoorPrs2
import Derived.Test.YtbnnccnicfddlaaGreatDoorTxt2
import Derived.Laws.ResultCell
set_option linter.unusedSimpArgs false
set_option linter.unusedVariables false
namespace Go.Proofs.YtbnnccnicfddlaaGreatDoor
open Go.RowKit Go.Shelf Kp
attribute [local go_sem] edC_size setRow_at setRow_past setRow_drew setRow_drewN

theorem results_edit2 {fn : Func} {p u : Tmp} (h : fn.results = #[.cell p 39, .tmp u]) (tmps : Array Value) (w : World) (g : Nat) (cs : Array Value)
    (hp : tmps.getD p undef = .pointer (some ⟨g, 0, none⟩)) (hg : w.heap[g]? = some (.cells cs 39 (0, 0))) (hi : (Tryz.prog.info? 39).map (·.size) = some cs.size) :
    (results fn tmps).run Tryz.prog w = .ok (.tuple #[.agg cs, tmps.getD u undef]) w := by
  have hp' : tmps[p]?.getD undef = .pointer (some ⟨g, 0, none⟩) := by simpa using hp
  have hl := run_loadVar_row (P := Tryz.prog) w g 39 39 cs (0, 0) _ hg Tryz.underlying39 rfl hi
  simp [results, h, hp', asAddr, hl, Result.andThen]

/-- what Parse leaves -/
def PsPost (w : World) (p : Ed × Int) (r : Ending) (w' : World) : Prop :=
  ∃ ga gc, r = .returned (.tuple #[.agg (edC p.1 (.slice ga p.1.gaps.length gc)), .int .i64 p.2]) ∧ GapAt w' w'.heap.size ga gc p.1.gaps ∧ Below w.heap.size w w'

theorem splits_few (s : By) (hs : s.length ≤ 65536) : (Lib.split s [32]).length ≤ 65537 := by
  have hc : Lib.countB (tx s) (tx [32]) = Lib.count s [32] := by unfold Lib.countB; rw [tx_list, tx_list]
  rw [split_len, hc, Lib.count_one]
  have := List.count_le_length (a := (32 : UInt8)) (l := s)
  omega
theorem rd_new (w : World) (ws : List By) (h1 : ws.length ≤ 1000000) (h2 : ∀ x ∈ ws, x.length ≤ 100000) :
    RdAt w.heap.size (((w.alloc (.cells (edC ed0 nilS) 39)).alloc (.cells (strV ws).toArray 9)).alloc (.cells #[.slice (some ⟨w.heap.size + 1, 0, none⟩) (ws).length (ws).length, .bool false] 70)).heap.size (w.heap.size + 1 + 1) (ws, false) (((w.alloc (.cells (edC ed0 nilS) 39)).alloc (.cells (strV ws).toArray 9)).alloc (.cells #[.slice (some ⟨w.heap.size + 1, 0, none⟩) (ws).length (ws).length, .bool false] 70)) := by
  have hb := World.alloc_heap_new ((w.alloc (.cells (edC ed0 nilS) 39)).alloc (.cells (strV ws).toArray 9)) (.cells #[.slice (some ⟨w.heap.size + 1, 0, none⟩) ws.length ws.length, .bool false] 70)
  have hc : (((w.alloc (.cells (edC ed0 nilS) 39)).alloc (.cells (strV ws).toArray 9)).alloc (.cells #[.slice (some ⟨w.heap.size + 1, 0, none⟩) (ws).length (ws).length, .bool false] 70)).heap[w.heap.size + 1]? = some (.cells (strV ws).toArray 9) := by
    rw [heap_alloc_old _ _ (by simp)]
    have := World.alloc_heap_new (w.alloc (.cells (edC ed0 nilS) 39)) (.cells (strV ws).toArray 9)
    rw [World.size_alloc] at this
    exact this
  simp only [World.size_alloc] at hb
  refine ⟨by omega, by simp, ⟨w.heap.size + 1, 0, ws.length, hb, by omega, by simp, Nat.le_refl _, h1, ⟨_, hc⟩, fun j hj => ?_⟩, h2⟩
  have hj' : j < ws.length := hj
  rw [Nat.zero_add, RowAt.cell (l := strV ws) hc j]
  simp [hj']

theorem prs_of {s : By} {E : Ed} {R : Rdr} (hs : s.length ≤ 65536) (hER : rE (Lib.split s [32], false) = (E, R)) :
    prs chkR s = if R.2 = true ∨ ¬ R.1 = [] then (ed0, 3) else if ¬ txt chkR E = (s, 0) then (ed0, 3) else (E, 0) := by
  unfold prs
  rw [if_neg (by omega), hER]

set_option maxRecDepth 100000 in
set_option maxHeartbeats 8000000 in
theorem parse_any (s : By) (w : World) (hs : s.length ≤ 65536) (hx : ∀ x ∈ Lib.split s [32], x.length ≤ 1000) (hg : Gl w) (hB : 9 ≤ w.heap.size) :
    Calls Tryz.prog 7 #[.string (tx s)] w (PsPost w (prs chkR s)) := by
  have hB0 : Below w.heap.size w (w.alloc (.cells (edC ed0 nilS) 39)) := (Below.refl _ _).alloc (Nat.le_refl _) _
  have hB2 : Below w.heap.size w (((w.alloc (.cells (edC ed0 nilS) 39)).alloc (.cells (strV (Lib.split s [32])).toArray 9)).alloc (.cells #[.slice (some ⟨w.heap.size + 1, 0, none⟩) ((Lib.split s [32])).length ((Lib.split s [32])).length, .bool false] 70)) := (hB0.alloc (by simp) _).alloc (by simp; omega) _
  have csp := Lib.hid (split_any s (w.alloc (.cells (edC ed0 nilS) 39)) hs (hg.keep hB0 hB).maxl)
  obtain ⟨E, R, hER⟩ : ∃ E R, rE (Lib.split s [32], false) = (E, R) := ⟨_, _, rfl⟩
  have hsz : Sized E := by have := sized_read (Lib.split s [32], false) hx; rw [hER] at this; exact this
  have HP := Lib.hid (prs_of hs hER)
  have cr : Calls Tryz.prog 18 #[slf (w.heap.size + 1 + 1)] (((w.alloc (.cells (edC ed0 nilS) 39)).alloc (.cells (strV (Lib.split s [32])).toArray 9)).alloc (.cells #[.slice (some ⟨w.heap.size + 1, 0, none⟩) ((Lib.split s [32])).length ((Lib.split s [32])).length, .bool false] 70)) (fun e w' => ∃ ga gc, e = .returned (.agg (edC E (.slice ga E.gaps.length gc))) ∧ (∀ w2 : World, (∀ k, (((w.alloc (.cells (edC ed0 nilS) 39)).alloc (.cells (strV (Lib.split s [32])).toArray 9)).alloc (.cells #[.slice (some ⟨w.heap.size + 1, 0, none⟩) ((Lib.split s [32])).length ((Lib.split s [32])).length, .bool false] 70)).heap.size ≤ k → k < w'.heap.size → w2.heap[k]? = w'.heap[k]?) → w'.heap.size ≤ w2.heap.size → GapAt w2 w2.heap.size ga gc E.gaps) ∧ RdAt w.heap.size (((w.alloc (.cells (edC ed0 nilS) 39)).alloc (.cells (strV (Lib.split s [32])).toArray 9)).alloc (.cells #[.slice (some ⟨w.heap.size + 1, 0, none⟩) ((Lib.split s [32])).length ((Lib.split s [32])).length, .bool false] 70)).heap.size (w.heap.size + 1 + 1) R w' ∧ RdKeep w.heap.size (w.heap.size + 1 + 1) (((w.alloc (.cells (edC ed0 nilS) 39)).alloc (.cells (strV (Lib.split s [32])).toArray 9)).alloc (.cells #[.slice (some ⟨w.heap.size + 1, 0, none⟩) ((Lib.split s [32])).length ((Lib.split s [32])).length, .bool false] 70)) w') := by
    refine (read_any w.heap.size (w.heap.size + 1 + 1) (Lib.split s [32], false) _ (rd_new w _ (by have := splits_few s hs; omega) (fun x h => by have := hx x h; omega)) (hg.keep hB2 hB) hB (by simp; omega)).mono ?_
    rintro e w' ⟨ga, gc, h1, h2, h3, h4⟩
    rw [hER] at h1 h2 h3
    exact ⟨ga, gc, h1, h2, h3, h4⟩
  have CR := Lib.hid cr
  have HG := Lib.hid hg
  have HSZ := Lib.hid hsz
  have Z2 := Lib.hid (show EC (((w.alloc (.cells (edC ed0 nilS) 39)).alloc (.cells (strV (Lib.split s [32])).toArray 9)).alloc (.cells #[.slice (some ⟨w.heap.size + 1, 0, none⟩) ((Lib.split s [32])).length ((Lib.split s [32])).length, .bool false] 70)) w.heap.size (edC ed0 nilS) from ((EC.new w _).alloc _).alloc _)
  have HB2 := Lib.hid hB2
  clear hg hB0 hx hB2 hER cr hsz
  by_cases hwr : R.2 = true
  · have HPP := Lib.hid (HP.out.trans (if_pos (Or.inl hwr)))
    clear HP
    have HP := HPP
    go_enter Tryz.func7, Tryz.ntmps7
    go_wp2_with (first
      | (go_at_call 17; refine csp.out.mono ?_; rintro e W1 ⟨rfl, hW1⟩; subst hW1)
      | (go_at_call 18; go_must (refine CR.out.mono ?_); rintro e W3 ⟨ga, gc, rfl, hgap, hrd, hkp⟩; obtain ⟨c1, _, A, cp, c0⟩ := (hrd.alloc (.cells (edC E (.slice ga E.gaps.length gc)) 39)).cells; have HGAP := Lib.hid hgap; have hz3 := hkp.low.size; simp only [World.size_alloc] at hz3; have Z3 := Lib.hid ((Z2.out.keep hkp (by omega)).alloc (.cells (edC E (.slice ga E.gaps.length gc)) 39)); have C3 := Lib.hid (EC.new W3 (edC E (.slice ga E.gaps.length gc))); have L3 := Lib.hid ((HB2.out.trans hkp.low).alloc (by omega) (.cells (edC E (.slice ga E.gaps.length gc)) 39)); rw [hwr] at c1; clear hgap hrd hkp)
      | (refine wpList_build rfl 39 _ rfl (by kernel_rfl) ?_; rw [show Value.agg (Option.getD (Tryz.prog.built 39 _) #[]) = .agg (edC ed0 nilS) from by kernel_rfl])
      | (refine wpList_store_row rfl 39 _ _ rfl _ _ rfl rfl 39 _ (EC.heap Z3.out) (by kernel_rfl) (by kernel_rfl) (by kernel_rfl) ?_)
      | (refine wpList_store_row rfl 39 _ _ rfl _ _ rfl rfl 39 _ (World.alloc_heap_new W3 _) (by kernel_rfl) (by kernel_rfl) (by kernel_rfl) ?_))
    refine bodyPost_ret (results_edit2 rfl _ _ _ _ rfl (setRow_heap (EC.heap Z3.out) _) (by kernel_rfl)) rfl ?_
    rw [HP.out]
    exact ⟨none, 0, rfl, gapAt_nil _ _, below_setRow L3.out (Nat.le_refl _) _⟩
  have hwr' : R.2 = false := by cases h : R.2 with | true => exact absurd h hwr | false => rfl
  clear hwr
  by_cases hle : 0 < R.1.length
  · have HPP := Lib.hid (HP.out.trans (if_pos (Or.inr (fun h => by rw [h] at hle; simp at hle))))
    clear HP
    have HP := HPP
    go_enter Tryz.func7, Tryz.ntmps7
    go_wp2_with (first
      | (go_at_call 17; refine csp.out.mono ?_; rintro e W1 ⟨rfl, hW1⟩; subst hW1)
      | (go_at_call 18; go_must (refine CR.out.mono ?_); rintro e W3 ⟨ga, gc, rfl, hgap, hrd, hkp⟩; obtain ⟨c1, _, A, cp, c0⟩ := (hrd.alloc (.cells (edC E (.slice ga E.gaps.length gc)) 39)).cells; have HGAP := Lib.hid hgap; have hz3 := hkp.low.size; simp only [World.size_alloc] at hz3; have Z3 := Lib.hid ((Z2.out.keep hkp (by omega)).alloc (.cells (edC E (.slice ga E.gaps.length gc)) 39)); have C3 := Lib.hid (EC.new W3 (edC E (.slice ga E.gaps.length gc))); have L3 := Lib.hid ((HB2.out.trans hkp.low).alloc (by omega) (.cells (edC E (.slice ga E.gaps.length gc)) 39)); rw [hwr'] at c1; clear hgap hrd hkp)
      | (refine wpList_build rfl 39 _ rfl (by kernel_rfl) ?_; rw [show Value.agg (Option.getD (Tryz.prog.built 39 _) #[]) = .agg (edC ed0 nilS) from by kernel_rfl])
      | (refine wpList_store_row rfl 39 _ _ rfl _ _ rfl rfl 39 _ (EC.heap Z3.out) (by kernel_rfl) (by kernel_rfl) (by kernel_rfl) ?_)
      | (refine wpList_store_row rfl 39 _ _ rfl _ _ rfl rfl 39 _ (World.alloc_heap_new W3 _) (by kernel_rfl) (by kernel_rfl) (by kernel_rfl) ?_))
    refine bodyPost_ret (results_edit2 rfl _ _ _ _ rfl (setRow_heap (EC.heap Z3.out) _) (by kernel_rfl)) rfl ?_
    rw [HP.out]
    exact ⟨none, 0, rfl, gapAt_nil _ _, below_setRow L3.out (Nat.le_refl _) _⟩
  have hr0 : R.1 = [] := List.length_eq_zero_iff.1 (by omega)
  have HP1 := Lib.hid (HP.out.trans (if_neg (fun h => h.elim (fun h => by rw [hwr'] at h; cases h) (fun h => h hr0))))
  clear HP hle
  have hl0 : R.1.length = 0 := by rw [hr0]; rfl
  have HL0 := Lib.hid hl0
  have HW0 := Lib.hid hwr'
  obtain ⟨t, x, htx⟩ : ∃ t x, txt chkR E = (t, x) := ⟨_, _, rfl⟩
  have HTX := Lib.hid htx
  clear hl0 hwr' hr0 htx
  by_cases hx0 : x = 0
  · by_cases hts : t = s
    · have HP := Lib.hid (HP1.out.trans (if_neg (fun h => h (by rw [HTX.out, hx0, hts]))))
      subst hts hx0
      go_enter Tryz.func7, Tryz.ntmps7
      go_wp2_with (first
        | (go_at_call 17; refine csp.out.mono ?_; rintro e W1 ⟨rfl, hW1⟩; subst hW1)
        | (go_at_call 18; go_must (refine CR.out.mono ?_); rintro e W3 ⟨ga, gc, rfl, hgap, hrd, hkp⟩; obtain ⟨c1, _, A, cp, c0⟩ := (hrd.alloc (.cells (edC E (.slice ga E.gaps.length gc)) 39)).cells; have HGAP := Lib.hid hgap; have hz3 := hkp.low.size; simp only [World.size_alloc] at hz3; have Z3 := Lib.hid ((Z2.out.keep hkp (by omega)).alloc (.cells (edC E (.slice ga E.gaps.length gc)) 39)); have C3 := Lib.hid (EC.new W3 (edC E (.slice ga E.gaps.length gc))); have L3 := Lib.hid ((HB2.out.trans hkp.low).alloc (by omega) (.cells (edC E (.slice ga E.gaps.length gc)) 39)); rw [HW0.out] at c1; rw [HL0.out] at c0; have G3 := Lib.hid (HG.out.keep L3.out hB); have hgp := HGAP.out (W3.alloc (.cells (edC E (.slice ga E.gaps.length gc)) 39)) (fun k _ hk => heap_alloc_old _ _ hk) (by simp); have ctx := Lib.hid (text_any (W3.alloc (.cells (edC E (.slice ga E.gaps.length gc)) 39)) E ga gc hgp HSZ.out G3.out (by simp; omega)); clear hgp; clear hgap hrd hkp)
        | (go_at_call 6; go_must (refine ctx.out.mono ?_); rintro r W5 ⟨rfl, hB5⟩; rw [HTX.out]; have Z5 := Lib.hid (show EC W5 w.heap.size (edC ed0 nilS) from (hB5.block _ Z3.out.lt).trans Z3.out); have C5 := Lib.hid (show EC W5 W3.heap.size (edC E (.slice ga E.gaps.length gc)) from (hB5.block _ C3.out.lt).trans C3.out); have L5 := Lib.hid (L3.out.trans (hB5.mono L3.out.size)); have HB5 := Lib.hid hB5; have hz5 := hB5.size; simp only [World.size_alloc] at hz5; clear hB5)
        | (refine wpList_store_row rfl 39 _ _ rfl _ _ rfl rfl 39 _ (EC.heap Z5.out) (by kernel_rfl) (by kernel_rfl) (by kernel_rfl) ?_)
        | (refine wpList_load_row rfl 39 _ rfl _ rfl 39 _ (0, 0) _ (EC.heap C5.out) Tryz.underlying39 rfl (by kernel_rfl) ?_)
        | (refine wpList_load_row rfl 39 _ rfl _ rfl 39 _ (0, 0) _ (EC.heap C3.out) Tryz.underlying39 rfl (by kernel_rfl) ?_)
        | (refine wpList_store_row rfl 39 _ _ rfl _ _ rfl rfl 39 _ (World.alloc_heap_new W3 _) (by kernel_rfl) (by kernel_rfl) (by kernel_rfl) ?_))
      refine bodyPost_ret (results_edit2 rfl _ _ _ _ rfl (setRow_heap (EC.heap Z5.out) _) (by kernel_rfl)) rfl ?_
      rw [HP.out]
      refine ⟨ga, gc, rfl, HGAP.out _ (fun k hk hk3 => ?_) ?_, below_setRow L5.out (Nat.le_refl _) _⟩
      · simp only [World.size_alloc] at hk
        have hq : (W5.setRow w.heap.size (edC E (.slice ga E.gaps.length gc))).heap[k]? = W5.heap[k]? := by simp only [World.setRow, Array.getElem?_modify]; rw [if_neg (by omega)]
        exact hq.trans ((HB5.out.block k (by simp; omega)).trans (heap_alloc_old _ _ hk3))
      · simp [World.setRow]; omega
    · have HP := Lib.hid (HP1.out.trans (if_pos (fun h => by rw [HTX.out] at h; exact hts (Prod.mk.inj h).1)))
      have hne2 : (t == s) = false := by rw [beq_eq_false_iff_ne]; exact hts
      have hne3 : (t != s) = true := by rw [bne_iff_ne]; exact hts
      subst hx0
      go_enter Tryz.func7, Tryz.ntmps7
      go_wp2_with (first
        | (go_at_call 17; refine csp.out.mono ?_; rintro e W1 ⟨rfl, hW1⟩; subst hW1)
        | (go_at_call 18; go_must (refine CR.out.mono ?_); rintro e W3 ⟨ga, gc, rfl, hgap, hrd, hkp⟩; obtain ⟨c1, _, A, cp, c0⟩ := (hrd.alloc (.cells (edC E (.slice ga E.gaps.length gc)) 39)).cells; have HGAP := Lib.hid hgap; have hz3 := hkp.low.size; simp only [World.size_alloc] at hz3; have Z3 := Lib.hid ((Z2.out.keep hkp (by omega)).alloc (.cells (edC E (.slice ga E.gaps.length gc)) 39)); have C3 := Lib.hid (EC.new W3 (edC E (.slice ga E.gaps.length gc))); have L3 := Lib.hid ((HB2.out.trans hkp.low).alloc (by omega) (.cells (edC E (.slice ga E.gaps.length gc)) 39)); rw [HW0.out] at c1; rw [HL0.out] at c0; have G3 := Lib.hid (HG.out.keep L3.out hB); have hgp := HGAP.out (W3.alloc (.cells (edC E (.slice ga E.gaps.length gc)) 39)) (fun k _ hk => heap_alloc_old _ _ hk) (by simp); have ctx := Lib.hid (text_any (W3.alloc (.cells (edC E (.slice ga E.gaps.length gc)) 39)) E ga gc hgp HSZ.out G3.out (by simp; omega)); clear hgp; clear hgap hrd hkp)
        | (refine wpList_build rfl 39 _ rfl (by kernel_rfl) ?_; rw [show Value.agg (Option.getD (Tryz.prog.built 39 _) #[]) = .agg (edC ed0 nilS) from by kernel_rfl])
        | (go_at_call 6; go_must (refine ctx.out.mono ?_); rintro r W5 ⟨rfl, hB5⟩; rw [HTX.out]; have Z5 := Lib.hid (show EC W5 w.heap.size (edC ed0 nilS) from (hB5.block _ Z3.out.lt).trans Z3.out); have C5 := Lib.hid (show EC W5 W3.heap.size (edC E (.slice ga E.gaps.length gc)) from (hB5.block _ C3.out.lt).trans C3.out); have L5 := Lib.hid (L3.out.trans (hB5.mono L3.out.size)); have HB5 := Lib.hid hB5; have hz5 := hB5.size; simp only [World.size_alloc] at hz5; clear hB5)
        | (refine wpList_load_row rfl 39 _ rfl _ rfl 39 _ (0, 0) _ (EC.heap C3.out) Tryz.underlying39 rfl (by kernel_rfl) ?_)
        | (refine wpList_store_row rfl 39 _ _ rfl _ _ rfl rfl 39 _ (EC.heap Z5.out) (by kernel_rfl) (by kernel_rfl) (by kernel_rfl) ?_)
        | (refine wpList_store_row rfl 39 _ _ rfl _ _ rfl rfl 39 _ (World.alloc_heap_new W3 _) (by kernel_rfl) (by kernel_rfl) (by kernel_rfl) ?_))
      refine bodyPost_ret (results_edit2 rfl _ _ _ _ rfl (setRow_heap (EC.heap Z5.out) _) (by kernel_rfl)) rfl ?_
      rw [HP.out]
      exact ⟨none, 0, rfl, gapAt_nil _ _, below_setRow L5.out (Nat.le_refl _) _⟩
  · have HP := Lib.hid (HP1.out.trans (if_pos (fun h => by rw [HTX.out] at h; exact hx0 (Prod.mk.inj h).2)))
    have hxn : (x != 0) = true := by rw [bne_iff_ne]; exact hx0
    clear hx0
    go_enter Tryz.func7, Tryz.ntmps7
    go_wp2_with (first
      | (go_at_call 17; refine csp.out.mono ?_; rintro e W1 ⟨rfl, hW1⟩; subst hW1)
      | (go_at_call 18; go_must (refine CR.out.mono ?_); rintro e W3 ⟨ga, gc, rfl, hgap, hrd, hkp⟩; obtain ⟨c1, _, A, cp, c0⟩ := (hrd.alloc (.cells (edC E (.slice ga E.gaps.length gc)) 39)).cells; have HGAP := Lib.hid hgap; have hz3 := hkp.low.size; simp only [World.size_alloc] at hz3; have Z3 := Lib.hid ((Z2.out.keep hkp (by omega)).alloc (.cells (edC E (.slice ga E.gaps.length gc)) 39)); have C3 := Lib.hid (EC.new W3 (edC E (.slice ga E.gaps.length gc))); have L3 := Lib.hid ((HB2.out.trans hkp.low).alloc (by omega) (.cells (edC E (.slice ga E.gaps.length gc)) 39)); rw [HW0.out] at c1; rw [HL0.out] at c0; have G3 := Lib.hid (HG.out.keep L3.out hB); have hgp := HGAP.out (W3.alloc (.cells (edC E (.slice ga E.gaps.length gc)) 39)) (fun k _ hk => heap_alloc_old _ _ hk) (by simp); have ctx := Lib.hid (text_any (W3.alloc (.cells (edC E (.slice ga E.gaps.length gc)) 39)) E ga gc hgp HSZ.out G3.out (by simp; omega)); clear hgp; clear hgap hrd hkp)
      | (refine wpList_build rfl 39 _ rfl (by kernel_rfl) ?_; rw [show Value.agg (Option.getD (Tryz.prog.built 39 _) #[]) = .agg (edC ed0 nilS) from by kernel_rfl])
      | (go_at_call 6; go_must (refine ctx.out.mono ?_); rintro r W5 ⟨rfl, hB5⟩; rw [HTX.out]; have Z5 := Lib.hid (show EC W5 w.heap.size (edC ed0 nilS) from (hB5.block _ Z3.out.lt).trans Z3.out); have C5 := Lib.hid (show EC W5 W3.heap.size (edC E (.slice ga E.gaps.length gc)) from (hB5.block _ C3.out.lt).trans C3.out); have L5 := Lib.hid (L3.out.trans (hB5.mono L3.out.size)); have HB5 := Lib.hid hB5; have hz5 := hB5.size; simp only [World.size_alloc] at hz5; clear hB5)
      | (refine wpList_load_row rfl 39 _ rfl _ rfl 39 _ (0, 0) _ (EC.heap C3.out) Tryz.underlying39 rfl (by kernel_rfl) ?_)
      | (refine wpList_store_row rfl 39 _ _ rfl _ _ rfl rfl 39 _ (EC.heap Z5.out) (by kernel_rfl) (by kernel_rfl) (by kernel_rfl) ?_)
      | (refine wpList_store_row rfl 39 _ _ rfl _ _ rfl rfl 39 _ (World.alloc_heap_new W3 _) (by kernel_rfl) (by kernel_rfl) (by kernel_rfl) ?_))
    refine bodyPost_ret (results_edit2 rfl _ _ _ _ rfl (setRow_heap (EC.heap Z5.out) _) (by kernel_rfl)) rfl ?_
    rw [HP.out]
    exact ⟨none, 0, rfl, gapAt_nil _ _, below_setRow L5.out (Nat.le_refl _) _⟩
end Go.Proofs.YtbnnccnicfddlaaGreatDoor
