/- change.reader.read of sizes: the walk. -/
import Derived.Test.YtbnnccnicfddlaaGreatDoorRd2
set_option linter.unusedSimpArgs false
set_option linter.unusedVariables false
namespace Go.Proofs.YtbnnccnicfddlaaGreatDoor
open Go.RowKit Go.Shelf Kp
attribute [local go_sem] edC_size edC_0 edC_1 edC_2 edC_3 edC_4 edC_5 edC_6 edC_7 edC_8 edC_9 edC_10 edC_11 edC_12 edC_13 edC_14 edC_15 edC_16 edC_17 edC_18 edC_19 edC_20 edC_21 edC_22 edC_23 edC_24 edC_25 edC_26 edC_27 edC_28 edC_29 edC_30 edC_31 edC_32 edC_33 edC_34 edC_35 edC_36 edK_kind setRow_at setRow_past setRow_drew setRow_drewN
theorem tx_inj (a b : By) : (tx a = tx b) ↔ a = b := by
  constructor
  · intro h
    have := congrArg (fun x : ByteArray => x.data.toList) h
    simpa using this
  · intro h; rw [h]
theorem idx_kind (s : By) : Lib.idxOfS ((kindWs.map tx).take 12) (tx s) = indexW s := by
  by_cases hcommon : s = [99, 111, 109, 109, 111, 110]
  · subst hcommon; decide +kernel
  by_cases hhipjack : s = [104, 105, 112, 106, 97, 99, 107]
  · subst hhipjack; decide +kernel
  by_cases hvalleyjack : s = [118, 97, 108, 108, 101, 121, 106, 97, 99, 107]
  · subst hvalleyjack; decide +kernel
  by_cases hcripple : s = [99, 114, 105, 112, 112, 108, 101]
  · subst hcripple; decide +kernel
  by_cases hother : s = [111, 116, 104, 101, 114]
  · subst hother; decide +kernel
  by_cases hhip : s = [104, 105, 112]
  · subst hhip; decide +kernel
  by_cases hvalley : s = [118, 97, 108, 108, 101, 121]
  · subst hvalley; decide +kernel
  by_cases hridge : s = [114, 105, 100, 103, 101]
  · subst hridge; decide +kernel
  by_cases hpurlin : s = [112, 117, 114, 108, 105, 110]
  · subst hpurlin; decide +kernel
  by_cases hplate : s = [112, 108, 97, 116, 101]
  · subst hplate; decide +kernel
  by_cases htrimmer : s = [116, 114, 105, 109, 109, 101, 114]
  · subst htrimmer; decide +kernel
  by_cases hheader : s = [104, 101, 97, 100, 101, 114]
  · subst hheader; decide +kernel
  have hn : s ∉ kindWs := by unfold kindWs; simp only [List.mem_cons, List.not_mem_nil, or_false, not_or]; exact ⟨hcommon, hhipjack, hvalleyjack, hcripple, hother, hhip, hvalley, hridge, hpurlin, hplate, htrimmer, hheader⟩
  unfold indexW
  rw [if_neg hn]
  unfold Lib.idxOfS kindWs
  simp only [List.map_cons, List.map_nil, List.take_succ_cons, List.take_nil, List.take_zero, Lib.idxFromS, tx_inj]
  simp [Ne.symm hcommon, Ne.symm hhipjack, Ne.symm hvalleyjack, Ne.symm hcripple, Ne.symm hother, Ne.symm hhip, Ne.symm hvalley, Ne.symm hridge, Ne.symm hpurlin, Ne.symm hplate, Ne.symm htrimmer, Ne.symm hheader]
theorem indexW_bound (s : By) : -1 ≤ indexW s ∧ indexW s ≤ 12 := by
  unfold indexW
  split
  · rename_i h
    have := List.idxOf_lt_length_iff.2 h
    have hl : kindWs.length = 12 := rfl
    omega
  · omega

set_option maxRecDepth 100000 in
set_option maxHeartbeats 8000000 in
theorem read_6 (B b : Nat) (r : Rdr) (w : World) (h : RdAt B w.heap.size b r w) (hk : kindOf (rW r).1 = 6) (hg : Gl w) (hB : 9 ≤ B) (hBw : B ≤ w.heap.size) :
    Calls Tryz.prog 18 #[slf b] w (RePost B w.heap.size b r w) := by
  have hbl := h.hi
  have H0 := Lib.hid h
  have HG := Lib.hid hg
  have HK := Lib.hid hk
  have hib := indexW_bound (rW (rW r).2).1
  have hwr : IntKind.i64.wrap (1 + indexW (rW (rW r).2).1) = 1 + indexW (rW (rW r).2).1 := wr64 (by omega) (by omega)
  have HE := Lib.hid (show rE r = ({ edK 6 with zkind := 1 + indexW (rW (rW r).2).1, zwidth := (rI (rW (rW r).2).2).1, zdepth := (rI (rI (rW (rW r).2).2).2).1 }, (rI (rI (rW (rW r).2).2).2).2) by simp only [rE, hk]; rfl)
  clear h hg hk
  go_enter Tryz.func18, Tryz.ntmps18
  go_wp2_with (first
    | (go_at_call 30; refine (rdint_any B w.heap.size b _ _ H4.out (HG.out.keep (RdKeep.low K4.out) hB) hB (by first | omega | (simp; done) | (simp; omega) | (simp [World.setCell]; omega))).mono ?_; rintro e W5 ⟨rfl, h5, k5⟩; have H5 := Lib.hid h5; have C5 := Lib.hid (EC.keep (C := _) C4.out k5 (by omega)); have Z5 := Lib.hid (EC.keep (C := _) Z4.out k5 (by omega)); have K5 := Lib.hid (RdKeep.trans K4.out k5); have z5 := k5.low.size; (try simp only [World.size_alloc, World.size_setCell] at z5); have cc5 := fun i => C5.out.cell i; have cf5 := fun i => C5.out.frozen i; clear h5 k5)
    | (go_at_call 30; refine (rdint_any B w.heap.size b _ _ (H3.out.far (p := ⟨W1.heap.size, 14, none⟩) (by first | omega | (simp; omega)) (.int .i64 (1 + indexW (rW (rW r).2).1))) (HG.out.keep (RdKeep.low (K3.out.far (p := ⟨W1.heap.size, 14, none⟩) (by first | omega | (simp; omega)) (by first | omega | (simp; omega)) (.int .i64 (1 + indexW (rW (rW r).2).1)))) hB) hB (by first | omega | (simp; done) | (simp; omega) | (simp [World.setCell]; omega))).mono ?_; rintro e W4 ⟨rfl, h4, k4⟩; have H4 := Lib.hid h4; have C4 := Lib.hid (EC.keep (C := _) (C3.out.put 14 (.int .i64 (1 + indexW (rW (rW r).2).1))) k4 (by omega)); have Z4 := Lib.hid (EC.keep (C := _) (Z3.out.far (p := ⟨W1.heap.size, 14, none⟩) (by first | omega | (simp; omega)) (.int .i64 (1 + indexW (rW (rW r).2).1))) k4 (by omega)); have K4 := Lib.hid (RdKeep.trans (K3.out.far (p := ⟨W1.heap.size, 14, none⟩) (by first | omega | (simp; omega)) (by first | omega | (simp; omega)) (.int .i64 (1 + indexW (rW (rW r).2).1))) k4); have z4 := k4.low.size; (try simp only [World.size_alloc, World.size_setCell] at z4); have cc4 := fun i => C4.out.cell i; have cf4 := fun i => C4.out.frozen i; clear h4 k4)
    | (go_at_call 32; go_loud (refine (Tryz.slices_Index_string g 0 12 cap (kindWs.map tx) (tx (rW (rW r).2).1) W3 (by decide) (by decide) (fun j hj => by have hj' : j < 12 := (by simpa [kindWs] using hj); rw [G4.out j hj']; congr 2; simp only [List.getD_eq_getElem?_getD, List.getElem?_map]; have hl : j < kindWs.length := hj'; rw [List.getElem?_eq_getElem hl]; rfl)).mono ?_; rintro e W3' ⟨rfl, rfl⟩; rw [idx_kind]))
    | (go_at_call 29; go_loud (refine (rdword_any B w.heap.size b _ _ H2.out).mono ?_; rintro e W3 ⟨rfl, h3, k3⟩; have H3 := Lib.hid h3; have C3 := Lib.hid (EC.keep (C := edC (edK 6) nilS) C2.out k3 (by omega)); have Z3 := Lib.hid (EC.keep (C := edC ed0 nilS) Z2.out k3 (by omega)); have K3 := Lib.hid (K2.out.trans k3); have z3 := k3.low.size; have G4 := Lib.hid (fun (j : Nat) (hj : j < 12) => (World.cell?_of_block (a := ⟨g, 0 + j, none⟩) (k3.others g glt (by omega))).trans (by simpa using G3.out j hj)); have cc3 := fun i => C3.out.cell i; have cf3 := fun i => C3.out.frozen i; clear h3 k3))
    | (go_at_call 14; refine (kinds_any _ (HG.out.keep K1.out.low hB)).mono ?_; rintro e W2 ⟨g, cap, rfl, hg1, ⟨cur, hg2⟩, hg3, hg4, hg5, hg6⟩; have H2 := Lib.hid (H1.out.below hg6); have C2 := Lib.hid ((hg6.block _ C1.out.lt).trans C1.out.heap); have Z2 := Lib.hid ((hg6.block _ Z1.out.lt).trans Z1.out.heap); have z2 := hg6.size; have K2 := Lib.hid (K1.out.trans (RdKeep.of_below hg6 (by simp; omega))); have glt : g < W2.heap.size := (Array.getElem?_eq_some_iff.1 hg2).1; have G3 := Lib.hid hg3; simp only [World.size_alloc] at z2 hg1; clear hg2 hg3 hg6)
    | (go_at_call 28; refine (ckinds_any _).mono ?_; rintro e W0 ⟨rfl, hW0⟩; have H00 := Lib.hid (show RdAt B w.heap.size b r W0 by rw [hW0]; exact (H0.out.alloc _).alloc _); have K00 := Lib.hid (show RdKeep B b w W0 by rw [hW0]; exact ((RdKeep.refl B b w).alloc hBw _).alloc (by simp; omega) _); have M00 := Lib.hid (show W0.heap[w.heap.size + 1]? = some (.map knd12 12) by rw [hW0]; have := World.alloc_heap_new (w.alloc (.cells (edC ed0 nilS) 39)) (.map knd12 12); rw [World.size_alloc] at this; exact this); have Z00 := Lib.hid (show EC W0 w.heap.size (edC ed0 nilS) by rw [hW0]; exact (EC.new w _).alloc _); have zz0 : W0.heap.size = w.heap.size + 1 + 1 := (by rw [hW0]; simp); clear hW0)
    | (go_at_call 29; refine (rdword_any B w.heap.size b _ _ H00.out).mono ?_; rintro e W1 ⟨rfl, h1, k1⟩; have z1 := k1.low.size; have hlk := knd_look W1 (w.heap.size + 1) 12 ((k1.others _ (by omega) (by omega)).trans M00.out) (rW r).1; rw [HK.out] at hlk; have H1 := Lib.hid (h1.alloc (.cells (edC (edK 6) nilS) 39)); have C1 := Lib.hid (EC.new W1 (edC (edK 6) nilS)); have Z1 := Lib.hid ((Z00.out.keep k1 (by omega)).alloc (.cells (edC (edK 6) nilS) 39)); have K1 := Lib.hid ((K00.out.trans k1).alloc (by omega) (.cells (edC (edK 6) nilS) 39)); clear h1 k1)
    | (refine wpList_build rfl 39 _ rfl (by kernel_rfl) ?_; rw [show Value.agg (Option.getD (Tryz.prog.built 39 _) #[]) = .agg (edC (edK 6) nilS) from by kernel_rfl])
    | (refine wpList_load_row rfl 39 _ rfl _ rfl 39 _ (0, 0) _ (EC.heap ((C5.out.put 15 (.int .i64 (rI (rW (rW r).2).2).1)).put 16 (.int .i64 (rI (rI (rW (rW r).2).2).2).1))) Tryz.underlying39 rfl (by kernel_rfl) ?_)
    | (refine wpList_store_row rfl 39 _ _ rfl _ _ rfl rfl 39 _ (by first | exact (EC.heap ((Z5.out.far (p := ⟨W1.heap.size, 15, none⟩) (by first | omega | (simp; omega)) (.int .i64 (rI (rW (rW r).2).2).1)).far (p := ⟨W1.heap.size, 16, none⟩) (by first | omega | (simp; omega)) (.int .i64 (rI (rI (rW (rW r).2).2).2).1))) | exact World.alloc_heap_new W1 _) (by kernel_rfl) (by kernel_rfl) (by kernel_rfl) ?_))
  refine bodyPost_ret (results_cell_row rfl _ _ _ _ _ (0, 0) _ rfl (setRow_heap (EC.heap ((Z5.out.far (p := ⟨W1.heap.size, 15, none⟩) (by first | omega | (simp; omega)) (.int .i64 (rI (rW (rW r).2).2).1)).far (p := ⟨W1.heap.size, 16, none⟩) (by first | omega | (simp; omega)) (.int .i64 (rI (rI (rW (rW r).2).2).2).1))) _) Tryz.underlying39 rfl (by kernel_rfl)) rfl ⟨none, 0, congrArg (fun c => Ending.returned (.agg c)) ?_, ?_, ?_, ?_⟩
  · rw [HE.out]; kernel_rfl
  · rw [HE.out]; exact gapAt_nil _ _
  · rw [HE.out]; exact RdAt.row ((H5.out.far (p := ⟨W1.heap.size, 15, none⟩) (by first | omega | (simp; omega)) (.int .i64 (rI (rW (rW r).2).2).1)).far (p := ⟨W1.heap.size, 16, none⟩) (by first | omega | (simp; omega)) (.int .i64 (rI (rI (rW (rW r).2).2).2).1)) (Nat.le_refl _) _
  · exact RdKeep.row ((K5.out.far (p := ⟨W1.heap.size, 15, none⟩) (by first | omega | (simp; omega)) (by first | omega | (simp; omega)) (.int .i64 (rI (rW (rW r).2).2).1)).far (p := ⟨W1.heap.size, 16, none⟩) (by first | omega | (simp; omega)) (by first | omega | (simp; omega)) (.int .i64 (rI (rI (rW (rW r).2).2).2).1)) (Nat.le_refl _) (by omega) _
end Go.Proofs.YtbnnccnicfddlaaGreatDoor
