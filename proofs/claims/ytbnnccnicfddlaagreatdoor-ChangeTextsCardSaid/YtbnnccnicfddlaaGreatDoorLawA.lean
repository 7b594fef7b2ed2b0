/- law58.awake: the walk; small facts in plain words. · law58.ChangeTexts: the walk. -/
import Derived.Test.YtbnnccnicfddlaaGreatDoorPrs3
import Derived.Test.YtbnnccnicfddlaaGreatDoorSme
import Derived.Test.YtbnnccnicfddlaaGreatDoorGrA
set_option linter.unusedSimpArgs false
set_option linter.unusedVariables false
namespace Go.Proofs.YtbnnccnicfddlaaGreatDoor
open Go.RowKit Go.Shelf Kp
attribute [local go_sem] edC_size setRow_at setRow_past setRow_drew setRow_drewN

theorem wpList_load_rowG {ops : Array Oper} {rest : List Oper} {o : Oper} {a : Act} {w : World} {Q : Exit → Act → World → Prop} (hw : Region.wanted o (yielded ops a.tmps) = true) (x : Operand) (ho : o.op = .load 39 x)
    (g : Nat) (hx : a.eval x = .pointer (some ⟨g, 0, none⟩)) (cs : Array Value) (hg : w.heap[g]? = some (.cells cs 39 (0, 0))) (hi : (Tryz.prog.info? 39).map (·.size) = some cs.size)
    (h : wpList Tryz.prog ops Q rest (a.put o.dst (.agg cs)) w) : wpList Tryz.prog ops Q (o :: rest) a w :=
  wpList_step fun _ hK => by
    rw [if_pos hw]
    exact wp_load_row 39 x ho g hx 39 cs (0, 0) _ hg Tryz.underlying39 rfl hi (hK _ _ h)
theorem wpList_buildG {ops : Array Oper} {rest : List Oper} {o : Oper} {a : Act} {w : World} {Q : Exit → Act → World → Prop} (hw : Region.wanted o (yielded ops a.tmps) = true) (t : TypeId) (parts : Array (Nat × Operand)) (ho : o.op = .build t parts)
    (hf : (Tryz.prog.built t (parts.map fun (i, x) => (i, a.eval x)).toList).isSome = true)
    (h : wpList Tryz.prog ops Q rest (a.put o.dst (.agg ((Tryz.prog.built t (parts.map fun (i, x) => (i, a.eval x)).toList).getD #[]))) w) : wpList Tryz.prog ops Q (o :: rest) a w :=
  wpList_step fun _ hK => by
    rw [if_pos hw]
    exact wp_build t parts ho hf (hK _ _ h)

/-- the edits of the chapter's examples -/
def eKerf : Ed := { edK 8 with number := 3 }
def eRem : Ed := { edK 12 with number := 5, index := 1 }
abbrev bKerf : By := [107, 101, 114, 102, 32, 51]
abbrev bRem : By := [114, 101, 109, 111, 118, 101, 32, 111, 112, 101, 110, 105, 110, 103, 32, 49]
theorem itoa_3 : Lib.itoa 3 = [51] := by decide +kernel
theorem itoa_1 : Lib.itoa 1 = [49] := by decide +kernel
theorem txt_kerf : txt chkR eKerf = (bKerf, 0) := by
  have hf : Fine chkR eKerf := ⟨by decide, by decide, rfl, fun h => absurd h (by decide), fun h => absurd h (by decide), fun h => absurd h (by decide), by decide, by decide, rfl⟩
  rw [fine_txt hf]
  have : wordsOf eKerf = [wKerf, Lib.itoa 3] := rfl
  rw [this, itoa_3]; rfl
theorem txt_rem : txt chkR eRem = (bRem, 0) := by
  have hf : Fine chkR eRem := ⟨by decide, by decide, rfl, fun h => absurd h (by decide), fun h => absurd h (by decide), fun _ => by decide, by decide, by decide, rfl⟩
  rw [fine_txt hf]
  have : wordsOf eRem = [wRemove, wOpening, Lib.itoa 1] := rfl
  rw [this, itoa_1]; rfl
theorem prs_kerf : prs chkR bKerf = (eKerf, 0) := (prs_txt chkR_blank txt_kerf (fun a h => by cases h)).1
theorem sized_kerf : Sized eKerf := sized_of (li := [3]) (ln := []) rfl rfl (all_cons ⟨by decide, by decide⟩ (all_nil _)) (allW_nil _) (by show (0 : Nat) ≤ 1000; omega)
theorem sized_rem : Sized eRem := sized_of (li := [1]) (ln := []) rfl rfl (all_cons ⟨by decide, by decide⟩ (all_nil _)) (allW_nil _) (by show (0 : Nat) ≤ 1000; omega)
theorem split_le (n : Nat) : ∀ s : By, s.length ≤ n → ∀ x ∈ Lib.split s [32], x.length ≤ s.length := by
  induction n with
  | zero =>
    intro s hs x hx
    have : s = [] := List.length_eq_zero_iff.1 (by omega)
    subst this
    rw [split_none (by simp)] at hx
    simp at hx; rw [hx]; exact Nat.le_refl _
  | succ n ih =>
    intro s hs x hx
    by_cases hm : (32 : UInt8) ∈ s
    · obtain ⟨a, r, rfl, ha⟩ := List.eq_append_cons_of_mem hm
      rw [split_app ha] at hx
      simp only [List.length_append, List.length_cons] at hs ⊢
      rcases List.mem_cons.1 hx with rfl | hx
      · omega
      · have := ih r (by omega) x hx
        omega
    · rw [split_none hm] at hx
      simp at hx; rw [hx]; exact Nat.le_refl _
theorem split_short {s : By} {m : Nat} (hs : s.length ≤ m) : ∀ x ∈ Lib.split s [32], x.length ≤ m := fun x hx => Nat.le_trans (split_le s.length s (Nat.le_refl _) x hx) hs
theorem words_short {e : Ed} {t : By} (h : txt chkR e = (t, 0)) (hn : ∀ a ∈ numsOf e, a.length ≤ 700) : ∀ x ∈ Lib.split t [32], x.length ≤ 1000 := by
  obtain ⟨hf, rfl⟩ := txt_fine h
  rw [words_split chkR_blank hf]
  intro x hx
  unfold wordsOf at hx
  rcases List.mem_append.1 hx with hx | hx
  · rcases List.mem_append.1 hx with hx | hx
    · have := (heads_len hf).2 x hx; omega
    · unfold intW at hx
      obtain ⟨n, hm, rfl⟩ := List.mem_map.1 hx
      have ho : outI n = false := by
        have := hf.ints
        rw [List.any_eq_false] at this
        simpa using this n hm
      have := itoa_len ho; omega
  · have := hn x hx; omega

set_option maxRecDepth 100000 in
set_option maxHeartbeats 8000000 in
theorem awake_any (w : World) (hg : Gl w) (hB : 9 ≤ w.heap.size) : Calls Tryz.prog 5 #[] w fun r w' => r = .returned (.bool true) ∧ Below w.heap.size w w' := by
  have c1 := Lib.hid (text_any w eKerf none 0 (gapAt_nil _ _) sized_kerf hg hB)
  have HG := Lib.hid hg
  clear hg
  go_enter Tryz.func5, Tryz.ntmps5
  go_wp2_with (first
    | (go_at_call 8; go_loud (refine (sameedit_eq _ eKerf _ none _ 0 GP.out (gapAt_nil _ _)).mono ?_; rintro r W4 ⟨rfl, hB4⟩; have L4 := Lib.hid (L3.out.trans (hB4.mono L3.out.size)); clear hB4))
    | (go_at_call 7; go_loud (refine (parse_any bKerf W2 (by decide) (split_short (m := 1000) (by decide)) (HG.out.keep L2.out hB) (by omega)).mono ?_; rw [prs_kerf]; rintro r W3 ⟨ga, gc, rfl, hgp, hB3⟩; have C3 := Lib.hid (EC.new W3 (edC eKerf (.slice ga eKerf.gaps.length gc))); have L3 := Lib.hid ((L2.out.trans (hB3.mono L2.out.size)).alloc (by have := hB3.size; omega) (.cells (edC eKerf (.slice ga eKerf.gaps.length gc)) 39)); have GP := Lib.hid ((hgp.below ((Below.refl W3.heap.size W3).alloc (Nat.le_refl _) (.cells (edC eKerf (.slice ga eKerf.gaps.length gc)) 39))).more (by simp : W3.heap.size ≤ (W3.alloc (.cells (edC eKerf (.slice ga eKerf.gaps.length gc)) 39)).heap.size)); clear hgp hB3))
    | (go_at_call 6; refine (text_any W1 eRem none 0 (gapAt_nil _ _) sized_rem (HG.out.keep L1.out hB) (by omega)).mono ?_; rw [txt_rem]; rintro r W2 ⟨rfl, hB2⟩; have hz2 := hB2.size; have L2 := Lib.hid (L1.out.trans (hB2.mono L1.out.size)); clear hB2)
    | (go_at_call 6; go_must (refine c1.out.mono ?_); rw [txt_kerf]; rintro r W1 ⟨rfl, hB1⟩; have hz1 := hB1.size; have L1 := Lib.hid hB1; clear hB1)
    | (refine wpList_load_rowG (by rfl) _ rfl _ rfl _ (EC.heap C3.out) (by kernel_rfl) ?_)
    | (refine wpList_store_row rfl 39 _ _ rfl _ _ rfl rfl 39 _ (World.alloc_heap_new W3 _) (by kernel_rfl) (by kernel_rfl) (by kernel_rfl) ?_)
    | (refine wpList_buildG (by rfl) 39 #[(0, .const (.int .i64 12)), (9, .const (.int .i64 5)), (1, .const (.int .i64 1))] rfl (by kernel_rfl) ?_; go_must (rw [show Value.agg (Option.getD (Tryz.prog.built 39 _) #[]) = .agg (edC eRem nilS) from by kernel_rfl]))
    | (refine wpList_buildG (by rfl) 39 #[(0, .const (.int .i64 8)), (9, .const (.int .i64 3))] rfl (by kernel_rfl) ?_; go_must (rw [show Value.agg (Option.getD (Tryz.prog.built 39 _) #[]) = .agg (edC eKerf nilS) from by kernel_rfl])))
  go_ret
  exact ⟨rfl, L4.out⟩
end Go.Proofs.YtbnnccnicfddlaaGreatDoor
namespace Go.Proofs.YtbnnccnicfddlaaGreatDoor
open Go.RowKit Go.Shelf Kp
attribute [local go_sem] edC_size setRow_at setRow_past setRow_drew setRow_drewN

theorem longB_le {n : Nat} (h : longB n = false) : n ≤ 700 := by
  unfold longB at h
  simp only [Bool.or_eq_false_iff, Bool.and_eq_false_iff, decide_eq_false_iff_not] at h
  omega
theorem great_nums {e : Ed} (h : greatB e = false) : ∀ a ∈ numsOf e, a.length ≤ 700 := by
  unfold greatB long4 at h
  simp only [Bool.or_eq_false_iff, decide_eq_false_iff_not] at h
  obtain ⟨⟨⟨h1, h2⟩, ⟨⟨h3, h4⟩, h5⟩, h6⟩, h7⟩ := h
  unfold numsOf
  split
  · exact allW_cons (longB_le h3) (allW_cons (longB_le h4) (allW_cons (longB_le h5) (allW_cons (longB_le h6) (allW_nil _))))
  · split
    · exact allW_cons (by omega) (allW_nil _)
    · exact allW_nil _
theorem great_sized {e : Ed} (h : greatB e = false) (hi : ∀ n ∈ intsOf e, in64 n) : Sized e := by
  refine ⟨hi, fun a ha => by have := great_nums h a ha; omega, ?_⟩
  unfold greatB at h
  simp only [Bool.or_eq_false_iff, decide_eq_false_iff_not] at h
  omega

theorem sized_prs {s : By} {a : Ed} (h : prs chkR s = (a, 0)) (hs : s.length ≤ 200) : Sized a := by
  unfold prs at h
  split at h
  · simp at h
  split at h
  · simp at h
  split at h
  · simp at h
  · simp only [Prod.mk.injEq, and_true] at h
    rw [← h]; exact sized_read _ (split_short (m := 1000) (by omega))

set_option maxRecDepth 100000 in
set_option maxHeartbeats 8000000 in
theorem law_any (w : World) (e : Ed) (ga : Option Addr) (gc : Nat) (s : By) (hgap : GapAt w w.heap.size ga gc e.gaps) (hin : ∀ n ∈ intsOf e, in64 n) (hg : Gl w) (hB : 9 ≤ w.heap.size) :
    Calls Tryz.prog 3 #[.agg (edC e (.slice ga e.gaps.length gc)), .string (tx s)] w fun r w' => r = .returned (.bool true) ∧ Below w.heap.size w w' := by
  have A0 := Lib.hid (EC.new w (edC e (.slice ga e.gaps.length gc)))
  have L0 := Lib.hid (show Below w.heap.size w (w.alloc (.cells (edC e (.slice ga e.gaps.length gc)) 39)) from (Below.refl _ _).alloc (Nat.le_refl _) _)
  have cg := Lib.hid (greatedit_any (w.alloc (.cells (edC e (.slice ga e.gaps.length gc)) 39)) e ga gc)
  have HG := Lib.hid hg
  have HGP := Lib.hid hgap
  have HIN := Lib.hid hin
  clear hgap hin hg
  by_cases hgr : greatB e = true
  · have HGR := Lib.hid hgr
    clear hgr
    go_enter Tryz.func3, Tryz.ntmps3
    go_wp2_with (first
      | (go_at_call 5; (refine (awake_any W1 (HG.out.keep L1.out hB) (by omega)).mono ?_); rintro r W2 ⟨rfl, hB2⟩; have L2 := Lib.hid (L1.out.trans (hB2.mono L1.out.size)); clear hB2)
      | (go_at_call 4; go_must (refine cg.out.mono ?_); rw [HGR.out]; rintro r W1 ⟨rfl, hB1⟩; have A1 := Lib.hid (show EC W1 w.heap.size (edC e (.slice ga e.gaps.length gc)) from (hB1.block _ A0.out.lt).trans A0.out); have L1 := Lib.hid (L0.out.trans (hB1.mono L0.out.size)); have hz1 := L1.out.size; clear hB1)
      | (refine wpList_load_row rfl 39 _ rfl _ rfl 39 _ (0, 0) _ (by first | exact (EC.heap A0.out)) Tryz.underlying39 rfl (by kernel_rfl) ?_))
    go_ret
    exact ⟨rfl, L2.out⟩
  have hgr' : greatB e = false := by cases h : greatB e with | true => exact absurd h hgr | false => rfl
  have HGR := Lib.hid hgr'
  clear hgr hgr'
  by_cases hs : 200 < s.length
  · have hs' : decide (200 < (s.length : Int)) = true := by rw [decide_eq_true_eq]; omega
    go_enter Tryz.func3, Tryz.ntmps3
    go_wp2_with (first
      | (go_at_call 5; (refine (awake_any W1 (HG.out.keep L1.out hB) (by omega)).mono ?_); rintro r W2 ⟨rfl, hB2⟩; have L2 := Lib.hid (L1.out.trans (hB2.mono L1.out.size)); clear hB2)
      | (go_at_call 4; go_must (refine cg.out.mono ?_); rw [HGR.out]; rintro r W1 ⟨rfl, hB1⟩; have A1 := Lib.hid (show EC W1 w.heap.size (edC e (.slice ga e.gaps.length gc)) from (hB1.block _ A0.out.lt).trans A0.out); have L1 := Lib.hid (L0.out.trans (hB1.mono L0.out.size)); have hz1 := L1.out.size; clear hB1)
      | (refine wpList_load_row rfl 39 _ rfl _ rfl 39 _ (0, 0) _ (by first | exact (EC.heap A0.out)) Tryz.underlying39 rfl (by kernel_rfl) ?_))
    go_ret
    exact ⟨rfl, L2.out⟩
  have hs' : decide (200 < (s.length : Int)) = false := by rw [decide_eq_false_iff_not]; omega
  have hs2 : s.length ≤ 200 := by omega
  clear hs
  have HSZ := Lib.hid (great_sized HGR.out HIN.out)
  have HNM := Lib.hid (great_nums HGR.out)
  obtain ⟨t, x, htx⟩ : ∃ t x, txt chkR e = (t, x) := ⟨_, _, rfl⟩
  obtain ⟨a, y, hpa⟩ : ∃ a y, prs chkR s = (a, y) := ⟨_, _, rfl⟩
  have HTX := Lib.hid htx
  have HPA := Lib.hid hpa
  clear htx hpa
  by_cases hx0 : x = 0
  · subst hx0
    have HPT := Lib.hid (prs_txt chkR_blank HTX.out HNM.out)
    have HWS := Lib.hid (words_short HTX.out HNM.out)
    by_cases hy : y = 0
    · subst hy
      have HTA := Lib.hid (txt_prs HPA.out)
      have HSA := Lib.hid (show Sized a from sized_prs HPA.out hs2)
      go_enter Tryz.func3, Tryz.ntmps3
      go_wp2_with (first
        | (go_at_call 5; (refine (awake_any W6 (HG.out.keep L6.out hB) (by omega)).mono ?_); rintro r W7 ⟨rfl, hB7⟩; have L7 := Lib.hid (L6.out.trans (hB7.mono L6.out.size)); clear hB7)
        | (go_at_call 6; refine (text_any (W5.alloc (.cells (edC a (.slice qa a.gaps.length qc)) 39)) a qa qc GP5.out HSA.out (HG.out.keep L5.out hB) (by omega)).mono ?_; rw [HTA.out]; rintro r W6 ⟨rfl, hB6⟩; have L6 := Lib.hid (L5.out.trans (hB6.mono L5.out.size)); have hz6 := L6.out.size; clear hB6)
        | (go_at_call 7; (refine (parse_any s W4 (by omega) (split_short (m := 1000) (by omega)) (HG.out.keep L4.out hB) (by omega)).mono ?_); rw [HPA.out]; rintro r W5 ⟨qa, qc, rfl, hgp, hB5⟩; have hz5' := hB5.size; have C5 := Lib.hid (EC.new W5 (edC a (.slice qa a.gaps.length qc))); have L5 := Lib.hid ((L4.out.trans (hB5.mono L4.out.size)).alloc (by omega) (.cells (edC a (.slice qa a.gaps.length qc)) 39)); have hz5 := L5.out.size; have GP5 := Lib.hid ((hgp.below ((Below.refl W5.heap.size W5).alloc (Nat.le_refl _) (.cells (edC a (.slice qa a.gaps.length qc)) 39))).more (by simp : W5.heap.size ≤ (W5.alloc (.cells (edC a (.slice qa a.gaps.length qc)) 39)).heap.size)); clear hgp hB5 hz5')
        | (go_at_call 8; (refine (sameedit_eq (W3.alloc (.cells (edC e (.slice pa e.gaps.length pc)) 39)) e pa ga pc gc GP3.out ((HGP.out.below L3.out).more hz3)).mono ?_); rintro r W4 ⟨rfl, hB4⟩; have L4 := Lib.hid (L3.out.trans (hB4.mono L3.out.size)); have hz4 := L4.out.size; clear hB4)
        | (go_at_call 7; (refine (parse_any t W2 HPT.out.2 HWS.out (HG.out.keep L2.out hB) (by omega)).mono ?_); rw [HPT.out.1]; rintro r W3 ⟨pa, pc, rfl, hgp, hB3⟩; have hz3' := hB3.size; have C3 := Lib.hid (EC.new W3 (edC e (.slice pa e.gaps.length pc))); have A3 := Lib.hid ((show EC W3 w.heap.size (edC e (.slice ga e.gaps.length gc)) from (hB3.block _ A2.out.lt).trans A2.out).alloc (.cells (edC e (.slice pa e.gaps.length pc)) 39)); have L3 := Lib.hid ((L2.out.trans (hB3.mono L2.out.size)).alloc (by omega) (.cells (edC e (.slice pa e.gaps.length pc)) 39)); have hz3 := L3.out.size; have GP3 := Lib.hid ((hgp.below ((Below.refl W3.heap.size W3).alloc (Nat.le_refl _) (.cells (edC e (.slice pa e.gaps.length pc)) 39))).more (by simp : W3.heap.size ≤ (W3.alloc (.cells (edC e (.slice pa e.gaps.length pc)) 39)).heap.size)); clear hgp hB3 hz3')
        | (go_at_call 6; refine (text_any W1 e ga gc ((HGP.out.below L1.out).more hz1) HSZ.out (HG.out.keep L1.out hB) (by omega)).mono ?_; rw [HTX.out]; rintro r W2 ⟨rfl, hB2⟩; have A2 := Lib.hid (show EC W2 w.heap.size (edC e (.slice ga e.gaps.length gc)) from (hB2.block _ A1.out.lt).trans A1.out); have L2 := Lib.hid (L1.out.trans (hB2.mono L1.out.size)); have hz2 := L2.out.size; clear hB2)
        | (go_at_call 4; go_must (refine cg.out.mono ?_); rw [HGR.out]; rintro r W1 ⟨rfl, hB1⟩; have A1 := Lib.hid (show EC W1 w.heap.size (edC e (.slice ga e.gaps.length gc)) from (hB1.block _ A0.out.lt).trans A0.out); have L1 := Lib.hid (L0.out.trans (hB1.mono L0.out.size)); have hz1 := L1.out.size; clear hB1)
        | (refine wpList_load_rowG (by rfl) _ rfl _ rfl _ (by first | exact (EC.heap C3.out) | exact (EC.heap A3.out)) (by kernel_rfl) ?_)
        | (refine wpList_store_row rfl 39 _ _ rfl _ _ rfl rfl 39 _ (by first | exact World.alloc_heap_new W5 _ | exact World.alloc_heap_new W3 _) (by kernel_rfl) (by kernel_rfl) (by kernel_rfl) ?_)
        | (refine wpList_load_row rfl 39 _ rfl _ rfl 39 _ (0, 0) _ (by first | exact (EC.heap C5.out) | exact (EC.heap A1.out) | exact (EC.heap A0.out)) Tryz.underlying39 rfl (by kernel_rfl) ?_)
        | (refine wpList_load_row rfl 39 _ rfl _ rfl 39 _ (0, 0) _ (by first | exact (EC.heap A1.out) | exact (EC.heap A0.out)) Tryz.underlying39 rfl (by kernel_rfl) ?_)
        | (refine wpList_load_row rfl 39 _ rfl _ rfl 39 _ (0, 0) _ (by first | exact (EC.heap A0.out)) Tryz.underlying39 rfl (by kernel_rfl) ?_))
      go_ret
      exact ⟨rfl, L7.out⟩
    · have HPB := Lib.hid (prs_bad (chk := chkR) (s := s) (by omega) (by rw [HPA.out]; exact hy))
      clear hy HPA
      go_enter Tryz.func3, Tryz.ntmps3
      go_wp2_with (first
        | (go_at_call 5; (refine (awake_any W6 (HG.out.keep L6.out hB) (by omega)).mono ?_); rintro r W7 ⟨rfl, hB7⟩; have L7 := Lib.hid (L6.out.trans (hB7.mono L6.out.size)); clear hB7)
        | (go_at_call 8; (refine (sameedit_eq (W5.alloc (.cells (edC ed0 (.slice qa ed0.gaps.length qc)) 39)) ed0 qa none qc 0 GP5.out (gapAt_nil _ _)).mono ?_); rintro r W6 ⟨rfl, hB6⟩; have L6 := Lib.hid (L5.out.trans (hB6.mono L5.out.size)); have hz6 := L6.out.size; clear hB6)
        | (go_at_call 7; (refine (parse_any s W4 (by omega) (split_short (m := 1000) (by omega)) (HG.out.keep L4.out hB) (by omega)).mono ?_); rw [HPB.out]; rintro r W5 ⟨qa, qc, rfl, hgp, hB5⟩; have hz5' := hB5.size; have C5 := Lib.hid (EC.new W5 (edC ed0 (.slice qa ed0.gaps.length qc))); have L5 := Lib.hid ((L4.out.trans (hB5.mono L4.out.size)).alloc (by omega) (.cells (edC ed0 (.slice qa ed0.gaps.length qc)) 39)); have hz5 := L5.out.size; have GP5 := Lib.hid ((hgp.below ((Below.refl W5.heap.size W5).alloc (Nat.le_refl _) (.cells (edC ed0 (.slice qa ed0.gaps.length qc)) 39))).more (by simp : W5.heap.size ≤ (W5.alloc (.cells (edC ed0 (.slice qa ed0.gaps.length qc)) 39)).heap.size)); clear hgp hB5 hz5')
        | (go_at_call 8; (refine (sameedit_eq (W3.alloc (.cells (edC e (.slice pa e.gaps.length pc)) 39)) e pa ga pc gc GP3.out ((HGP.out.below L3.out).more hz3)).mono ?_); rintro r W4 ⟨rfl, hB4⟩; have L4 := Lib.hid (L3.out.trans (hB4.mono L3.out.size)); have hz4 := L4.out.size; clear hB4)
        | (go_at_call 7; (refine (parse_any t W2 HPT.out.2 HWS.out (HG.out.keep L2.out hB) (by omega)).mono ?_); rw [HPT.out.1]; rintro r W3 ⟨pa, pc, rfl, hgp, hB3⟩; have hz3' := hB3.size; have C3 := Lib.hid (EC.new W3 (edC e (.slice pa e.gaps.length pc))); have A3 := Lib.hid ((show EC W3 w.heap.size (edC e (.slice ga e.gaps.length gc)) from (hB3.block _ A2.out.lt).trans A2.out).alloc (.cells (edC e (.slice pa e.gaps.length pc)) 39)); have L3 := Lib.hid ((L2.out.trans (hB3.mono L2.out.size)).alloc (by omega) (.cells (edC e (.slice pa e.gaps.length pc)) 39)); have hz3 := L3.out.size; have GP3 := Lib.hid ((hgp.below ((Below.refl W3.heap.size W3).alloc (Nat.le_refl _) (.cells (edC e (.slice pa e.gaps.length pc)) 39))).more (by simp : W3.heap.size ≤ (W3.alloc (.cells (edC e (.slice pa e.gaps.length pc)) 39)).heap.size)); clear hgp hB3 hz3')
        | (go_at_call 6; refine (text_any W1 e ga gc ((HGP.out.below L1.out).more hz1) HSZ.out (HG.out.keep L1.out hB) (by omega)).mono ?_; rw [HTX.out]; rintro r W2 ⟨rfl, hB2⟩; have A2 := Lib.hid (show EC W2 w.heap.size (edC e (.slice ga e.gaps.length gc)) from (hB2.block _ A1.out.lt).trans A1.out); have L2 := Lib.hid (L1.out.trans (hB2.mono L1.out.size)); have hz2 := L2.out.size; clear hB2)
        | (go_at_call 4; go_must (refine cg.out.mono ?_); rw [HGR.out]; rintro r W1 ⟨rfl, hB1⟩; have A1 := Lib.hid (show EC W1 w.heap.size (edC e (.slice ga e.gaps.length gc)) from (hB1.block _ A0.out.lt).trans A0.out); have L1 := Lib.hid (L0.out.trans (hB1.mono L0.out.size)); have hz1 := L1.out.size; clear hB1)
        | (refine wpList_load_rowG (by rfl) _ rfl _ rfl _ (by first | exact (EC.heap C5.out) | exact (EC.heap C3.out) | exact (EC.heap A3.out)) (by kernel_rfl) ?_)
        | (refine wpList_load_rowG (by rfl) _ rfl _ rfl _ (by first | exact (EC.heap C3.out) | exact (EC.heap A3.out)) (by kernel_rfl) ?_)
        | (refine wpList_store_row rfl 39 _ _ rfl _ _ rfl rfl 39 _ (by first | exact World.alloc_heap_new W5 _ | exact World.alloc_heap_new W3 _) (by kernel_rfl) (by kernel_rfl) (by kernel_rfl) ?_)
        | (refine wpList_buildG (by rfl) 39 #[] rfl (by kernel_rfl) ?_; go_must (rw [show Value.agg (Option.getD (Tryz.prog.built 39 _) #[]) = .agg (edC ed0 nilS) from by kernel_rfl]))
        | (refine wpList_load_row rfl 39 _ rfl _ rfl 39 _ (0, 0) _ (by first | exact (EC.heap A1.out) | exact (EC.heap A0.out)) Tryz.underlying39 rfl (by kernel_rfl) ?_)
        | (refine wpList_load_row rfl 39 _ rfl _ rfl 39 _ (0, 0) _ (by first | exact (EC.heap A0.out)) Tryz.underlying39 rfl (by kernel_rfl) ?_))
      go_ret
      exact ⟨rfl, L7.out⟩
  · have hxe : (x == 0) = false := by rw [beq_eq_false_iff_ne]; exact hx0
    clear hx0
    by_cases hy : y = 0
    · subst hy
      have HTA := Lib.hid (txt_prs HPA.out)
      have HSA := Lib.hid (show Sized a from sized_prs HPA.out hs2)
      go_enter Tryz.func3, Tryz.ntmps3
      go_wp2_with (first
        | (go_at_call 5; (refine (awake_any W6 (HG.out.keep L6.out hB) (by omega)).mono ?_); rintro r W7 ⟨rfl, hB7⟩; have L7 := Lib.hid (L6.out.trans (hB7.mono L6.out.size)); clear hB7)
        | (go_at_call 6; refine (text_any (W5.alloc (.cells (edC a (.slice qa a.gaps.length qc)) 39)) a qa qc GP5.out HSA.out (HG.out.keep L5.out hB) (by omega)).mono ?_; rw [HTA.out]; rintro r W6 ⟨rfl, hB6⟩; have L6 := Lib.hid (L5.out.trans (hB6.mono L5.out.size)); have hz6 := L6.out.size; clear hB6)
        | (go_at_call 7; (refine (parse_any s W2 (by omega) (split_short (m := 1000) (by omega)) (HG.out.keep L2.out hB) (by omega)).mono ?_); rw [HPA.out]; rintro r W5 ⟨qa, qc, rfl, hgp, hB5⟩; have hz5' := hB5.size; have C5 := Lib.hid (EC.new W5 (edC a (.slice qa a.gaps.length qc))); have L5 := Lib.hid ((L2.out.trans (hB5.mono L2.out.size)).alloc (by omega) (.cells (edC a (.slice qa a.gaps.length qc)) 39)); have hz5 := L5.out.size; have GP5 := Lib.hid ((hgp.below ((Below.refl W5.heap.size W5).alloc (Nat.le_refl _) (.cells (edC a (.slice qa a.gaps.length qc)) 39))).more (by simp : W5.heap.size ≤ (W5.alloc (.cells (edC a (.slice qa a.gaps.length qc)) 39)).heap.size)); clear hgp hB5 hz5')
        | (go_at_call 6; refine (text_any W1 e ga gc ((HGP.out.below L1.out).more hz1) HSZ.out (HG.out.keep L1.out hB) (by omega)).mono ?_; rw [HTX.out]; rintro r W2 ⟨rfl, hB2⟩; have A2 := Lib.hid (show EC W2 w.heap.size (edC e (.slice ga e.gaps.length gc)) from (hB2.block _ A1.out.lt).trans A1.out); have L2 := Lib.hid (L1.out.trans (hB2.mono L1.out.size)); have hz2 := L2.out.size; clear hB2)
        | (go_at_call 4; go_must (refine cg.out.mono ?_); rw [HGR.out]; rintro r W1 ⟨rfl, hB1⟩; have A1 := Lib.hid (show EC W1 w.heap.size (edC e (.slice ga e.gaps.length gc)) from (hB1.block _ A0.out.lt).trans A0.out); have L1 := Lib.hid (L0.out.trans (hB1.mono L0.out.size)); have hz1 := L1.out.size; clear hB1)
        | (refine wpList_store_row rfl 39 _ _ rfl _ _ rfl rfl 39 _ (World.alloc_heap_new W5 _) (by kernel_rfl) (by kernel_rfl) (by kernel_rfl) ?_)
        | (refine wpList_load_row rfl 39 _ rfl _ rfl 39 _ (0, 0) _ (by first | exact (EC.heap C5.out) | exact (EC.heap A1.out) | exact (EC.heap A0.out)) Tryz.underlying39 rfl (by kernel_rfl) ?_)
        | (refine wpList_load_row rfl 39 _ rfl _ rfl 39 _ (0, 0) _ (by first | exact (EC.heap A1.out) | exact (EC.heap A0.out)) Tryz.underlying39 rfl (by kernel_rfl) ?_)
        | (refine wpList_load_row rfl 39 _ rfl _ rfl 39 _ (0, 0) _ (by first | exact (EC.heap A0.out)) Tryz.underlying39 rfl (by kernel_rfl) ?_))
      go_ret
      exact ⟨rfl, L7.out⟩
    · have HPB := Lib.hid (prs_bad (chk := chkR) (s := s) (by omega) (by rw [HPA.out]; exact hy))
      clear hy HPA
      go_enter Tryz.func3, Tryz.ntmps3
      go_wp2_with (first
        | (go_at_call 5; (refine (awake_any W6 (HG.out.keep L6.out hB) (by omega)).mono ?_); rintro r W7 ⟨rfl, hB7⟩; have L7 := Lib.hid (L6.out.trans (hB7.mono L6.out.size)); clear hB7)
        | (go_at_call 8; (refine (sameedit_eq (W5.alloc (.cells (edC ed0 (.slice qa ed0.gaps.length qc)) 39)) ed0 qa none qc 0 GP5.out (gapAt_nil _ _)).mono ?_); rintro r W6 ⟨rfl, hB6⟩; have L6 := Lib.hid (L5.out.trans (hB6.mono L5.out.size)); have hz6 := L6.out.size; clear hB6)
        | (go_at_call 7; (refine (parse_any s W2 (by omega) (split_short (m := 1000) (by omega)) (HG.out.keep L2.out hB) (by omega)).mono ?_); rw [HPB.out]; rintro r W5 ⟨qa, qc, rfl, hgp, hB5⟩; have hz5' := hB5.size; have C5 := Lib.hid (EC.new W5 (edC ed0 (.slice qa ed0.gaps.length qc))); have L5 := Lib.hid ((L2.out.trans (hB5.mono L2.out.size)).alloc (by omega) (.cells (edC ed0 (.slice qa ed0.gaps.length qc)) 39)); have hz5 := L5.out.size; have GP5 := Lib.hid ((hgp.below ((Below.refl W5.heap.size W5).alloc (Nat.le_refl _) (.cells (edC ed0 (.slice qa ed0.gaps.length qc)) 39))).more (by simp : W5.heap.size ≤ (W5.alloc (.cells (edC ed0 (.slice qa ed0.gaps.length qc)) 39)).heap.size)); clear hgp hB5 hz5')
        | (go_at_call 6; refine (text_any W1 e ga gc ((HGP.out.below L1.out).more hz1) HSZ.out (HG.out.keep L1.out hB) (by omega)).mono ?_; rw [HTX.out]; rintro r W2 ⟨rfl, hB2⟩; have A2 := Lib.hid (show EC W2 w.heap.size (edC e (.slice ga e.gaps.length gc)) from (hB2.block _ A1.out.lt).trans A1.out); have L2 := Lib.hid (L1.out.trans (hB2.mono L1.out.size)); have hz2 := L2.out.size; clear hB2)
        | (go_at_call 4; go_must (refine cg.out.mono ?_); rw [HGR.out]; rintro r W1 ⟨rfl, hB1⟩; have A1 := Lib.hid (show EC W1 w.heap.size (edC e (.slice ga e.gaps.length gc)) from (hB1.block _ A0.out.lt).trans A0.out); have L1 := Lib.hid (L0.out.trans (hB1.mono L0.out.size)); have hz1 := L1.out.size; clear hB1)
        | (refine wpList_load_rowG (by rfl) _ rfl _ rfl _ (by first | exact (EC.heap C5.out)) (by kernel_rfl) ?_)
        | (refine wpList_store_row rfl 39 _ _ rfl _ _ rfl rfl 39 _ (World.alloc_heap_new W5 _) (by kernel_rfl) (by kernel_rfl) (by kernel_rfl) ?_)
        | (refine wpList_buildG (by rfl) 39 #[] rfl (by kernel_rfl) ?_; go_must (rw [show Value.agg (Option.getD (Tryz.prog.built 39 _) #[]) = .agg (edC ed0 nilS) from by kernel_rfl]))
        | (refine wpList_load_row rfl 39 _ rfl _ rfl 39 _ (0, 0) _ (by first | exact (EC.heap A1.out) | exact (EC.heap A0.out)) Tryz.underlying39 rfl (by kernel_rfl) ?_)
        | (refine wpList_load_row rfl 39 _ rfl _ rfl 39 _ (0, 0) _ (by first | exact (EC.heap A0.out)) Tryz.underlying39 rfl (by kernel_rfl) ?_))
      go_ret
      exact ⟨rfl, L7.out⟩
end Go.Proofs.YtbnnccnicfddlaaGreatDoor
