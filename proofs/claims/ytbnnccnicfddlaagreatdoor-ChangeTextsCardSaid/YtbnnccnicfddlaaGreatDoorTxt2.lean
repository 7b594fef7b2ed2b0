/- change.Text: the walk. -/
import Derived.Test.YtbnnccnicfddlaaGreatDoorFrmA
import Derived.Test.YtbnnccnicfddlaaGreatDoorGrA
import Derived.Deep.DeepCutAuto
import Derived.Deep.RegionHeld3
set_option linter.unusedSimpArgs false
set_option linter.unusedVariables false
namespace Go.Proofs.YtbnnccnicfddlaaGreatDoor
open Go.RowKit Go.Shelf Kp
attribute [local go_sem] edC_size edC_0 edC_14 edC_22 edC_35 edC_36

def TxPost (w : World) (p : By × Int) (r : Ending) (w' : World) : Prop := r = .returned (.tuple #[.string (tx p.1), .int .i64 p.2]) ∧ Below w.heap.size w w'
theorem txt_form {e : Ed} (h : ¬ formI e = 0) : txt chkR e = ([], formI e) := by
  by_cases h1 : e.kind < 1 ∨ 12 < e.kind
  · unfold txt formI; rw [if_pos h1, if_pos h1]
  · by_cases hs : sameE e (usedE e) = true
    · exact absurd (by unfold formI; rw [if_neg h1, if_pos hs]) h
    · unfold txt formI; rw [if_neg h1, if_neg h1, if_pos (fun he => hs ((sameE_iff _ _).2 he)), if_neg hs]
theorem form_ok {e : Ed} (h : formI e = 0) : (1 ≤ e.kind ∧ e.kind ≤ 12) ∧ e = usedE e := by
  unfold formI at h
  split at h
  · cases h
  · rename_i h1
    split at h
    · rename_i hs; exact ⟨by omega, (sameE_iff _ _).1 hs⟩
    · cases h

set_option maxRecDepth 100000 in
set_option maxHeartbeats 2000000 in
theorem text_form (w : World) (e : Ed) (ga : Option Addr) (gc : Nat) (hg : GapAt w w.heap.size ga gc e.gaps) (hf : ¬ formI e = 0) :
    Calls Tryz.prog 6 #[.agg (edC e (.slice ga e.gaps.length gc))] w (TxPost w (txt chkR e)) := by
  have HT := Lib.hid (txt_form hf)
  have hB0 : Below w.heap.size w (w.alloc (.cells (edC e (.slice ga e.gaps.length gc)) 39)) := (Below.refl _ _).alloc (Nat.le_refl _) _
  have cf := Lib.hid (form_any (w.alloc (.cells (edC e (.slice ga e.gaps.length gc)) 39)) e ga gc ((hg.below hB0).more (by simp)))
  have hf' : (formI e != 0) = true := by rw [bne_iff_ne]; exact hf
  have HB0 := Lib.hid hB0
  have E0 := Lib.hid (EdAt.new w e (.slice ga e.gaps.length gc))
  clear hg hf hB0
  go_enter Tryz.func6, Tryz.ntmps6
  go_wp2_with (first
    | (refine wpList_load_row rfl 39 _ rfl _ rfl 39 _ (0, 0) _ E0.out Tryz.underlying39 rfl (by kernel_rfl) ?_)
    | (go_at_call 11; refine cf.out.mono ?_; rintro r W1 ⟨rfl, hB1⟩))
  go_ret2
  rw [HT.out]
  exact ⟨rfl, HB0.out.trans (hB1.mono HB0.out.size)⟩

theorem gaps_kind {e : Ed} (h : e = usedE e) (hg : 0 < e.gaps.length) : e.kind = 7 := by
  by_cases h7 : e.kind = 7
  · exact h7
  · have h0 : (usedE e).gaps = [] := by
      unfold usedE
      simp only [apply_ite Ed.gaps]
      simp [h7, ed0]
    have hz : e.gaps = [] := (congrArg Ed.gaps h).trans h0
    rw [hz] at hg
    simp at hg
/-- behind the look-up: what the rest of Text finds -/
structure TxM (w : World) (e : Ed) (g : Value) (s6 : Value) (wx : World) : Prop where
  ed : EdAt wx w.heap.size e g
  ok : s6 = .bool (remIs e.number)
  low : Below w.heap.size w wx

/-- behind the switch: what the tail of Text finds -/
structure TxC (w : World) (e : Ed) (g : Value) (wx : World) : Prop where
  ed : EdAt wx w.heap.size e g
  low : Below w.heap.size w wx
theorem Wrt.fresh (w : World) (B : Nat) (hB : B ≤ w.heap.size) : Wrt B w.heap.size 0 0 [] (w.alloc (.cells #[.pointer none, .slice none 0 0, .int .i64 0, .int .i64 0] 65)) :=
  ⟨.pointer none, .inl rfl, hB, .slice none 0 0, World.alloc_heap_new w _, World.ownsRow_nil _ _ _ _, by simp [Value.ownBlock]⟩
theorem addW_ne {bs s : By} (h : bs ≠ []) : addW bs s ≠ [] := by unfold addW; rw [if_neg h]; simp
theorem addWs_ne {bs : By} (h : bs ≠ []) (ws : List By) : addWs bs ws ≠ [] := by
  induction ws generalizing bs with
  | nil => exact h
  | cons w ws ih => rw [addWs_cons]; exact ih (addW_ne h)
theorem words_ne (e : Ed) : addWs [] (wordsOf e) ≠ [] := by
  obtain ⟨b, w, ws, hh⟩ := heads_cons e
  unfold wordsOf
  rw [hh, List.cons_append, List.cons_append, addWs_cons]
  exact addWs_ne (by unfold addW; rw [if_pos rfl]; simp) _
theorem txt_good {e : Ed} (hk : 1 ≤ e.kind ∧ e.kind ≤ 12) (hu : e = usedE e) (hn : ¬ (e.kind = 1 ∧ isNm e.text = false)) (hz : ¬ ((e.kind = 6 ∧ (e.zkind < 1 ∨ 12 < e.zkind)) ∨ (e.kind = 12 ∧ remIs e.number = false))) (hg : ¬ 16 < e.gaps.length) :
    txt chkR e = if ¬ wideE 0 (intsOf e) = 0 then ([], wideE 0 (intsOf e)) else if ¬ numE chkR 0 (numsOf e) = 0 then ([], numE chkR 0 (numsOf e)) else (addWs [] (wordsOf e), 0) := by
  unfold txt
  rw [if_neg (by omega), if_neg (fun x => x hu), if_neg hn, if_neg hz, if_neg hg]

set_option maxRecDepth 100000 in
set_option maxHeartbeats 4000000 in
theorem text_ok (w : World) (e : Ed) (ga : Option Addr) (gc : Nat) (hg : GapAt w w.heap.size ga gc e.gaps) (hsz : Sized e) (hgl : Gl w) (hB : 9 ≤ w.heap.size) (hf : formI e = 0) :
    Calls Tryz.prog 6 #[.agg (edC e (.slice ga e.gaps.length gc))] w (TxPost w (txt chkR e)) := by
  have hB0 : Below w.heap.size w (w.alloc (.cells (edC e (.slice ga e.gaps.length gc)) 39)) := (Below.refl _ _).alloc (Nat.le_refl _) _
  have cf := Lib.hid (form_any (w.alloc (.cells (edC e (.slice ga e.gaps.length gc)) 39)) e ga gc ((hg.below hB0).more (by simp)))
  have hf' : (formI e != 0) = false := by rw [hf]; rfl
  have HF := Lib.hid hf
  have HG := Lib.hid hg
  have HB0 := Lib.hid hB0
  have E0 := Lib.hid (EdAt.new w e (.slice ga e.gaps.length gc))
  have HSZ := Lib.hid hsz
  have HGL := Lib.hid hgl
  clear hg hf hB0 hsz hgl
  go_enter Tryz.func6, Tryz.ntmps6
  go_upto_region 4 with (first
    | (refine wpList_load_row rfl 39 _ rfl _ rfl 39 _ (0, 0) _ E0.out Tryz.underlying39 rfl (by kernel_rfl) ?_)
    | (go_at_call 11; refine cf.out.mono ?_; rintro r W1 ⟨rfl, hB1⟩; have E1 := Lib.hid (E0.out.below hB1 E0.out.lt); have ec1 := fun i => E1.out.cell i; have hz1 := hB1.size; simp only [World.size_alloc] at hz1; have HB1 := Lib.hid (HB0.out.trans (hB1.mono HB0.out.size)); clear hB1))
  go_cut [6] (fun s6 wx => TxM w e (.slice ga e.gaps.length gc) s6 wx)
  case first =>
    go_region_with (go_at_call 12; go_loud (refine (removed_any _).mono ?_; rintro r W2 ⟨rfl, hW2⟩; have HB2 := Lib.hid (show Below W1.heap.size W1 W2 by rw [hW2]; exact (Below.refl _ W1).drew.alloc (Nat.le_refl _) _); have hlk := rem_look W2 W1.heap.size 6 (by rw [hW2]; exact World.alloc_heap_new W1.drew _) e.number true; have E2 := Lib.hid (E1.out.below HB2.out E1.out.lt); have ec2 := fun i => E2.out.cell i; simp only [if_true] at hlk; clear hW2))
    all_goals go_wp2_with fail
    all_goals go_meet
    all_goals exact ⟨E2.out, rfl, HB1.out.trans (HB2.out.mono (by omega))⟩
  case rest =>
    obtain ⟨ed, rfl, hlow⟩ := hcut
    have ED := Lib.hid ed
    have ec := fun i => ED.out.cell i
    have HLOW := Lib.hid hlow
    have hlz := hlow.size
    clear ed hlow ec1
    obtain ⟨⟨hk1, hk2⟩, hue⟩ := form_ok HF.out
    have HU := Lib.hid hue
    clear hue
    by_cases hn : e.kind = 1 ∧ isNm e.text = false
    · obtain ⟨hn1, hn2⟩ := hn
      have HT := Lib.hid (show txt chkR e = ([], 13) by unfold txt; rw [if_neg (by omega), if_neg (fun x => x HU.out), if_pos ⟨hn1, hn2⟩])
      have k1 : (e.kind == 1) = true := by rw [beq_iff_eq]; exact hn1
      have htl : e.text.length ≤ 1000000 := by have := HSZ.out.text; omega
      clear hn1
      go_wp2_with (go_at_call 13; go_must (refine (isname_any e.text _ htl).mono ?_); rintro r W3 ⟨rfl, rfl⟩; rw [hn2])
      go_ret2
      rw [HT.out]
      exact ⟨rfl, HLOW.out⟩
    by_cases hrm : e.kind = 12 ∧ remIs e.number = false
    · obtain ⟨hr1, hr2⟩ := hrm
      have HT := Lib.hid (show txt chkR e = ([], 8) by unfold txt; rw [if_neg (by omega), if_neg (fun x => x HU.out), if_neg hn, if_pos (.inr ⟨hr1, hr2⟩)])
      have k1 : (e.kind == 1) = false := by rw [beq_eq_false_iff_ne]; omega
      have k6 : (e.kind == 6) = false := by rw [beq_eq_false_iff_ne]; omega
      have k12 : (e.kind == 12) = true := by rw [beq_iff_eq]; exact hr1
      clear hn hr1
      go_wp2
      go_quiet (fail)
      go_wp2
      go_ret2
      rw [HT.out]
      exact ⟨rfl, below_drewN HLOW.out _⟩
    by_cases hzl : e.kind = 6 ∧ e.zkind < 1
    · obtain ⟨hz1, hz2⟩ := hzl
      have HT := Lib.hid (show txt chkR e = ([], 8) by unfold txt; rw [if_neg (by omega), if_neg (fun x => x HU.out), if_neg hn, if_pos (.inl ⟨hz1, .inl hz2⟩)])
      have k1 : (e.kind == 1) = false := by rw [beq_eq_false_iff_ne]; omega
      have k6 : (e.kind == 6) = true := by rw [beq_iff_eq]; exact hz1
      have kz : decide (e.zkind < 1) = true := by rw [decide_eq_true_eq]; exact hz2
      clear hn hrm hz1
      go_wp2
      go_quiet (fail)
      go_wp2
      go_ret2
      rw [HT.out]
      exact ⟨rfl, below_drewN HLOW.out _⟩
    by_cases hgl16 : 16 < e.gaps.length
    · have hk7 := gaps_kind HU.out (by omega)
      have HT := Lib.hid (show txt chkR e = ([], 4) by unfold txt; rw [if_neg (by omega), if_neg (fun x => x HU.out), if_neg hn, if_neg (by omega), if_pos hgl16])
      have k1 : (e.kind == 1) = false := by rw [beq_eq_false_iff_ne]; omega
      have k6 : (e.kind == 6) = false := by rw [beq_eq_false_iff_ne]; omega
      have k12 : (e.kind == 12) = false := by rw [beq_eq_false_iff_ne]; omega
      clear hn hrm hzl hk7
      go_wp2
      go_quiet (fail)
      go_wp2
      go_ret2
      rw [HT.out]
      exact ⟨rfl, below_drewN HLOW.out _⟩
    by_cases hzh : e.kind = 6 ∧ 12 < e.zkind
    · obtain ⟨hz1, hz2⟩ := hzh
      have HT := Lib.hid (show txt chkR e = ([], 8) by unfold txt; rw [if_neg (by omega), if_neg (fun x => x HU.out), if_neg hn, if_pos (.inl ⟨hz1, .inr hz2⟩)])
      have k1 : (e.kind == 1) = false := by rw [beq_eq_false_iff_ne]; omega
      have k6 : (e.kind == 6) = true := by rw [beq_iff_eq]; exact hz1
      have kz : decide (e.zkind < 1) = false := by rw [decide_eq_false_iff_not]; omega
      have kz2 : decide (12 < e.zkind) = true := by rw [decide_eq_true_eq]; exact hz2
      have c0 : wc.drew.cell? ⟨w.heap.size, 0, none⟩ = some (.int .i64 e.kind) := by have := ec 0; rw [edC_0] at this; exact this
      have c14 : wc.drew.cell? ⟨w.heap.size, 14, none⟩ = some (.int .i64 e.zkind) := by have := ec 14; rw [edC_14] at this; exact this
      have GX := Lib.hid (HGL.out.keep (HLOW.out.trans (Below.drew (Below.refl _ _))) hB)
      have hdl : w.heap.size < wc.drew.heap.size := ED.out.lt
      clear hn hz1 hrm hzl hgl16
      go_wp2
      go_region_held3 (fun wz : World => wz.cell? ⟨w.heap.size, 0, none⟩ = some (.int .i64 e.kind) ∧ wz.cell? ⟨w.heap.size, 14, none⟩ = some (.int .i64 e.zkind)) (first | exact ⟨c0, c14⟩ | exact ⟨d0, d14⟩) (first
        | (go_at_call 14; refine (kinds_any _ GX.out).mono ?_; rintro r W3 ⟨g, cap, rfl, hg1, hg2, hg3, hg4, hg5, hB3⟩; have d0 := (hB3.cell (p := ⟨w.heap.size, 0, none⟩) hdl).trans c0; have d14 := (hB3.cell (p := ⟨w.heap.size, 14, none⟩) hdl).trans c14; have HB3 := Lib.hid (HLOW.out.trans ((Below.drew (Below.refl _ _)).trans (hB3.mono (by omega)))); clear hg1 hg2 hg3 hg4 hg5 hB3))
      all_goals go_wp2
      all_goals go_ret2
      all_goals rw [HT.out]
      all_goals exact ⟨rfl, HB3.out⟩
    have HZ := Lib.hid (show e.kind = 6 → 1 ≤ e.zkind ∧ e.zkind ≤ 12 from fun h6 => by omega)
    have HT := Lib.hid (txt_good ⟨hk1, hk2⟩ HU.out hn (by rintro (⟨a, b⟩ | ⟨a, b⟩) <;> first | exact hrm ⟨a, b⟩ | omega) hgl16)
    have h16 : e.gaps.length ≤ 16 := by omega
    have HK := Lib.hid (And.intro hk1 hk2)
    go_upto_block 0 with (fail)
    go_cut [] (fun wz => TxC w e (.slice ga e.gaps.length gc) wz)
    case first =>
      have hg16 : decide (16 < (e.gaps.length : Int)) = false := by rw [decide_eq_false_iff_not]; omega
      by_cases h6 : e.kind = 6
      · have k1 : (e.kind == 1) = false := by rw [beq_eq_false_iff_ne]; omega
        have k6 : (e.kind == 6) = true := by rw [beq_iff_eq]; exact h6
        have k12 : (e.kind == 12) = false := by rw [beq_eq_false_iff_ne]; omega
        have kz : decide (e.zkind < 1) = false := by rw [decide_eq_false_iff_not]; omega
        have kz2 : decide (12 < e.zkind) = false := by rw [decide_eq_false_iff_not]; omega
        have c0 : wc.drew.cell? ⟨w.heap.size, 0, none⟩ = some (.int .i64 e.kind) := by have := ec 0; rw [edC_0] at this; exact this
        have c14 : wc.drew.cell? ⟨w.heap.size, 14, none⟩ = some (.int .i64 e.zkind) := by have := ec 14; rw [edC_14] at this; exact this
        have GX := Lib.hid (HGL.out.keep (HLOW.out.trans (Below.drew (Below.refl _ _))) hB)
        have hdl : w.heap.size < wc.drew.heap.size := ED.out.lt
        clear hn h6 hrm hzl hgl16 hzh
        go_wp2
        go_region_held3 (fun wz : World => wz.cell? ⟨w.heap.size, 0, none⟩ = some (.int .i64 e.kind) ∧ wz.cell? ⟨w.heap.size, 14, none⟩ = some (.int .i64 e.zkind)) (first | exact ⟨c0, c14⟩ | exact ⟨d0, d14⟩) (first
          | (go_at_call 14; refine (kinds_any _ GX.out).mono ?_; rintro r W3 ⟨g, cap, rfl, hg1, hg2, hg3, hg4, hg5, hB3⟩; have d0 := (hB3.cell (p := ⟨w.heap.size, 0, none⟩) hdl).trans c0; have d14 := (hB3.cell (p := ⟨w.heap.size, 14, none⟩) hdl).trans c14; have HB3 := Lib.hid (HLOW.out.trans ((Below.drew (Below.refl _ _)).trans (hB3.mono (by omega)))); have E3 := Lib.hid (EdAt.below (show EdAt wc.drew w.heap.size e (.slice ga e.gaps.length gc) from ED.out) hB3 hdl); have ec3 := fun i => E3.out.cell i; clear hg1 hg2 hg3 hg4 hg5 hB3))
        all_goals go_wp2
        all_goals go_meet
        all_goals exact ⟨E3.out, HB3.out⟩
      · have k6 : (e.kind == 6) = false := by rw [beq_eq_false_iff_ne]; omega
        have HE := Lib.hid (fun n => (show EdAt (wc.drewN n) w.heap.size e (.slice ga e.gaps.length gc) from ED.out))
        by_cases h1 : e.kind = 1
        · have k1 : (e.kind == 1) = true := by rw [beq_iff_eq]; exact h1
          have k12 : (e.kind == 12) = false := by rw [beq_eq_false_iff_ne]; omega
          have hnm : isNm e.text = true := by cases h : isNm e.text with | true => rfl | false => exact absurd ⟨h1, h⟩ hn
          have htl : e.text.length ≤ 1000000 := by have := HSZ.out.text; omega
          clear hn h1 h6 hrm hzl hgl16 hzh
          go_wp2_with (go_at_call 13; go_must (refine (isname_any e.text _ htl).mono ?_); rintro r W3 ⟨rfl, rfl⟩; rw [hnm])
          go_quiet (fail)
          go_wp2
          go_meet
          exact ⟨HE.out _, below_drewN HLOW.out _⟩
        · have k1 : (e.kind == 1) = false := by rw [beq_eq_false_iff_ne]; omega
          by_cases h12 : e.kind = 12
          · have k12 : (e.kind == 12) = true := by rw [beq_iff_eq]; exact h12
            have hrt : remIs e.number = true := by cases h : remIs e.number with | true => rfl | false => exact absurd ⟨h12, h⟩ hrm
            clear hn h1 h6 hrm hzl hgl16 hzh h12
            go_wp2
            go_quiet (fail)
            go_wp2
            go_meet
            exact ⟨HE.out _, below_drewN HLOW.out _⟩
          · have k12 : (e.kind == 12) = false := by rw [beq_eq_false_iff_ne]; omega
            clear hn h1 h6 hrm hzl hgl16 hzh h12
            go_wp2
            go_quiet (fail)
            go_wp2
            go_meet
            exact ⟨HE.out _, below_drewN HLOW.out _⟩
    case rest =>
      obtain ⟨ed2, low2⟩ := hcut
      have hz2 := low2.size
      have L2 := Lib.hid low2
      have WF := Lib.hid (Wrt.fresh wc w.heap.size hz2)
      have B2 := Lib.hid (L2.out.alloc hz2 (.cells #[.pointer none, .slice none 0 0, .int .i64 0, .int .i64 0] 65))
      have E3 := Lib.hid (ed2.alloc (.cells #[.pointer none, .slice none 0 0, .int .i64 0, .int .i64 0] 65))
      have cw := Lib.hid (wwrite_any w.heap.size wc.heap.size e ga gc _ WF.out HSZ.out HK.out HZ.out (HG.out.below B2.out) h16 (HGL.out.keep B2.out hB) hB (by simp; omega))
      clear ed2 low2 hn hrm hzl hzh ec hlz E0 hf' hk1 hk2 hgl16
      by_cases hwd : wideE 0 (intsOf e) = 0
      · by_cases hnu : numE chkR 0 (numsOf e) = 0
        · have HT2 := Lib.hid (HT.out.trans (by rw [if_neg (fun h => h hwd), if_neg (fun h => h hnu)]))
          have cw2 := cw.out
          unfold WPost at cw2
          rw [hwd, hnu] at cw2
          clear cw
          have cw := Lib.hid cw2
          clear cw2 hwd hnu
          go_wp2_with (first
            | (refine wpList_load_row rfl 39 _ rfl _ rfl 39 _ (0, 0) _ E3.out Tryz.underlying39 rfl (by kernel_rfl) ?_)
            | (go_at_call 15; go_must (refine cw.out.mono ?_); rintro r W5 ⟨rfl, hw5, hk5⟩; have c2 := hw5.cell2; have c3 := hw5.cell3; obtain ⟨p5, _, hb5⟩ := hw5; have HB5 := Lib.hid hb5; have K5 := Lib.hid hk5; clear hb5 hk5)
            | (go_at_call 16; go_must (refine (bstring_any _ _ _ _ _ _ _ HB5.out (words_ne e)).mono ?_); rintro r W6 ⟨rfl, hk6⟩; have K6 := Lib.hid (K5.out.trans hk6); clear hk6))
          go_ret2
          rw [HT2.out]
          exact ⟨rfl, B2.out.trans K6.out.low⟩
        · have HT2 := Lib.hid (HT.out.trans (by rw [if_neg (fun h => h hwd), if_pos hnu]))
          have t3 : (numE chkR 0 (numsOf e) != 0) = true := by rw [bne_iff_ne]; exact hnu
          have cw2 := cw.out
          unfold WPost at cw2
          rw [hwd] at cw2
          clear cw
          have cw := Lib.hid cw2
          clear cw2
          clear hnu hwd
          go_wp2_with (first
            | (refine wpList_load_row rfl 39 _ rfl _ rfl 39 _ (0, 0) _ E3.out Tryz.underlying39 rfl (by kernel_rfl) ?_)
            | (go_at_call 15; go_must (refine cw.out.mono ?_); rintro r W5 ⟨rfl, hw5, hk5⟩; have c2 := hw5.cell2; have c3 := hw5.cell3; have HW5 := Lib.hid hw5; have K5 := Lib.hid hk5; clear hw5 hk5))
          go_quiet (fail)
          go_wp2
          go_ret2
          rw [HT2.out]
          exact ⟨rfl, below_drewN (B2.out.trans K5.out.low) _⟩
      · have HT2 := Lib.hid (HT.out.trans (by rw [if_pos hwd]))
        have t2 : (wideE 0 (intsOf e) != 0) = true := by rw [bne_iff_ne]; exact hwd
        clear hwd
        go_wp2_with (first
          | (refine wpList_load_row rfl 39 _ rfl _ rfl 39 _ (0, 0) _ E3.out Tryz.underlying39 rfl (by kernel_rfl) ?_)
          | (go_at_call 15; go_must (refine cw.out.mono ?_); rintro r W5 ⟨rfl, hw5, hk5⟩; have c2 := hw5.cell2; have c3 := hw5.cell3; have HW5 := Lib.hid hw5; have K5 := Lib.hid hk5; clear hw5 hk5))
        go_quiet (fail)
        go_wp2
        go_ret2
        rw [HT2.out]
        exact ⟨rfl, below_drewN (B2.out.trans K5.out.low) _⟩

theorem text_any (w : World) (e : Ed) (ga : Option Addr) (gc : Nat) (hg : GapAt w w.heap.size ga gc e.gaps) (hsz : Sized e) (hgl : Gl w) (hB : 9 ≤ w.heap.size) :
    Calls Tryz.prog 6 #[.agg (edC e (.slice ga e.gaps.length gc))] w (TxPost w (txt chkR e)) := by
  by_cases hf : formI e = 0
  · exact text_ok w e ga gc hg hsz hgl hB hf
  · exact text_form w e ga gc hg hf
end Go.Proofs.YtbnnccnicfddlaaGreatDoor
