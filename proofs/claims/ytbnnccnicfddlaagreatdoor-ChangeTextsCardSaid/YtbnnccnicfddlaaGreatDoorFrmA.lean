/- change.same, change.form: the walks. · change.form: the walk. -/
import Derived.Test.YtbnnccnicfddlaaGreatDoorEq3a
import Derived.Test.YtbnnccnicfddlaaGreatDoorEq3b
import Derived.Test.YtbnnccnicfddlaaGreatDoorEq3c
import Derived.Test.YtbnnccnicfddlaaGreatDoorEq3d
import Derived.Deep.RegionWith
set_option linter.unusedSimpArgs false
set_option linter.unusedVariables false
namespace Go.Proofs.YtbnnccnicfddlaaGreatDoor
open Go.RowKit Go.Shelf Kp
attribute [local go_sem] edC_size edC_0 edC_1 edC_2 edC_3 edC_4 edC_5 edC_6 edC_7 edC_8 edC_9 edC_10 edC_11 edC_12 edC_13 edC_14 edC_15 edC_16 edC_17 edC_18 edC_19 edC_20 edC_21 edC_22 edC_23 edC_24 edC_25 edC_26 edC_27 edC_28 edC_29 edC_30 edC_31 edC_32 edC_33 edC_34 edC_35 edC_36

theorem same_any (w : World) (a b : Ed) (ga gb : Option Addr) (ca cb : Nat) (ha : GapAt w w.heap.size ga ca a.gaps) (hb : GapAt w w.heap.size gb cb b.gaps) :
    Calls Tryz.prog 21 #[.agg (edC a (.slice ga a.gaps.length ca)), .agg (edC b (.slice gb b.gaps.length cb))] w fun e w' => e = .returned (.bool (sameE a b)) ∧ Below w.heap.size w w' := by
  cases tkind : ((a.kind == b.kind))
  · exact same_0 w a b ga gb ca cb ha hb tkind
  cases tindex : ((a.index == b.index))
  · exact same_1 w a b ga gb ca cb ha hb tkind tindex
  cases tside : (sideB a b)
  · exact same_2 w a b ga gb ca cb ha hb tkind tindex tside
  cases topn : (opnB a b)
  · exact same_3 w a b ga gb ca cb ha hb tkind tindex tside topn
  cases tsize : (sizeB a b)
  · exact same_4 w a b ga gb ca cb ha hb tkind tindex tside topn tsize
  cases tbw : ((a.bwidth == b.bwidth))
  · exact same_5 w a b ga gb ca cb ha hb tkind tindex tside topn tsize tbw
  cases tbd : ((a.bdepth == b.bdepth))
  · exact same_6 w a b ga gb ca cb ha hb tkind tindex tside topn tsize tbw tbd
  cases tbl : ((a.blength == b.blength))
  · exact same_7 w a b ga gb ca cb ha hb tkind tindex tside topn tsize tbw tbd tbl
  cases tbc : ((a.bcount == b.bcount))
  · exact same_8 w a b ga gb ca cb ha hb tkind tindex tside topn tsize tbw tbd tbl tbc
  cases tbco : ((a.bcost == b.bcost))
  · exact same_9 w a b ga gb ca cb ha hb tkind tindex tside topn tsize tbw tbd tbl tbc tbco
  cases tgaps : ((a.gaps == b.gaps))
  · exact same_10 w a b ga gb ca cb ha hb tkind tindex tside topn tsize tbw tbd tbl tbc tbco tgaps
  cases tload : (loadB a b)
  · exact same_11 w a b ga gb ca cb ha hb tkind tindex tside topn tsize tbw tbd tbl tbc tbco tgaps tload
  cases talw : (alwB a b)
  · exact same_12 w a b ga gb ca cb ha hb tkind tindex tside topn tsize tbw tbd tbl tbc tbco tgaps tload talw
  cases ttile : (tileB a b)
  · exact same_13 w a b ga gb ca cb ha hb tkind tindex tside topn tsize tbw tbd tbl tbc tbco tgaps tload talw ttile
  cases tnum : ((a.number == b.number))
  · exact same_14 w a b ga gb ca cb ha hb tkind tindex tside topn tsize tbw tbd tbl tbc tbco tgaps tload talw ttile tnum
  cases ttext : ((a.text == b.text))
  · exact same_15 w a b ga gb ca cb ha hb tkind tindex tside topn tsize tbw tbd tbl tbc tbco tgaps tload talw ttile tnum ttext
  exact same_16 w a b ga gb ca cb ha hb tkind tindex tside topn tsize tbw tbd tbl tbc tbco tgaps tload talw ttile tnum ttext

theorem gapAt_nil' (w : World) (B : Nat) : GapAt w B none 0 [] := ⟨Nat.le_refl _, by unfold maxLen; omega, fun h => absurd h (by simp)⟩
def UsPost (w : World) (e : Ed) (r : Ending) (w' : World) : Prop := ∃ gb cb, r = .returned (.agg (edC (usedE e) (.slice gb (usedE e).gaps.length cb))) ∧ GapAt w' w'.heap.size gb cb (usedE e).gaps ∧ Below w.heap.size w w'
theorem used_any (w : World) (e : Ed) (ga : Option Addr) (gc : Nat) (hk : 1 ≤ e.kind ∧ e.kind ≤ 12) (hg : GapAt w w.heap.size ga gc e.gaps) : Calls Tryz.prog 22 #[.agg (edC e (.slice ga e.gaps.length gc))] w (UsPost w e) := by
  obtain ⟨k1, k2⟩ := hk
  have nil : ∀ w' : World, Below w.heap.size w w' → (usedE e).gaps = [] → UsPost w e (.returned (.agg (edC (usedE e) nilS))) w' := fun w' hB h0 => ⟨none, 0, by rw [h0]; rfl, by rw [h0]; exact gapAt_nil' _ _, hB⟩
  have hx : e.kind = 1 ∨ e.kind = 2 ∨ e.kind = 3 ∨ e.kind = 4 ∨ e.kind = 5 ∨ e.kind = 6 ∨ e.kind = 7 ∨ e.kind = 8 ∨ e.kind = 9 ∨ e.kind = 10 ∨ e.kind = 11 ∨ e.kind = 12 := by omega
  rcases hx with h | h | h | h | h | h | h | h | h | h | h | h
  · refine (used_1 e ga e.gaps.length gc h w).mono ?_
    rintro r w' ⟨rfl, hB⟩
    exact nil w' hB (by unfold usedE; simp [h, ed0])
  · refine (used_2 e ga e.gaps.length gc h w).mono ?_
    rintro r w' ⟨rfl, hB⟩
    exact nil w' hB (by unfold usedE; simp [h, ed0])
  · refine (used_3 e ga e.gaps.length gc h w).mono ?_
    rintro r w' ⟨rfl, hB⟩
    exact nil w' hB (by unfold usedE; simp [h, ed0])
  · refine (used_4 e ga e.gaps.length gc h w).mono ?_
    rintro r w' ⟨rfl, hB⟩
    exact nil w' hB (by unfold usedE; simp [h, ed0])
  · refine (used_5 e ga e.gaps.length gc h w).mono ?_
    rintro r w' ⟨rfl, hB⟩
    exact nil w' hB (by unfold usedE; simp [h, ed0])
  · refine (used_6 e ga e.gaps.length gc h w).mono ?_
    rintro r w' ⟨rfl, hB⟩
    exact nil w' hB (by unfold usedE; simp [h, ed0])
  · refine (used_7 e ga e.gaps.length gc h w).mono ?_
    rintro r w' ⟨rfl, hB⟩
    have hgp : (usedE e).gaps = e.gaps := by unfold usedE; simp [h]
    exact ⟨ga, gc, by rw [hgp], by rw [hgp]; exact (hg.below hB).more hB.size, hB⟩
  · refine (used_8 e ga e.gaps.length gc h w).mono ?_
    rintro r w' ⟨rfl, hB⟩
    exact nil w' hB (by unfold usedE; simp [h, ed0])
  · refine (used_9 e ga e.gaps.length gc h w).mono ?_
    rintro r w' ⟨rfl, hB⟩
    exact nil w' hB (by unfold usedE; simp [h, ed0])
  · refine (used_10 e ga e.gaps.length gc h w).mono ?_
    rintro r w' ⟨rfl, hB⟩
    exact nil w' hB (by unfold usedE; simp [h, ed0])
  · refine (used_11 e ga e.gaps.length gc h w).mono ?_
    rintro r w' ⟨rfl, hB⟩
    exact nil w' hB (by unfold usedE; simp [h, ed0])
  · refine (used_12 e ga e.gaps.length gc h w).mono ?_
    rintro r w' ⟨rfl, hB⟩
    exact nil w' hB (by unfold usedE; simp [h, ed0])

end Go.Proofs.YtbnnccnicfddlaaGreatDoor
namespace Go.Proofs.YtbnnccnicfddlaaGreatDoor
open Go.RowKit Go.Shelf Kp
attribute [local go_sem] edC_size edC_0

/-- change.form -/
def formI (e : Ed) : Int := if e.kind < 1 ∨ 12 < e.kind then 8 else if sameE e (usedE e) = true then 0 else 9

set_option maxRecDepth 100000 in
set_option maxHeartbeats 2000000 in
theorem form_any (w : World) (e : Ed) (ga : Option Addr) (gc : Nat) (hg : GapAt w w.heap.size ga gc e.gaps) :
    Calls Tryz.prog 11 #[.agg (edC e (.slice ga e.gaps.length gc))] w fun r w' => r = .returned (.int .i64 (formI e)) ∧ Below w.heap.size w w' := by
  by_cases h1 : e.kind < 1
  · have HF := Lib.hid (show formI e = 8 by unfold formI; rw [if_pos (.inl h1)])
    go_enter Tryz.func11, Tryz.ntmps11
    go_wp2
    go_ret
    exact ⟨by rw [HF.out]; rfl, (Below.refl _ _).alloc (Nat.le_refl _) _⟩
  by_cases h2 : 12 < e.kind
  · have HF := Lib.hid (show formI e = 8 by unfold formI; rw [if_pos (.inr h2)])
    go_enter Tryz.func11, Tryz.ntmps11
    go_wp2
    go_ret
    exact ⟨by rw [HF.out]; rfl, (Below.refl _ _).alloc (Nat.le_refl _) _⟩
  have hB0 : Below w.heap.size w (w.alloc (.cells (edC e (.slice ga e.gaps.length gc)) 39)) := (Below.refl _ _).alloc (Nat.le_refl _) _
  have HGP := Lib.hid hg
  have HB0 := Lib.hid hB0
  have E0 := Lib.hid (show EdAt (w.alloc (.cells (edC e (.slice ga e.gaps.length gc)) 39)).drew w.heap.size e (.slice ga e.gaps.length gc) from EdAt.new w e _)
  have mixed : Tryz.prog.follows .mixedOrders = true := by kernel_rfl
  clear hg hB0
  go_enter Tryz.func11, Tryz.ntmps11
  go_upto_region 3 with fail
  refine wp_region_any mixed ?_
  refine wpAny_ready (rs := [0, 1]) (by kernel_rfl) (by simp) ?_
  refine AllReady.cons rfl (fun K hK => ?_) ?_
  · refine wp_load_row 39 _ rfl _ rfl 39 _ (0, 0) _ E0.out Tryz.underlying39 rfl (by kernel_rfl) ?_
    refine hK _ _ ?_
    clear hK K
    refine wpAny_ready (rs := [1]) (by kernel_rfl) (by simp) ?_
    refine AllReady.cons rfl (fun K hK => ?_) ?_
    · refine wp_load_row 39 _ rfl _ rfl 39 _ (0, 0) _ E0.out Tryz.underlying39 rfl (by kernel_rfl) ?_
      refine hK _ _ ?_
      clear hK K
      refine wpAny_ready (rs := [2]) (by kernel_rfl) (by simp) ?_
      refine AllReady.cons rfl (fun K hK => ?_) ?_
      · go_simp
        refine (used_any _ e ga gc ⟨by omega, by omega⟩ ((HGP.out.below (HB0.out.trans (Below.drew (Below.refl _ _)))).more (by simp))).mono ?_
        rintro r W1 ⟨gb, cb, rfl, hgb, hB1⟩
        have E1 := Lib.hid (E0.out.below hB1 E0.out.lt)
        have HGB := Lib.hid hgb
        have HB1 := Lib.hid (HB0.out.trans ((Below.drew (Below.refl _ _)).trans (hB1.mono (by simp))))
        clear hgb hB1
        refine hK _ _ ?_
        clear hK K
        refine wpAny_ready (rs := [3]) (by kernel_rfl) (by simp) ?_
        refine AllReady.cons rfl (fun K hK => ?_) ?_
        · go_simp
          refine (same_any _ e (usedE e) ga gb gc cb ((HGP.out.below HB1.out).more HB1.out.size) HGB.out).mono ?_
          rintro r W2 ⟨rfl, hB2⟩
          have HB2 := Lib.hid (HB1.out.trans (hB2.mono HB1.out.size))
          clear hB2
          refine hK _ _ ?_
          clear hK K
          refine wpAny_take (i := 4) (v := ?vfrm1) rfl (by kernel_rfl) (by kernel_rfl) (by kernel_rfl) (fun _ _ _ h => h) (Or.inl ⟨by rfl, ?hyfrm1⟩) ?_
          case hyfrm1 => (intro w; go_simp; try with_reducible rfl)
          refine wpAny_done (by kernel_rfl) ?_ _
          cases hs : sameE e (usedE e)
          · have HF := Lib.hid (show formI e = 9 by unfold formI; rw [if_neg (by omega), hs]; rfl)
            try rw [hs]
            go_wp2
            go_ret
            exact ⟨by rw [HF.out]; rfl, HB2.out⟩
          · have HF := Lib.hid (show formI e = 0 by unfold formI; rw [if_neg (by omega), if_pos hs])
            try rw [hs]
            go_wp2
            go_ret
            exact ⟨by rw [HF.out]; rfl, HB2.out⟩
        exact AllReady.nil
      exact AllReady.nil
    exact AllReady.nil
  refine AllReady.cons rfl (fun K hK => ?_) ?_
  · refine wp_load_row 39 _ rfl _ rfl 39 _ (0, 0) _ E0.out Tryz.underlying39 rfl (by kernel_rfl) ?_
    refine hK _ _ ?_
    clear hK K
    refine wpAny_ready (rs := [0, 2]) (by kernel_rfl) (by simp) ?_
    refine AllReady.cons rfl (fun K hK => ?_) ?_
    · refine wp_load_row 39 _ rfl _ rfl 39 _ (0, 0) _ E0.out Tryz.underlying39 rfl (by kernel_rfl) ?_
      refine hK _ _ ?_
      clear hK K
      refine wpAny_ready (rs := [2]) (by kernel_rfl) (by simp) ?_
      refine AllReady.cons rfl (fun K hK => ?_) ?_
      · go_simp
        refine (used_any _ e ga gc ⟨by omega, by omega⟩ ((HGP.out.below (HB0.out.trans (Below.drew (Below.refl _ _)))).more (by simp))).mono ?_
        rintro r W1 ⟨gb, cb, rfl, hgb, hB1⟩
        have E1 := Lib.hid (E0.out.below hB1 E0.out.lt)
        have HGB := Lib.hid hgb
        have HB1 := Lib.hid (HB0.out.trans ((Below.drew (Below.refl _ _)).trans (hB1.mono (by simp))))
        clear hgb hB1
        refine hK _ _ ?_
        clear hK K
        refine wpAny_ready (rs := [3]) (by kernel_rfl) (by simp) ?_
        refine AllReady.cons rfl (fun K hK => ?_) ?_
        · go_simp
          refine (same_any _ e (usedE e) ga gb gc cb ((HGP.out.below HB1.out).more HB1.out.size) HGB.out).mono ?_
          rintro r W2 ⟨rfl, hB2⟩
          have HB2 := Lib.hid (HB1.out.trans (hB2.mono HB1.out.size))
          clear hB2
          refine hK _ _ ?_
          clear hK K
          refine wpAny_take (i := 4) (v := ?vfrm2) rfl (by kernel_rfl) (by kernel_rfl) (by kernel_rfl) (fun _ _ _ h => h) (Or.inl ⟨by rfl, ?hyfrm2⟩) ?_
          case hyfrm2 => (intro w; go_simp; try with_reducible rfl)
          refine wpAny_done (by kernel_rfl) ?_ _
          cases hs : sameE e (usedE e)
          · have HF := Lib.hid (show formI e = 9 by unfold formI; rw [if_neg (by omega), hs]; rfl)
            try rw [hs]
            go_wp2
            go_ret
            exact ⟨by rw [HF.out]; rfl, HB2.out⟩
          · have HF := Lib.hid (show formI e = 0 by unfold formI; rw [if_neg (by omega), if_pos hs])
            try rw [hs]
            go_wp2
            go_ret
            exact ⟨by rw [HF.out]; rfl, HB2.out⟩
        exact AllReady.nil
      exact AllReady.nil
    refine AllReady.cons rfl (fun K hK => ?_) ?_
    · go_simp
      refine (used_any _ e ga gc ⟨by omega, by omega⟩ ((HGP.out.below (HB0.out.trans (Below.drew (Below.refl _ _)))).more (by simp))).mono ?_
      rintro r W1 ⟨gb, cb, rfl, hgb, hB1⟩
      have E1 := Lib.hid (E0.out.below hB1 E0.out.lt)
      have HGB := Lib.hid hgb
      have HB1 := Lib.hid (HB0.out.trans ((Below.drew (Below.refl _ _)).trans (hB1.mono (by simp))))
      clear hgb hB1
      refine hK _ _ ?_
      clear hK K
      refine wpAny_ready (rs := [0]) (by kernel_rfl) (by simp) ?_
      refine AllReady.cons rfl (fun K hK => ?_) ?_
      · refine wp_load_row 39 _ rfl _ rfl 39 _ (0, 0) _ E1.out Tryz.underlying39 rfl (by kernel_rfl) ?_
        refine hK _ _ ?_
        clear hK K
        refine wpAny_ready (rs := [3]) (by kernel_rfl) (by simp) ?_
        refine AllReady.cons rfl (fun K hK => ?_) ?_
        · go_simp
          refine (same_any _ e (usedE e) ga gb gc cb ((HGP.out.below HB1.out).more HB1.out.size) HGB.out).mono ?_
          rintro r W2 ⟨rfl, hB2⟩
          have HB2 := Lib.hid (HB1.out.trans (hB2.mono HB1.out.size))
          clear hB2
          refine hK _ _ ?_
          clear hK K
          refine wpAny_take (i := 4) (v := ?vfrm3) rfl (by kernel_rfl) (by kernel_rfl) (by kernel_rfl) (fun _ _ _ h => h) (Or.inl ⟨by rfl, ?hyfrm3⟩) ?_
          case hyfrm3 => (intro w; go_simp; try with_reducible rfl)
          refine wpAny_done (by kernel_rfl) ?_ _
          cases hs : sameE e (usedE e)
          · have HF := Lib.hid (show formI e = 9 by unfold formI; rw [if_neg (by omega), hs]; rfl)
            try rw [hs]
            go_wp2
            go_ret
            exact ⟨by rw [HF.out]; rfl, HB2.out⟩
          · have HF := Lib.hid (show formI e = 0 by unfold formI; rw [if_neg (by omega), if_pos hs])
            try rw [hs]
            go_wp2
            go_ret
            exact ⟨by rw [HF.out]; rfl, HB2.out⟩
        exact AllReady.nil
      exact AllReady.nil
    exact AllReady.nil
  exact AllReady.nil
end Go.Proofs.YtbnnccnicfddlaaGreatDoor
