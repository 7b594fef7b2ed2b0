/- integer.divide: the long way. -/
import Derived.Test.YtbnnccnicfddlaaGreatDoorIntB
import Derived.Maps.AppendAt
set_option linter.unusedSimpArgs false
set_option linter.unusedVariables false
namespace Go.Proofs.YtbnnccnicfddlaaGreatDoor
open Go.RowKit Go.Shelf Kp
attribute [local go_sem] Oper.semAt_some

/-- the factor by which both numbers are multiplied -/
theorem factor_nat {t : Nat} (h1 : 1 ≤ t) (h2 : t < 1000000000) : ∃ f : Nat, (1000000000 : Int) / ((t : Int) + 1) = f ∧ 1 ≤ f ∧ f < 1000000000 := by
  refine ⟨1000000000 / (t + 1), by simp, ?_, ?_⟩
  · exact (Nat.le_div_iff_mul_le (by omega)).2 (by omega)
  · exact Nat.div_lt_self (by omega) (by omega)

theorem row_snoc {w : World} {base g cap : Nat} {l : List Nat} (h : w.ownsRow base 3 1 (.slice (some ⟨g, 0, none⟩) (l.length + 1) cap) (l.length + 1) ((l.map fun (d : Nat) => Value.int .i64 (d : Int)) ++ [.int .i64 0])) : Row w g cap (l ++ [0]) := by
  refine row_of_own h (by simp) (fun j hj => ?_)
  simp only [List.length_append, List.length_singleton] at hj
  by_cases hlt : j < l.length
  · rw [List.getElem?_append_left (by simpa using hlt), List.getElem?_map, List.getElem?_eq_getElem hlt]
    have : fv (l ++ [0]) j = l[j] := by unfold fv; simp [List.getElem?_append_left hlt, hlt]
    rw [this]; rfl
  · have e : j = l.length := by omega
    subst e
    have : fv (l ++ [0]) l.length = 0 := by unfold fv; simp
    rw [this]; simp

set_option maxRecDepth 100000 in
set_option maxHeartbeats 2000000 in
theorem divide_long (w : World) (a b : List Nat) (va vb : Value) (ha : SlN w w.heap.size va a) (hb : SlN w w.heap.size vb b) (hca : Canon a) (hcb : Canon b) (hlen : a.length ≤ 400000) (h2 : 2 ≤ b.length) (hge : val b ≤ val a) :
    Calls Tryz.prog 81 #[va, vb] w (DivPost w a b) := by
  have hbl : b.length ≤ a.length := by
    rcases Nat.lt_or_ge a.length b.length with h | h
    · have := val_lt_of_length hca.small hcb.trim h; omega
    · exact h
  have hcmp := Lib.hid (compare_any (w.alloc (.cells #[.slice none 0 0] 97)) a b va vb (ha.new _) (hb.new _) hca hcb (by omega))
  have HA := Lib.hid ha
  have HB := Lib.hid hb
  obtain ⟨A, ca, rfl, _, _, hac⟩ := ha
  obtain ⟨A', cb, rfl, hb1, hb2, hbc⟩ := hb
  clear hac
  obtain ⟨bb, bo, rfl, hbb, hcell⟩ := hbc (by omega)
  have hx := hcell (b.length - 1) (by omega)
  have ht1 : 1 ≤ fv b (b.length - 1) := by
    rcases snoc_cases b with rfl | ⟨m, d, rfl⟩
    · simp at h2
    · have := hcb.trim.last
      have e : fv (m ++ [d]) ((m ++ [d]).length - 1) = d := by unfold fv; simp
      rw [e]; omega
  have ht2 : fv b (b.length - 1) < 1000000000 := fv_small hcb.small _
  clear hbc hcell
  unfold maxLen at *
  have hb1e : ((b.length : Int) == 1) = false := by rw [beq_eq_false_iff_ne]; omega
  refine (callsIn_wide (n := 9)).1 (callsIn_of_wp_marks Tryz.func81 rfl trivial ?_)
  simp only [Tryz.ntmps81, List.size_toArray, List.length_cons, List.length_nil, Nat.reduceAdd, Nat.reduceSub, Array.replicate_succ, Array.replicate_zero, List.push_toArray, List.append_toArray, List.nil_append, List.cons_append]
  gi_wp2_with (refine ⟨trivial, ?_⟩; gi_at_call 99; refine (callsIn_wide.2 hcmp.out).mono ?_; clear hcmp; rintro e w1 ⟨c, rfl, h1, h2, hB⟩; have hc : ¬ c < 0 := (fun h => absurd (h1.1 h) (by omega)); clear h1 h2; have b1 := ((Bx.new w 97 (.slice none 0 0)).below hB (by simp)); have x1 : w1.cell? ⟨bb, bo + (b.length - 1), none⟩ = some (.int .i64 (fv b (b.length - 1))) := ((hB.cell (p := ⟨bb, bo + (b.length - 1), none⟩) (by simp; omega)).trans (World.cell?_alloc_lt w _ ⟨bb, bo + (b.length - 1), none⟩ hbb)).trans hx)
  obtain ⟨f, hf, hf1, hf2⟩ := factor_nat ht1 ht2
  rw [hf]
  have hB1 : Below w.heap.size w w1 := ((Below.refl _ _).alloc (Nat.le_refl _) _).trans (hB.mono (by simp))
  have hN1 : w.heap.size < w1.heap.size := b1.lt
  have fsm : Small [f] := by intro x hx; rw [List.mem_singleton.1 hx]; exact hf2
  have one1 := row_one w1 f
  refine ⟨trivial, (callsIn_wide.2 (times_any (w1.alloc (.cells #[.int .i64 f] 3)) a [f] _ _ ((HA.out.grow hB1).new _) (one1.sl one1.lt) hca.small fsm (by omega) (by simp))).mono ?_⟩
  rintro e w2 ⟨v, l, rfl, ⟨gu, cu, rfl, hgu, hru⟩, hcl, hvl, hll, hB2⟩
  have hgu' : w1.heap.size < gu := by simp at hgu; omega
  have hll' : l.length ≤ a.length + 2 := by simp at hll; omega
  have hB02 : Below w.heap.size w w2 := hB1.trans (((Below.refl _ _).alloc (by omega) _).trans (hB2.mono (by simp; omega)))
  have b2 := (b1.alloc (.cells #[.int .i64 f] 3)).below hB2 (by simp; omega)
  have hown := own_of_row (base := w1.heap.size + 1) hru hgu'
  obtain ⟨i0, hi, hz0, hz1, hz2⟩ := info_parts int_info
  have hN2 : w1.heap.size + 1 ≤ w2.heap.size := by have := hB2.size; simpa using this
  have H := Lib.hid hf
  clear hf x1 hx
  gi_wp2_with (gi_at_builtin; refine wpListIn_append_own _ rfl _ _ 97 rfl (w1.heap.size + 1) 3 i0 (.int .i64 0) 1 8 Tryz.underlying97 hi hz0 hz1 hz2 rfl (by decide) _ _ _ rfl (hown.alloc _) ⟨w2.heap.size, 0, none⟩ 1 1 [.int .i64 0] rfl rfl (cell_one_new _ _ _) (by simp [Value.oneCell']) (by unfold maxLen; omega) (by omega) (by simp; omega) ?_; intro v' w3 hown3 hgrow _; obtain ⟨gv, capv, rfl⟩ := ownsRow_succ hown3)
  have hru3 : Row w3 gv capv (l ++ [0]) := row_snoc hown3
  have hgv : w1.heap.size + 1 ≤ gv := (hown3.lt gv rfl).1
  have hgl : gv < w3.heap.size := hru3.lt
  have hB03 : Below w.heap.size w w3 := (hB02.alloc (by omega) _).grown hgrow (by simp; omega) (fun k e => by have e' : gu = k := Option.some.inj e; omega)
  have b3 : Bx w3 w.heap.size 97 (.slice none 0 0) := (hgrow.block _ (by simp; omega) (fun e => by have e' : w.heap.size = gu := Option.some.inj e; omega)).trans (b2.alloc _)
  have one3 := row_one w3 f
  have hN3 : w.heap.size < w3.heap.size := b3.lt
  clear hgrow hown3 hown hru b2 one1 b1 hB2
  refine ⟨trivial, (callsIn_wide.2 (times_any (w3.alloc (.cells #[.int .i64 f] 3)) b [f] _ _ ((HB.out.grow hB03).new _) (one3.sl one3.lt) hcb.small fsm (by omega) (by simp))).mono ?_⟩
  rintro e w4 ⟨v, tv, rfl, ⟨gb, cv, rfl, hgb, hrv⟩, hcv, hvv, hlv, hB4⟩
  have hgb' : w3.heap.size < gb := by simp at hgb; omega
  have hlv' : tv.length ≤ b.length + 2 := by simp at hlv; omega
  have hru4 := (hru3.alloc (.cells #[.int .i64 f] 3)).below hB4 (by simp; omega)
  have b4 := (b3.alloc (.cells #[.int .i64 f] 3)).below hB4 (by simp; omega)
  have hB04 : Below w.heap.size w w4 := hB03.trans (((Below.refl _ _).alloc (by omega) _).trans (hB4.mono (by simp; omega)))
  have hN4 : w3.heap.size + 1 ≤ w4.heap.size := by have := hB4.size; simpa using this
  have hgbl : gb < w4.heap.size := hrv.lt
  clear b3 hru3 one3 hB4 hB03 hB02 hi hz0 hz1 hz2
  have c0 := b4.cell
  have f0 := b4.frozen
  have hla : a.length ≤ l.length := by
    rcases Nat.lt_or_ge l.length a.length with h | h
    · have h1 := val_lt_of_length hcl.small hca.trim h
      have h3 : val a * 1 ≤ val a * f := Nat.mul_le_mul_left _ hf1
      rw [hvl, val_one] at h1
      omega
    · exact h
  have hnot : decide ((l.length : Int) + 1 < (a.length : Int) + 1) = false := by simp; omega
  gi_wp2_with fail
  gi_loopw [44] (fun _ wr => wr = ((w4.alloc (.cells #[.slice (some ⟨gv, 0, none⟩) (l.length + 1) capv] 97)).alloc (.cells #[.slice (some ⟨gb, 0, none⟩) tv.length cv] 97))) (fun _ _ => 0)
  case atStart => rfl
  case round =>
    subst hrel
    have hvge : val b ≤ val tv := by rw [hvv, val_one]; exact Nat.le_mul_of_pos_right _ hf1
    have htb : b.length ≤ tv.length := by
      rcases Nat.lt_or_ge tv.length b.length with h | h
      · have := val_lt_of_length hcv.small hcb.trim h; omega
      · exact h
    have htl : tv.length ≤ l.length := by
      rcases Nat.lt_or_ge l.length tv.length with h | h
      · have h1 := val_lt_of_length hcl.small hcv.trim h
        rw [hvl, hvv] at h1
        have : val b * val [f] ≤ val a * val [f] := Nat.mul_le_mul_right _ hge
        omega
      · exact h
    obtain ⟨mq, hmq⟩ : ∃ mq, l.length + 1 = mq + tv.length := ⟨l.length + 1 - tv.length, by omega⟩
    have em : (l.length : Int) + 1 - tv.length = (mq : Int) := by omega
    have hmk := run_make_ints mq (by omega)
    rw [← em] at hmk
    have HM := Lib.hid hmq
    have HE := Lib.hid em
    have hlt4 : w.heap.size < w4.heap.size := by omega
    have hne4 : ¬ w.heap.size = w4.heap.size := by omega
    have hne5 : ¬ w.heap.size = w4.heap.size + 1 := by omega
    have hne6 : ¬ w.heap.size = w4.heap.size + 1 + 1 := by omega
    have hl4 : w.heap.size < w4.heap.size + 1 := by omega
    have hl5 : w.heap.size < w4.heap.size + 1 + 1 := by omega
    clear hmq em hnot
    gi_wp2_with (refine ⟨trivial, ?_⟩; gi_at_call 102; refine (callsIn_wide.2 (backward_any _ _ _ _)).mono ?_; rintro e w' ⟨rfl, rfl⟩)
    have hmq := HM.out
    refine wpIn_rangeAt (gf := 114) (lb := #[.pointer (some ⟨w4.heap.size + 3, 0, none⟩)]) rfl (enters_of Tryz.func114 (by kernel_rfl) rfl)
      (backward1_seq (w4.heap.size + 3) (some ⟨w4.heap.size + 2, 0, none⟩) mq mq (fun _ _ => True) (by omega)) (fun k x ⟨_, _, e⟩ => by rw [e]; rfl)
      (DvLoop w w4.heap.size gv capv gb cv tv (val a * f) mq (l.length + 1)) (fun _ _ _ => False) (fun k W W' ⟨u, q, h⟩ hs => ⟨u, q, h.stays hs (by simp; omega)⟩) (fun c k W W' h hs => h) (fun k W ⟨u, q, h⟩ => h.back) ?start ?round ?done ?stop
    case start =>
      have hsz : (w4.setCell ⟨w.heap.size, 0, none⟩ (.slice (some ⟨w4.heap.size + 1 + 1, 0, none⟩) mq mq)).heap.size = w4.heap.size := by simp [World.setCell]
      have hz := row_zeros (((w4.setCell ⟨w.heap.size, 0, none⟩ (.slice (some ⟨w4.heap.size + 1 + 1, 0, none⟩) mq mq)).alloc (.cells #[.slice (some ⟨gv, 0, none⟩) (l.length + 1) capv] 97)).alloc (.cells #[.slice (some ⟨gb, 0, none⟩) tv.length cv] 97)) mq (by omega)
      simp only [World.size_alloc, hsz] at hz
      have hsm : Small (l ++ [0]) := hcl.small.snoc (by decide)
      refine ⟨l ++ [0], List.replicate mq 0, ((((b4.put _).alloc _).alloc _).alloc _).alloc _, (((Bx.at_ hsz).alloc _).alloc _).alloc _, ((Bx.at_ (by simp [hsz])).alloc _).alloc _, Bx.at_ (by simp [hsz]), ?_, ?_, hz.alloc _, by simp, by simp, ?_, ?_⟩
      · exact ((((hru4.far (by simp; omega) _).alloc _).alloc _).alloc _).alloc _
      · exact ((((hrv.far (by simp; omega) _).alloc _).alloc _).alloc _).alloc _
      · refine DvM.start hsm (by simp; omega) (by rw [val_snoc_zero, hvl, val_one]) (by unfold fv; simp) (by omega) (val_ge hcv.trim (by intro h0; rw [h0, List.length_nil] at htb; omega))
      · have h1 : Below w.heap.size w (w4.setCell ⟨w.heap.size, 0, none⟩ (.slice (some ⟨w4.heap.size + 1 + 1, 0, none⟩) mq mq)) := hB04.setCell (p := ⟨w.heap.size, 0, none⟩) (Nat.le_refl _) _
        exact (((h1.alloc (by rw [hsz]; omega) _).alloc (by simp [hsz]; omega) _).alloc (by simp [hsz]; omega) _).alloc (by simp [hsz]; omega) _
    case round =>
      have hn2 : 2 ≤ tv.length := by omega
      have hgw : w.heap.size < gv := by omega
      have hguN : gv < w4.heap.size := by omega
      have hgg : gv ≠ gb := by omega
      have hm4 : l.length + 1 ≤ 500000 := by omega
      have hv1 : 1 ≤ fv tv (tv.length - 1) := by
        rcases snoc_cases tv with rfl | ⟨m, d, rfl⟩
        · exact absurd hn2 (by simp)
        · have := hcv.trim.last
          have e : fv (m ++ [d]) ((m ++ [d]).length - 1) = d := by unfold fv; simp
          rw [e]; omega
      have hvs := hcv.small
      clear hvge htb htl hmk HE hla c0 f0 b4 hru4 hrv hcl hvl hvv hcv hll hlv hll' hlv' hgu hgu' hgb hgb' hgv hgl hB04 hB1 hB hN1 hN2 hN3 hN4 ht1 ht2 fsm H HA HB hca hcb hbb hb1 hb2 hc hb1e hbl hge h2 hlen
      intro lp k x W K hk hx hi hK
      obtain ⟨v, _, rfl⟩ := hx
      have HK := Lib.hid hK
      clear hK
      gi_wp2
      refine HK.out _ (fun W2 hi2 _ => ?_)
      clear HK hi
      obtain ⟨u, q, h⟩ := hi2
      have c1 := h.bq.cell
      have c2 := h.bu.cell
      have c3 := h.bv.cell
      have hlu := h.lu
      have hlq := h.lq
      have hdl := h.dm.len
      have htop := h.dm.top (v := tv) (by omega) hvs rfl (by omega) rfl
      have hlt := h.dm.lt (by omega)
      rw [hlq] at htop hlt
      have HE1 := Lib.hid (estimate_any W2 gv capv u tv (some ⟨gb, 0, none⟩) cv (mq - 1 - k) W2.heap.size h.ru (h.rv.sl h.rv.lt) h.dm.small hvs hn2 (by omega) (by omega) hv1 htop hlt)
      have h' := Lib.hid h
      rw [hlu] at HE1
      have HDL := Lib.hid hdl
      have HLQ := Lib.hid hlq
      have HLU := Lib.hid hlu
      have hml : mq ≤ 500000 := by omega
      clear htop hlt hlu hlq hdl h hmq
      gi_wp2_with (refine ⟨trivial, ?_⟩; gi_at_call 103; refine (CallsIn.inRound lp (callsIn_wide.2 HE1.out)).mono ?_; clear HE1; rintro e w5 ⟨d, n5, rfl, hd1, hd2, rfl⟩)
      have HD := Lib.hid hd1
      clear hd1
      gi_loopw [10] (fun d wr => DvInLoop W2 gv capv tv u (mq - 1 - k) d wr) (fun d _ => (intOf d).toNat)
      case atStart => exact ⟨d, u, rfl, h'.out.ru, rfl, h'.out.dm.small, fun _ _ => rfl, rfl, HD.out, hd2, (Only.refl _ _).drewN n5⟩
      case round =>
        obtain ⟨d', x, rfl, hrel⟩ := hrel
        clear HD hd2
        have e1 := (h'.out.bu.only hrel.only (by omega))
        have e2 := (h'.out.bv.only hrel.only (by omega))
        have g1 := e1.cell
        have g2 := e2.cell
        have g3 := e1.frozen
        have HT := Lib.hid (take_any wr gv capv x tv (.slice (some ⟨gb, 0, none⟩) tv.length cv) (mq - 1 - k) d' hrel.row ((h'.out.rv.only hrel.only (Ne.symm hgg)).slF (Ne.symm hgg)) hrel.small hvs (by have := hrel.len; have := HLU.out; have := HM.out; omega) hrel.bound (by have := hrel.len; have := HLU.out; omega))
        rw [hrel.len, HLU.out] at HT
        have HR := Lib.hid hrel
        clear hrel
        gi_wp2_with fail
        refine ⟨trivial, (CallsIn.inRound lp (callsIn_wide.2 HT.out)).mono ?_⟩
        clear HT
        rintro e w6 ⟨c, y, rfl, ht⟩
        have O6 := HR.out.only.trans ht.2.2.2.2.2.2
        have p1 := h'.out.bq.only O6 (by omega)
        have p2 := h'.out.bu.only O6 (by omega)
        have p3 := h'.out.bv.only O6 (by omega)
        have q1 := p1.cell
        have q2 := p2.cell
        have q2f := p2.frozen
        have q3 := p3.cell
        by_cases hc0 : c = 0
        · subst hc0
          have hn := h'.out.next hk hvs hgw hguN hgbl hgg hlt4 HR.out ht
          have hd9 := hn.1
          have HN := Lib.hid hn.2
          have z1 := (h'.out.rq.only O6 (by omega)).cell (j := mq - 1 - k) (by rw [h'.out.lq]; omega)
          have z2 := (h'.out.rq.only O6 (by omega)).frozen (mq - 1 - k)
          have i1 : ((mq - 1 - k : Nat) : Int) < mq := by omega
          clear ht O6 p1 p2 p3 hn e1 e2
          gi_wp2_with fail
          exact ⟨HN.out.1, _, _, HN.out.2⟩
        · have hcp : 0 < c := by omega
          have hcb : decide (0 < c) = true := by simpa using hcp
          have hyl := ht.2.1
          have hxl := HR.out.len
          have HRS := Lib.hid (restore_any w6 gv capv y tv (.slice (some ⟨gb, 0, none⟩) tv.length cv) (mq - 1 - k) d' ht.1 ((h'.out.rv.only O6 (Ne.symm hgg)).slF (Ne.symm hgg)) ht.2.2.1 hvs (by have := HLU.out; have := HM.out; omega) HR.out.bound (by have := HLU.out; omega))
          rw [hyl, hxl, HLU.out] at HRS
          have HTk := Lib.hid ht
          have HY : Hid (y.length = l.length + 1) := by rw [hyl, hxl, HLU.out]; exact Lib.hid rfl
          have hdb := HR.out.bound
          clear ht p1 p3 hyl hxl e1 e2 hc0
          gi_wp2_with (refine ⟨trivial, ?_⟩; gi_at_call 105; refine (CallsIn.inRound lp (callsIn_wide.2 HRS.out)).mono ?_; clear HRS; rintro e w7 ⟨c2, z, rfl, hr7⟩; have hless := HR.out.less HTk.out hr7 hcp; have hle1 := hless.1; have HL := Lib.hid hless.2; have y2 := p2.only hr7.2.2.2.2.2.2 (by omega); have y2c := y2.cell; have y2f := y2.frozen; clear hless hr7)
          rw [HY.out]
          have hfin := HL.out
          have e9 : (d' : Int) - 1 = ((d' - 1 : Nat) : Int) := by omega
          rw [e9]
          exact ⟨⟨d' - 1, z, rfl, hfin.row.far (p := ⟨w4.heap.size, 0, none⟩) (by simp; omega) _, hfin.len, hfin.small, hfin.same, hfin.seg, hfin.lt, hfin.bound, hfin.only.again y2⟩, by simp [intOf]; omega⟩
    case done =>
      rintro D W hD ⟨u, q, h⟩ hK
      have hsm := h.dm.small
      have hbl4 : 0 < val b := Nat.lt_of_lt_of_le (by decide : 0 < 1) (Nat.le_trans (Nat.one_le_pow _ _ (by decide)) (val_ge hcb.trim (by intro h0; rw [h0, List.length_nil] at h2; omega)))
      have hdone : val q = val a / val b ∧ val u = (val a % val b) * f := by
        have hd := h.dm
        rw [hvv, val_one] at hd
        rw [← h.lq] at hd
        exact hd.done hf1 hbl4
      have hT := Lib.hid (trim_row h.ru h.lu)
      have hru := h.ru.trimmed
      have hlt : (trimL u).length ≤ l.length + 1 := by have := trimL_length u; have := h.lu; omega
      have hDS := Lib.hid (dshort_any W (trimL u) (.slice (some ⟨gv, 0, none⟩) (trimL u).length capv) f (hru.sl hru.lt) (trimL_canon hsm).small hf1 hf2 (by omega))
      have c2 := h.bu.cell
      have HH := Lib.hid h
      have HDn := Lib.hid hdone
      clear hvge htb htl hmk HE hla c0 f0 b4 hru4 hrv hcl hvl hvv hcv hll hlv hll' hlv' hgu hgu' hgb hgb' hgv hgl hB04 hB1 hB hN1 hN2 hN3 hN4 ht1 ht2 fsm H HA HB hca hcb hbb hb1 hb2 hc hb1e hbl hge h2 h hdone hru hsm hbl4 hmq HM
      gi_wp2_with (first
        | (refine ⟨trivial, ?_⟩; gi_at_call 100; refine (callsIn_wide.2 hDS.out).mono ?_; clear hDS; rintro e w6 ⟨vq, vr, ql, rl, rfl, ⟨gq, cq, rfl, hgq, hrq⟩, hcq, hvq, ⟨gr, cr, rfl, hgr, hrr⟩, hcr, hvr, hB6⟩; have p1 := HH.out.bq.below hB6 HH.out.bq.lt; have q1 := p1.cell; have q2 := p1.frozen; have hT2 := Lib.hid (trim_row (HH.out.rq.below hB6 HH.out.rq.lt) HH.out.lq))
        | (refine ⟨trivial, ?_⟩; gi_at_call 98; have _t := hT; refine (callsIn_wide.2 hT.out).mono ?_; clear hT; rintro e w' ⟨rfl, rfl⟩)
        | (refine ⟨trivial, ?_⟩; gi_at_call 98; refine (callsIn_wide.2 hT2.out).mono ?_; clear hT2; rintro e w' ⟨rfl, rfl⟩))
      obtain ⟨X, hX⟩ : ∃ X, w6.setCell ⟨w.heap.size, 0, none⟩ (.slice (some ⟨w4.heap.size + 2, 0, none⟩) (trimL q).length mq) = X := ⟨_, rfl⟩
      have hWw : w.heap.size < W.heap.size := HH.out.bq.lt
      have hDk : w6.heap[D]? = some (.deferred (some [])) := (hB6.block D (Array.getElem?_eq_some_iff.1 hK).1).trans hK
      have k1 : X.heap[D]? = some (.deferred (some [])) := by rw [← hX]; exact (KeepsOthers.setCell _ _ _).same D _ hDk rfl
      have k2 : Bx X w.heap.size 97 (.slice (some ⟨w4.heap.size + 2, 0, none⟩) (trimL q).length mq) := by rw [← hX]; exact p1.put _
      have k3 : Row X (w4.heap.size + 2) mq (trimL q) := by rw [← hX]; exact ((HH.out.rq.below hB6 HH.out.rq.lt).far (by simp; omega) _).trimmed
      have k4 : Row X gq cq ql := by rw [← hX]; exact hrq.far (by simp; omega) _
      have k5 : Below w.heap.size w X := by rw [← hX]; exact (HH.out.low.trans (hB6.mono (by omega))).setCell (p := ⟨w.heap.size, 0, none⟩) (Nat.le_refl _) _
      rw [hX]
      have hs := Stays.putObj (n0 := w.heap.size) (.deferred none) k1 rfl (by simp at hD; omega)
      have hcl := hs.cell k2.cell
      refine ⟨by simp, .inl ⟨_, _, rfl, run_takeDeferred k1, ?_⟩⟩
      have r1 := k3.stays hs
      have r2 := k4.stays hs
      refine ⟨.tuple #[.slice (some ⟨w4.heap.size + 2, 0, none⟩) (trimL q).length mq, .slice (some ⟨gq, 0, none⟩) ql.length cq], by simp [results, Tryz.results81, go_sem, hcl], _, _, trimL q, ql, rfl, r1.sl r1.lt, trimL_canon HH.out.dm.smallq, ?_, r2.sl r2.lt, hcq, ?_, k5.trans hs.below⟩
      · rw [val_trimL]; exact HDn.out.1
      · rw [hvq, val_trimL, HDn.out.2, Nat.mul_div_cancel _ hf1]
    case stop =>
      rintro D c k W hD hk h
      exact h.elim

theorem divide_any (w : World) (a b : List Nat) (va vb : Value) (ha : SlN w w.heap.size va a) (hb : SlN w w.heap.size vb b) (hca : Canon a) (hcb : Canon b) (hlen : a.length ≤ 400000) (hb0 : b ≠ []) :
    Calls Tryz.prog 81 #[va, vb] w (DivPost w a b) := by
  rcases Nat.lt_or_ge (val a) (val b) with hlt | hge
  · exact divide_less w a b va vb ha hb hca hcb (by omega) hlt
  · match b, hb0 with
    | [d], _ => exact divide_one w a d va vb ha hb hca hcb (by omega) hge
    | d :: d2 :: r, _ => exact divide_long w a _ va vb ha hb hca hcb hlen (by simp) hge
end Go.Proofs.YtbnnccnicfddlaaGreatDoor
