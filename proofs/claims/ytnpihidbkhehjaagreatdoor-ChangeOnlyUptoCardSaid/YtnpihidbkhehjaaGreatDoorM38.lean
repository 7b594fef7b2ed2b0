/- ChangeOnly of kingpostlaw58: part 38 of its proof (merged and shortened by program). -/
import Derived.Test.YtnpihidbkhehjaaGreatDoorM37
set_option linter.unusedVariables false
set_option linter.unusedSimpArgs false
set_option linter.defProp false
set_option maxHeartbeats 8000000
set_option maxRecDepth 100000
open Go.RowKit Go.Shelf Go.Proofs.Tryz
open Array renaming getElem?_eq_some_iff→Od
open Bool renaming false→N1,true→Oc
open Go renaming World→NY,Value→N2,undef→N7,wpOp_step→Ob,Calls→Of,maxLen→Ol,TypeId→Oo
open Go.AllReady renaming cons→Oj,nil→Oq
open Go.IntKind renaming i64→Oe
open Go.IntWalk renaming i64_in→Om
open Go.Lib renaming hid→NW
open Go.RowKit renaming intOf→Oh,Below→On
open Go.World renaming size_alloc→Oi
open List renaming getD_eq_getElem?_getD→N8,length_map→N9,getElem?_eq_getElem→Oa
open Nat renaming le_refl→NZ,mul_comm→Og,le_trans→Ok
open Option renaming none→N0,some→N3
open Go.Proofs.YtnpihidbkhehjaaGreatDoor
namespace Go.Proofs.YtnpihidbkhehjaaGreatDoor
section
open Kp
attribute [local go_sem] PU PT P6 Qv Qs Qh Qf Qu PV PY Qz QN QK QA QF QG QM Qx QE QI Qo Qd Qi Qt Qq
theorem nR{w:NY}{c:Nat}{t:Oo}{cs:Array N2}(h:w.heap[c]?=N3 (.cells cs t (0,0)))(i:Nat)(v:N2):(w.setCell ⟨c,i,N0⟩ v).heap[c]?=N3 (.cells (cs.setIfInBounds i v) t (0,0)):=by
 simp[World.setCell,Array.getElem?_modify,h]
theorem GH(x0 x1 x2 x3:Int)(W:NY):(binOp .neq 30 (.agg #[.int .i64 x0,.int .i64 x1,.int .i64 x2,.int .i64 x3]) (.agg #[.int .i64 x0,.int .i64 x1,.int .i64 x2,.int .i64 x3])).run prog W= .ok (.bool N1) W:=by
 rw[run_neq_struct,run_equalIn_agg _ _ _ _ _ Ou Ou]
 simp only[Program.fieldsOf,underlying30]
 simp[go_sem,Result.andThen,underlying3,isAgg3]
theorem Az{w:NY}{c:Nat}{t:Oo}{cs:Array N2}(h:w.heap[c]?=N3 (.cells cs t (0,0)))(i:Nat){v:N2}(hv:cs[i]?=N3 v):w.cell? ⟨c,i,N0⟩=N3 v:=by
 rw[←hv];simp[World.cell?,h]
theorem J8{w:NY}{c:Nat}{t:Oo}{cs:Array N2}(h:w.heap[c]?=N3 (.cells cs t (0,0)))(i:Nat):w.frozen? ⟨c,i,N0⟩=N1:=by simp[World.frozen?,h]
set_option maxHeartbeats 40000000 in
theorem wh (w : NY) (j : du) (a : fm) (e : Ed) (ga : Option Addr) (gc : Nat) (hb : bh w w.heap.size j a) (hgap : cU w w.heap.size ga gc e.gaps) (hbig : j.rings.flatten.length ≤ 4000000000) (hix : e.index ≤ 9223372036854775807) (hg : Gl w) (hB : 9 ≤ w.heap.size) :
    Of prog 3 #[.agg (dy j a), .agg (aG e (.slice ga e.gaps.length gc))] w fun r w' => r = .returned (.bool Oc) ∧ Ext w w' := by
  obtain ⟨v, hv⟩ : ∃ v, N2.slice ga e.gaps.length gc = v := ⟨_, rfl⟩
  have HV := NW hv
  rw [hv]
  have E0 := dI w (.cells (dy j a) 34) (.cells (aG e v) 50)
  have J0 : JC ((w.alloc (.cells (dy j a) 34)).alloc (.cells (aG e v) 50)) w.heap.size j a := JC.ext (NY.alloc_heap_new w _ : JC (w.alloc (.cells (dy j a) 34)) w.heap.size j a) ((Below.refl _ _).alloc (NZ _) (.cells (aG e v) 50))
  have D0 : EC ((w.alloc (.cells (dy j a) 34)).alloc (.cells (aG e v) 50)) (w.heap.size + 1) (aG e v) := by
    have := EC.new (w.alloc (.cells (dy j a) 34)) (aG e v)
    rw [Oi] at this
    exact this
  obtain ⟨w0, hw0⟩ : ∃ w0, (w.alloc (.cells (dy j a) 34)).alloc (.cells (aG e v) 50) = w0 := ⟨_, rfl⟩
  rw [hw0] at E0 J0 D0
  have HW0 := NW hw0
  have E0 := NW E0
  have J0 := NW J0
  have D0 := NW D0
  have HB := NW (fun W (h : Ext w0 W) => hb.grow (E0.out.tr h))
  have HGP := NW (fun W (h : Ext w0 W) => (hgap.below (E0.out.tr h)).more (E0.out.tr h).size)
  have HG := NW (fun W (h : Ext w0 W) => hg.keep (E0.out.tr h) hB)
  have KF := NW (zo w0 j a (HB.out _ (Ext.an _)) hbig (HG.out _ (Ext.an _)).pow)
  have KE := NW (fun W => qp W e ga gc)
  have KA := NW (fun W (h : Ext w0 W) => BY W (HG.out W h) (Ok hB (E0.out.tr h).size))
  rw [hv] at KE
  clear hb hgap hg hw0 hbig hv
  go_enter func3, ntmps3
  go_wp2_with (first
    | (go_at_call 4; fail)
    | (rw [HW0.out]; refine wpList_load_row rfl 34 _ rfl _ rfl 34 _ (0, 0) _ J0.out underlying34 rfl Ou ?_))
  refine KF.out.mono ?_
  rintro r1 W1 ⟨⟨b1, rfl, h1⟩, hX1⟩
  have X1 := NW hX1
  have H1 := NW h1
  have D1 := NW (show EC W1 (w.heap.size + 1) (aG e v) from (hX1.block _ D0.out.lt).trans D0.out)
  clear hX1 h1
  cases b1
  case false =>
    go_wp2_with (go_at_call 6; go_loud (refine (KA.out _ X1.out).mono ?_); rintro r2 W2 ⟨rfl, hX2⟩)
    go_ret
    exact ⟨rfl, E0.out.tr (X1.out.tr hX2)⟩
  have HJ := NW (H1.out (by first | rfl | trivial))
  go_wp2_with (first
    | (go_at_call 5; fail)
    | (refine fF OR _ rfl _ rfl _ D1.out Ou ?_))
  refine (KE.out _).mono ?_
  rintro r2 W2 ⟨rfl, hX2⟩
  have X2 := NW (X1.out.tr hX2)
  have D2 := NW (show EC W2 (w.heap.size + 1) (aG e v) from (hX2.block _ D1.out.lt).trans D1.out)
  have J2 := NW (JC.ext J0.out X2.out)
  clear hX2
  obtain ⟨g, hgr⟩ : ∃ g, en e = g := ⟨_, rfl⟩
  rw [hgr]
  have HGR := NW hgr
  clear hgr
  cases g
  case true =>
    go_wp2_with (go_at_call 6; go_loud (refine (KA.out _ X2.out).mono ?_); rintro r3 W3 ⟨rfl, hX3⟩)
    go_ret
    exact ⟨rfl, E0.out.tr (X2.out.tr hX3)⟩
  have AO := NW (Ik HJ.out HGR.out hix)
  have KP := NW (qP W2 j a e ga gc (HB.out _ X2.out) (HGP.out _ X2.out) AO.out (HG.out _ X2.out).maxl (HG.out _ X2.out).pow)
  rw [HV.out] at KP
  go_wp2_with (first
    | (go_at_call 7; fail)
    | (refine wpList_load_row rfl 34 _ rfl _ rfl 34 _ (0, 0) _ J2.out underlying34 rfl Ou ?_)
    | (refine wpList_load_row rfl 50 _ rfl _ rfl 50 _ (0, 0) _ D2.out underlying50 rfl Ou ?_))
  refine KP.out.mono ?_
  rintro r3 W3 ⟨a', rfl, hX3, hb3⟩
  have X3 := NW (X2.out.tr hX3)
  have X23 := NW hX3
  have B3 := NW hb3
  clear hX3 hb3
  obtain ⟨j', hj'⟩ : ∃ x, yh j e = x := ⟨_, rfl⟩
  obtain ⟨z, hz⟩ : ∃ x, yl j e = x := ⟨_, rfl⟩
  have HJ' := NW hj'
  have HZ := NW hz
  rw [hj'] at B3
  rw [hj', hz]
  clear hj' hz
  have X3' := NW (E0.out.tr X3.out)
  by_cases hz0 : z = 0
  case neg =>
    have hjj : j' = gC := by rw [← HJ'.out]; unfold yh; rw [HZ.out, if_neg hz0]
    subst hjj
    have t0 : (z != 0) = Oc := bne_iff_ne.2 hz0
    have hzz : (z == z) = Oc := Ow
    go_wp2_with (first
      | (go_at_call 8; fail)
      | (refine wpList_load_row rfl 34 _ rfl _ rfl 34 _ (0, 0) _ J4.out underlying34 rfl Ou ?_)
      | (refine wpList_load_row rfl 50 _ rfl _ rfl 50 _ (0, 0) _ D4.out underlying50 rfl Ou ?_)
      | (refine wpList_store_row rfl 34 _ _ rfl _ _ rfl rfl 34 _ (NY.alloc_heap_new W3 _) Ou Ou Ou ?_
         generalize hW4 : World.setRow _ W3.heap.size (dy gC a') = W4
         have X34 := NW (show Ext W3 W4 by rw [← hW4]; exact ah ((Below.refl _ _).alloc (NZ _) _) (NZ _) _)
         have N4 := NW (show JC W4 W3.heap.size gC a' by unfold JC; rw [← hW4]; exact setRow_heap (NY.alloc_heap_new W3 _) _)
         have X4 := NW (X3.out.tr X34.out)
         have J4 := NW (JC.ext J0.out X4.out)
         have D4 := NW (show EC W4 (w.heap.size + 1) (aG e v) from (X4.out.block _ D0.out.lt).trans D0.out)
         clear hW4))
    have KC := NW (mU W4 j a e ga gc (HB.out _ X4.out) (HGP.out _ X4.out) AO.out (HG.out _ X4.out).maxl (HG.out _ X4.out).pow)
    rw [HV.out, HZ.out] at KC
    refine KC.out.mono ?_
    rintro r4 W5 ⟨rfl, hX5⟩
    have X5 := NW (X4.out.tr hX5)
    have N5 := NW (JC.ext N4.out hX5)
    have X35 := NW (X34.out.tr hX5)
    clear hX5
    go_wp2_with (first
      | (go_at_call 6; go_loud (refine (KA.out _ X6.out).mono ?_); rintro r6 W7 ⟨rfl, hX7⟩; have X7 := NW (X6.out.tr hX7))
      | (go_at_call 9; go_loud (refine (cW W5 gC a' iS (B3.out.grow X35.out) (lK _ _)).mono ?_); rintro r5 W6 ⟨rfl, hX6⟩; have X6 := NW (X5.out.tr hX6))
      | (refine iC OR 34 #[] rfl Ou ?_)
      | (refine fE OR _ rfl _ rfl _ N5.out Ou ?_))
    go_ret
    exact ⟨rfl, E0.out.tr X7.out⟩
  subst hz0
  have hap := HZ.out
  have hjj : j' = cT j e := by rw [← HJ'.out]; unfold yh; rw [if_pos hap]
  have hje : uA j' = 0 := by
    rw [hjj]
    unfold yl at hap
    split at hap
    · cases hap
    split at hap
    · exact absurd hap OD
    split at hap
    · exact absurd hap OD
    exact hap
  have HSM := NW (show lG j' by rw [hjj]; exact AO.out.sm')
  have HJE := NW hje
  have HJJ := NW hjj
  clear hap hjj hje
  go_wp2_with (first
    | (go_at_call 10; fail)
    | (refine wpList_load_row rfl 34 _ rfl _ rfl 34 _ (0, 0) _ N4.out underlying34 rfl Ou ?_)
    | (refine wpList_store_row rfl 34 _ _ rfl _ _ rfl rfl 34 _ (NY.alloc_heap_new W3 _) Ou Ou Ou ?_
       generalize hW4 : World.setRow _ W3.heap.size (dy j' a') = W4
       have X34 := NW (show Ext W3 W4 by rw [← hW4]; exact ah ((Below.refl _ _).alloc (NZ _) _) (NZ _) _)
       have N4 := NW (show JC W4 W3.heap.size j' a' by unfold JC; rw [← hW4]; exact setRow_heap (NY.alloc_heap_new W3 _) _)
       have X4 := NW (X3.out.tr X34.out)
       clear hW4))
  refine (ld W4 j' a' (B3.out.grow X34.out) HSM.out (HG.out _ X4.out).maxl (HG.out _ X4.out).pow).mono ?_
  rw [HJE.out]
  rintro r4 W5 ⟨rfl, hX5⟩
  have X5 := NW (X4.out.tr hX5)
  have J5 := NW (JC.ext J0.out X5.out)
  have D5 := NW (show EC W5 (w.heap.size + 1) (aG e v) from (X5.out.block _ D0.out.lt).trans D0.out)
  have N5 := NW (JC.ext N4.out hX5)
  have X35 := NW (X34.out.tr hX5)
  clear hX5
  go_wp2_with (first
    | (go_at_call 8; fail)
    | (refine fF OR _ rfl _ rfl _ D5.out Ou ?_)
    | (refine fE OR _ rfl _ rfl _ J5.out Ou ?_))
  have KC := NW (mU W5 j a e ga gc (HB.out _ X5.out) (HGP.out _ X5.out) AO.out (HG.out _ X5.out).maxl (HG.out _ X5.out).pow)
  rw [HV.out, HZ.out] at KC
  refine KC.out.mono ?_
  rintro r5 W6 ⟨rfl, hX6⟩
  have X6 := NW (X5.out.tr hX6)
  have N6 := NW (JC.ext N5.out hX6)
  have J6 := NW (JC.ext J5.out hX6)
  have D6 := NW (show EC W6 (w.heap.size + 1) (aG e v) from (hX6.block _ D5.out.lt).trans D5.out)
  have X36 := NW (X35.out.tr hX6)
  have B6 := NW (B3.out.grow X36.out)
  clear hX6
  have dc := fun i => D6.out.cell i
  go_upto_if 49 with (fail)
  go_cut [7] (fun s wx => s = .int .i64 (if e.kind = 12 then e.number else e.kind) ∧ wx = W6)
  case first =>
    by_cases h12 : e.kind = 12
    · have t12 : (e.kind == 12) = Oc := beq_iff_eq.2 h12
      go_wp2_with fail
      go_meet
      exact ⟨by rw [if_pos h12], rfl⟩
    · have t12 : (e.kind == 12) = N1 := beq_eq_false_iff_ne.2 h12
      go_wp2_with fail
      go_meet
      exact ⟨by rw [if_neg h12], rfl⟩
  case rest =>
    obtain ⟨rfl, rfl⟩ := hcut
    have hk := Jp HZ.out
    rw [← HJJ.out] at hk
    obtain ⟨m, hm⟩ : ∃ m, (if e.kind = 12 then e.number else e.kind) = m := ⟨_, rfl⟩
    rw [hm] at hk ⊢
    have HS3 := NW (show w0.heap.size ≤ W3.heap.size from X3.out.size)
    clear hm HJJ HJ' HZ HJE HSM AO KF KC KE KP B6 dc
    rcases hk with ⟨rfl, hj⟩ | ⟨rfl, x, hj⟩ | ⟨rfl, hj⟩ | ⟨rfl, x, hj⟩ | ⟨rfl, x, hj⟩ | ⟨rfl, x, hj⟩ | ⟨rfl, x, hj⟩ | ⟨rfl, hj⟩ | ⟨rfl, hj⟩ | ⟨rfl, x, hj⟩ | ⟨rfl, x, hj⟩
    all_goals subst hj
    all_goals have dc := fun i => D6.out.cell i
    all_goals have nc := fun i => N6.out.cell i
    all_goals have nf := fun i => N6.out.frozen i
    all_goals have jc := fun i => J6.out.cell i
    · have NF := NW (show JC (wc.setCell ⟨W3.heap.size, 0, N0⟩ (.string (tx j.name))) W3.heap.size j a' from (nR N6.out 0 (.string (tx j.name))))
      have XF := NW (X36.out.setCell (p := ⟨W3.heap.size, 0, N0⟩) (NZ _) (.string (tx j.name)))
      have XW := NW (X6.out.setCell (p := ⟨W3.heap.size, 0, N0⟩) HS3.out (.string (tx j.name)))
      have JF := NW (JC.ext J0.out XW.out)
      have BM := NW (show bh (wc.setCell ⟨W3.heap.size, 0, N0⟩ (.string (tx j.name))) _ j a' from by
        have h1 := B3.out.grow XF.out
        have h2 := HB.out _ XW.out
        exact ⟨h1.p, h1.u, h1.o, h1.z, h1.b, h1.l, h1.s⟩)
      go_wp2_with (first
        | (go_at_call 6; go_loud (refine (KA.out _ X7.out).mono ?_); rintro r7 W8 ⟨rfl, hX8⟩; have X8 := NW (X7.out.tr hX8); clear hX8)
        | (go_at_call 9; go_loud (refine (cW _ j a' a BM.out (HB.out _ XW.out)).mono ?_); rintro r6 W7 ⟨rfl, hX7⟩; have X7 := NW (Ext.tr XW.out hX7); clear hX7)
        | (refine wpList_load_row rfl 34 _ rfl W3.heap.size rfl 34 _ (0, 0) _ NF.out underlying34 rfl Ou ?_)
        | (refine wpList_load_row rfl 34 _ rfl w.heap.size rfl 34 _ (0, 0) _ JF.out underlying34 rfl Ou ?_))
      go_ret
      exact ⟨rfl, E0.out.tr X8.out⟩
    · have NF := NW (show JC (wc.setCell ⟨W3.heap.size, 1, N0⟩ (.slice a.pa j.rings.length a.pc)) W3.heap.size j { a' with pa := a.pa, pc := a.pc } from (nR N6.out 1 (.slice a.pa j.rings.length a.pc)))
      have XF := NW (X36.out.setCell (p := ⟨W3.heap.size, 1, N0⟩) (NZ _) (.slice a.pa j.rings.length a.pc))
      have XW := NW (X6.out.setCell (p := ⟨W3.heap.size, 1, N0⟩) HS3.out (.slice a.pa j.rings.length a.pc))
      have JF := NW (JC.ext J0.out XW.out)
      have BM := NW (show bh (wc.setCell ⟨W3.heap.size, 1, N0⟩ (.slice a.pa j.rings.length a.pc)) _ j { a' with pa := a.pa, pc := a.pc } from by
        have h1 := B3.out.grow XF.out
        have h2 := HB.out _ XW.out
        exact ⟨h2.p, h1.u, h1.o, h1.z, h1.b, h1.l, h1.s⟩)
      go_wp2_with (first
        | (go_at_call 6; go_loud (refine (KA.out _ X7.out).mono ?_); rintro r7 W8 ⟨rfl, hX8⟩; have X8 := NW (X7.out.tr hX8); clear hX8)
        | (go_at_call 9; go_loud (refine (cW _ j { a' with pa := a.pa, pc := a.pc } a BM.out (HB.out _ XW.out)).mono ?_); rintro r6 W7 ⟨rfl, hX7⟩; have X7 := NW (Ext.tr XW.out hX7); clear hX7)
        | (refine wpList_load_row rfl 34 _ rfl W3.heap.size rfl 34 _ (0, 0) _ NF.out underlying34 rfl Ou ?_)
        | (refine wpList_load_row rfl 34 _ rfl w.heap.size rfl 34 _ (0, 0) _ JF.out underlying34 rfl Ou ?_))
      go_ret
      exact ⟨rfl, E0.out.tr X8.out⟩
    · have NF := NW (show JC (((wc.setCell ⟨W3.heap.size, 2, N0⟩ (.int .i64 j.origin)).setCell ⟨W3.heap.size, 3, N0⟩ (.int .i64 j.spacing)).drew) W3.heap.size j a' from (nR (nR N6.out 2 (.int .i64 j.origin)) 3 (.int .i64 j.spacing)))
      have XF := NW (((X36.out.setCell (p := ⟨W3.heap.size, 2, N0⟩) (NZ _) (.int .i64 j.origin)).setCell (p := ⟨W3.heap.size, 3, N0⟩) (NZ _) (.int .i64 j.spacing)).drew)
      have XW := NW (((X6.out.setCell (p := ⟨W3.heap.size, 2, N0⟩) HS3.out (.int .i64 j.origin)).setCell (p := ⟨W3.heap.size, 3, N0⟩) HS3.out (.int .i64 j.spacing)).drew)
      have JF := NW (JC.ext J0.out XW.out)
      have BM := NW (show bh (((wc.setCell ⟨W3.heap.size, 2, N0⟩ (.int .i64 j.origin)).setCell ⟨W3.heap.size, 3, N0⟩ (.int .i64 j.spacing)).drew) _ j a' from by
        have h1 := B3.out.grow XF.out
        have h2 := HB.out _ XW.out
        exact ⟨h1.p, h1.u, h1.o, h1.z, h1.b, h1.l, h1.s⟩)
      go_upto_region 21 with (fail)
      have s3 := nR N6.out 2 (.int .i64 j.origin)
      have q3 := Az s3 3 (v := .int .i64 e.number) rfl
      have f3 := J8 s3 3
      have o3 := Az (JC.ext J0.out (X6.out.setCell (p := ⟨W3.heap.size, 2, N0⟩) HS3.out (.int .i64 j.origin))) 3 (v := .int .i64 j.spacing) rfl
      clear s3
      go_region
      clear q3 f3 o3
      go_wp2_with (first
        | (go_at_call 6; go_loud (refine (KA.out _ X7.out).mono ?_); rintro r7 W8 ⟨rfl, hX8⟩; have X8 := NW (X7.out.tr hX8); clear hX8)
        | (go_at_call 9; go_loud (refine (cW _ j a' a BM.out (HB.out _ XW.out)).mono ?_); rintro r6 W7 ⟨rfl, hX7⟩; have X7 := NW (Ext.tr XW.out hX7); clear hX7)
        | (refine wpList_load_row rfl 34 _ rfl W3.heap.size rfl 34 _ (0, 0) _ NF.out underlying34 rfl Ou ?_)
        | (refine wpList_load_row rfl 34 _ rfl w.heap.size rfl 34 _ (0, 0) _ JF.out underlying34 rfl Ou ?_))
      go_ret
      exact ⟨rfl, E0.out.tr X8.out⟩
    · have NF := NW (show JC (wc.setCell ⟨W3.heap.size, 4, N0⟩ (.slice a.ua j.purlins.length a.uc)) W3.heap.size j { a' with ua := a.ua, uc := a.uc } from (nR N6.out 4 (.slice a.ua j.purlins.length a.uc)))
      have XF := NW (X36.out.setCell (p := ⟨W3.heap.size, 4, N0⟩) (NZ _) (.slice a.ua j.purlins.length a.uc))
      have XW := NW (X6.out.setCell (p := ⟨W3.heap.size, 4, N0⟩) HS3.out (.slice a.ua j.purlins.length a.uc))
      have JF := NW (JC.ext J0.out XW.out)
      have BM := NW (show bh (wc.setCell ⟨W3.heap.size, 4, N0⟩ (.slice a.ua j.purlins.length a.uc)) _ j { a' with ua := a.ua, uc := a.uc } from by
        have h1 := B3.out.grow XF.out
        have h2 := HB.out _ XW.out
        exact ⟨h1.p, h2.u, h1.o, h1.z, h1.b, h1.l, h1.s⟩)
      go_wp2_with (first
        | (go_at_call 6; go_loud (refine (KA.out _ X7.out).mono ?_); rintro r7 W8 ⟨rfl, hX8⟩; have X8 := NW (X7.out.tr hX8); clear hX8)
        | (go_at_call 9; go_loud (refine (cW _ j { a' with ua := a.ua, uc := a.uc } a BM.out (HB.out _ XW.out)).mono ?_); rintro r6 W7 ⟨rfl, hX7⟩; have X7 := NW (Ext.tr XW.out hX7); clear hX7)
        | (refine wpList_load_row rfl 34 _ rfl W3.heap.size rfl 34 _ (0, 0) _ NF.out underlying34 rfl Ou ?_)
        | (refine wpList_load_row rfl 34 _ rfl w.heap.size rfl 34 _ (0, 0) _ JF.out underlying34 rfl Ou ?_))
      go_ret
      exact ⟨rfl, E0.out.tr X8.out⟩
    · have NF := NW (show JC (wc.setCell ⟨W3.heap.size, 5, N0⟩ (.slice a.oa j.openings.length a.oc)) W3.heap.size j { a' with oa := a.oa, oc := a.oc } from (nR N6.out 5 (.slice a.oa j.openings.length a.oc)))
      have XF := NW (X36.out.setCell (p := ⟨W3.heap.size, 5, N0⟩) (NZ _) (.slice a.oa j.openings.length a.oc))
      have XW := NW (X6.out.setCell (p := ⟨W3.heap.size, 5, N0⟩) HS3.out (.slice a.oa j.openings.length a.oc))
      have JF := NW (JC.ext J0.out XW.out)
      have BM := NW (show bh (wc.setCell ⟨W3.heap.size, 5, N0⟩ (.slice a.oa j.openings.length a.oc)) _ j { a' with oa := a.oa, oc := a.oc } from by
        have h1 := B3.out.grow XF.out
        have h2 := HB.out _ XW.out
        exact ⟨h1.p, h1.u, h2.o, h1.z, h1.b, h1.l, h1.s⟩)
      go_wp2_with (first
        | (go_at_call 6; go_loud (refine (KA.out _ X7.out).mono ?_); rintro r7 W8 ⟨rfl, hX8⟩; have X8 := NW (X7.out.tr hX8); clear hX8)
        | (go_at_call 9; go_loud (refine (cW _ j { a' with oa := a.oa, oc := a.oc } a BM.out (HB.out _ XW.out)).mono ?_); rintro r6 W7 ⟨rfl, hX7⟩; have X7 := NW (Ext.tr XW.out hX7); clear hX7)
        | (refine wpList_load_row rfl 34 _ rfl W3.heap.size rfl 34 _ (0, 0) _ NF.out underlying34 rfl Ou ?_)
        | (refine wpList_load_row rfl 34 _ rfl w.heap.size rfl 34 _ (0, 0) _ JF.out underlying34 rfl Ou ?_))
      go_ret
      exact ⟨rfl, E0.out.tr X8.out⟩
    · have NF := NW (show JC (wc.setCell ⟨W3.heap.size, 6, N0⟩ (.slice a.za j.sizes.length a.zc)) W3.heap.size j { a' with za := a.za, zc := a.zc } from (nR N6.out 6 (.slice a.za j.sizes.length a.zc)))
      have XF := NW (X36.out.setCell (p := ⟨W3.heap.size, 6, N0⟩) (NZ _) (.slice a.za j.sizes.length a.zc))
      have XW := NW (X6.out.setCell (p := ⟨W3.heap.size, 6, N0⟩) HS3.out (.slice a.za j.sizes.length a.zc))
      have JF := NW (JC.ext J0.out XW.out)
      have BM := NW (show bh (wc.setCell ⟨W3.heap.size, 6, N0⟩ (.slice a.za j.sizes.length a.zc)) _ j { a' with za := a.za, zc := a.zc } from by
        have h1 := B3.out.grow XF.out
        have h2 := HB.out _ XW.out
        exact ⟨h1.p, h1.u, h1.o, h2.z, h1.b, h1.l, h1.s⟩)
      go_wp2_with (first
        | (go_at_call 6; go_loud (refine (KA.out _ X7.out).mono ?_); rintro r7 W8 ⟨rfl, hX8⟩; have X8 := NW (X7.out.tr hX8); clear hX8)
        | (go_at_call 9; go_loud (refine (cW _ j { a' with za := a.za, zc := a.zc } a BM.out (HB.out _ XW.out)).mono ?_); rintro r6 W7 ⟨rfl, hX7⟩; have X7 := NW (Ext.tr XW.out hX7); clear hX7)
        | (refine wpList_load_row rfl 34 _ rfl W3.heap.size rfl 34 _ (0, 0) _ NF.out underlying34 rfl Ou ?_)
        | (refine wpList_load_row rfl 34 _ rfl w.heap.size rfl 34 _ (0, 0) _ JF.out underlying34 rfl Ou ?_))
      go_ret
      exact ⟨rfl, E0.out.tr X8.out⟩
    · have NF := NW (show JC (wc.setCell ⟨W3.heap.size, 7, N0⟩ (.slice a.ba j.bars.length a.bc)) W3.heap.size j { a' with ba := a.ba, bc := a.bc } from (nR N6.out 7 (.slice a.ba j.bars.length a.bc)))
      have XF := NW (X36.out.setCell (p := ⟨W3.heap.size, 7, N0⟩) (NZ _) (.slice a.ba j.bars.length a.bc))
      have XW := NW (X6.out.setCell (p := ⟨W3.heap.size, 7, N0⟩) HS3.out (.slice a.ba j.bars.length a.bc))
      have JF := NW (JC.ext J0.out XW.out)
      have BM := NW (show bh (wc.setCell ⟨W3.heap.size, 7, N0⟩ (.slice a.ba j.bars.length a.bc)) _ j { a' with ba := a.ba, bc := a.bc } from by
        have h1 := B3.out.grow XF.out
        have h2 := HB.out _ XW.out
        exact ⟨h1.p, h1.u, h1.o, h1.z, h2.b, h1.l, h1.s⟩)
      go_wp2_with (first
        | (go_at_call 6; go_loud (refine (KA.out _ X7.out).mono ?_); rintro r7 W8 ⟨rfl, hX8⟩; have X8 := NW (X7.out.tr hX8); clear hX8)
        | (go_at_call 9; go_loud (refine (cW _ j { a' with ba := a.ba, bc := a.bc } a BM.out (HB.out _ XW.out)).mono ?_); rintro r6 W7 ⟨rfl, hX7⟩; have X7 := NW (Ext.tr XW.out hX7); clear hX7)
        | (refine wpList_load_row rfl 34 _ rfl W3.heap.size rfl 34 _ (0, 0) _ NF.out underlying34 rfl Ou ?_)
        | (refine wpList_load_row rfl 34 _ rfl w.heap.size rfl 34 _ (0, 0) _ JF.out underlying34 rfl Ou ?_))
      go_ret
      exact ⟨rfl, E0.out.tr X8.out⟩
    · have NF := NW (show JC (wc.setCell ⟨W3.heap.size, 8, N0⟩ (.int .i64 j.kerf)) W3.heap.size j a' from (nR N6.out 8 (.int .i64 j.kerf)))
      have XF := NW (X36.out.setCell (p := ⟨W3.heap.size, 8, N0⟩) (NZ _) (.int .i64 j.kerf))
      have XW := NW (X6.out.setCell (p := ⟨W3.heap.size, 8, N0⟩) HS3.out (.int .i64 j.kerf))
      have JF := NW (JC.ext J0.out XW.out)
      have BM := NW (show bh (wc.setCell ⟨W3.heap.size, 8, N0⟩ (.int .i64 j.kerf)) _ j a' from by
        have h1 := B3.out.grow XF.out
        have h2 := HB.out _ XW.out
        exact ⟨h1.p, h1.u, h1.o, h1.z, h1.b, h1.l, h1.s⟩)
      go_wp2_with (first
        | (go_at_call 6; go_loud (refine (KA.out _ X7.out).mono ?_); rintro r7 W8 ⟨rfl, hX8⟩; have X8 := NW (X7.out.tr hX8); clear hX8)
        | (go_at_call 9; go_loud (refine (cW _ j a' a BM.out (HB.out _ XW.out)).mono ?_); rintro r6 W7 ⟨rfl, hX7⟩; have X7 := NW (Ext.tr XW.out hX7); clear hX7)
        | (refine wpList_load_row rfl 34 _ rfl W3.heap.size rfl 34 _ (0, 0) _ NF.out underlying34 rfl Ou ?_)
        | (refine wpList_load_row rfl 34 _ rfl w.heap.size rfl 34 _ (0, 0) _ JF.out underlying34 rfl Ou ?_))
      go_ret
      exact ⟨rfl, E0.out.tr X8.out⟩
    · have NF := NW (show JC (wc.setRow W3.heap.size (dy j a')) W3.heap.size j a' from (setRow_heap N6.out _))
      have XF := NW (ah X36.out (NZ _) (dy j a'))
      have XW := NW (ah X6.out HS3.out (dy j a'))
      have JF := NW (JC.ext J0.out XW.out)
      have BM := NW (show bh (wc.setRow W3.heap.size (dy j a')) _ j a' from by
        have h1 := B3.out.grow XF.out
        have h2 := HB.out _ XW.out
        exact ⟨h1.p, h1.u, h1.o, h1.z, h1.b, h1.l, h1.s⟩)
      have tne := GH e.twidth e.tlength e.tlap e.ttail
      have gtile : prog.eqGuardType prog.depth 30 = N1 := Ou
      go_upto_region 37 with (fail)
      clear tne gtile
      go_wp2_with (first
        | (refine cC rfl 30 _ _ rfl W3.heap.size 9 _ rfl rfl 34 _ N6.out Ou (Nat.le_of_ble_eq_true Ou) Ou ?_; rw [show putAt (dy { j with tile := ⟨e.twidth, e.tlength, e.tlap, e.ttail⟩ } a') 9 #[.int .i64 j.tile.width, .int .i64 j.tile.length, .int .i64 j.tile.lap, .int .i64 j.tile.tail] = dy j a' from Ou])
        | (go_at_call 6; go_loud (refine (KA.out _ X7.out).mono ?_); rintro r7 W8 ⟨rfl, hX8⟩; have X8 := NW (X7.out.tr hX8); clear hX8)
        | (go_at_call 9; go_loud (refine (cW _ j a' a BM.out (HB.out _ XW.out)).mono ?_); rintro r6 W7 ⟨rfl, hX7⟩; have X7 := NW (Ext.tr XW.out hX7); clear hX7)
        | (refine wpList_load_row rfl 34 _ rfl W3.heap.size rfl 34 _ (0, 0) _ NF.out underlying34 rfl Ou ?_)
        | (refine wpList_load_row rfl 34 _ rfl w.heap.size rfl 34 _ (0, 0) _ JF.out underlying34 rfl Ou ?_))
      go_ret
      exact ⟨rfl, E0.out.tr X8.out⟩
    · have NF := NW (show JC (wc.setCell ⟨W3.heap.size, 13, N0⟩ (.slice a.la j.aq.length a.lc)) W3.heap.size j { a' with la := a.la, lc := a.lc } from (nR N6.out 13 (.slice a.la j.aq.length a.lc)))
      have XF := NW (X36.out.setCell (p := ⟨W3.heap.size, 13, N0⟩) (NZ _) (.slice a.la j.aq.length a.lc))
      have XW := NW (X6.out.setCell (p := ⟨W3.heap.size, 13, N0⟩) HS3.out (.slice a.la j.aq.length a.lc))
      have JF := NW (JC.ext J0.out XW.out)
      have BM := NW (show bh (wc.setCell ⟨W3.heap.size, 13, N0⟩ (.slice a.la j.aq.length a.lc)) _ j { a' with la := a.la, lc := a.lc } from by
        have h1 := B3.out.grow XF.out
        have h2 := HB.out _ XW.out
        exact ⟨h1.p, h1.u, h1.o, h1.z, h1.b, h2.l, h1.s⟩)
      go_wp2_with (first
        | (go_at_call 6; go_loud (refine (KA.out _ X7.out).mono ?_); rintro r7 W8 ⟨rfl, hX8⟩; have X8 := NW (X7.out.tr hX8); clear hX8)
        | (go_at_call 9; go_loud (refine (cW _ j { a' with la := a.la, lc := a.lc } a BM.out (HB.out _ XW.out)).mono ?_); rintro r6 W7 ⟨rfl, hX7⟩; have X7 := NW (Ext.tr XW.out hX7); clear hX7)
        | (refine wpList_load_row rfl 34 _ rfl W3.heap.size rfl 34 _ (0, 0) _ NF.out underlying34 rfl Ou ?_)
        | (refine wpList_load_row rfl 34 _ rfl w.heap.size rfl 34 _ (0, 0) _ JF.out underlying34 rfl Ou ?_))
      go_ret
      exact ⟨rfl, E0.out.tr X8.out⟩
    · have NF := NW (show JC (wc.setCell ⟨W3.heap.size, 14, N0⟩ (.slice a.sa j.spans.length a.sc)) W3.heap.size j { a' with sa := a.sa, sc := a.sc } from (nR N6.out 14 (.slice a.sa j.spans.length a.sc)))
      have XF := NW (X36.out.setCell (p := ⟨W3.heap.size, 14, N0⟩) (NZ _) (.slice a.sa j.spans.length a.sc))
      have XW := NW (X6.out.setCell (p := ⟨W3.heap.size, 14, N0⟩) HS3.out (.slice a.sa j.spans.length a.sc))
      have JF := NW (JC.ext J0.out XW.out)
      have BM := NW (show bh (wc.setCell ⟨W3.heap.size, 14, N0⟩ (.slice a.sa j.spans.length a.sc)) _ j { a' with sa := a.sa, sc := a.sc } from by
        have h1 := B3.out.grow XF.out
        have h2 := HB.out _ XW.out
        exact ⟨h1.p, h1.u, h1.o, h1.z, h1.b, h1.l, h2.s⟩)
      go_wp2_with (first
        | (go_at_call 6; go_loud (refine (KA.out _ X7.out).mono ?_); rintro r7 W8 ⟨rfl, hX8⟩; have X8 := NW (X7.out.tr hX8); clear hX8)
        | (go_at_call 9; go_loud (refine (cW _ j { a' with sa := a.sa, sc := a.sc } a BM.out (HB.out _ XW.out)).mono ?_); rintro r6 W7 ⟨rfl, hX7⟩; have X7 := NW (Ext.tr XW.out hX7); clear hX7)
        | (refine wpList_load_row rfl 34 _ rfl W3.heap.size rfl 34 _ (0, 0) _ NF.out underlying34 rfl Ou ?_)
        | (refine wpList_load_row rfl 34 _ rfl w.heap.size rfl 34 _ (0, 0) _ JF.out underlying34 rfl Ou ?_))
      go_ret
      exact ⟨rfl, E0.out.tr X8.out⟩
end
end Go.Proofs.YtnpihidbkhehjaaGreatDoor
