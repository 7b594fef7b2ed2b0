/- ChangeOnly of kingpostlaw58: part 12 of its proof (merged and shortened by program). -/
import Derived.Test.YtnpihidbkhehjaaGreatDoorM11
set_option linter.unusedVariables false
set_option linter.unusedSimpArgs false
set_option linter.defProp false
set_option maxHeartbeats 8000000
set_option maxRecDepth 100000
open Go.RowKit Go.Shelf Go.Proofs.Tryz
open Array renaming getElem?_eq_some_iff→Od
open Bool renaming false→N1,true→Oc
open Go renaming World→NY,Value→N2,undef→N7,wpOp_step→Ob,Calls→Of,maxLen→Ol,TypeId→Oo
open Go.AllReady renaming cons→Oj,nil→Oq
open Go.IntKind renaming i64→Oe
open Go.IntWalk renaming i64_in→Om
open Go.Lib renaming hid→NW
open Go.RowKit renaming intOf→Oh,Below→On
open Go.World renaming size_alloc→Oi
open List renaming getD_eq_getElem?_getD→N8,length_map→N9,getElem?_eq_getElem→Oa
open Nat renaming le_refl→NZ,mul_comm→Og,le_trans→Ok
open Option renaming none→N0,some→N3
open Go.Proofs.YtnpihidbkhehjaaGreatDoor
namespace Go.Proofs.YtnpihidbkhehjaaGreatDoor
section
open Kp
attribute [local go_sem] Oper.semAt_some
structure IW(w:NY)(A:Option Addr)(cap:Nat)(r:List Sd)(k:Nat)(W:NY):Prop where
 res:Bx W w.heap.size 4 (.bool N1)
 it:Bx W (w.heap.size+1) 73 (.slice A r.length cap)
 sl:bC 7 W w.heap.size A cap (ak r)
 low:On w.heap.size w W
 ok:∀j,j<k→kO r j=N1
theorem IW.stays{w:NY}{A:Option Addr}{cap:Nat}{r:List Sd}{k n0:Nat}{W W':NY}(h:IW w A cap r k W)(hs:al n0 W W')(hn:w.heap.size≤n0):IW w A cap r k W':=
 ⟨h.res.stays hs,h.it.stays hs,h.sl.stays (cL r) hs,h.low.trans (hs.below.mono hn),h.ok⟩
structure Ky(w:NY)(r:List Sd)(c:Code)(k:Nat)(W:NY):Prop where
 ret:c= .ret
 res:Bx W w.heap.size 4 (.bool N1)
 low:On w.heap.size w W
 bad:kO r k=Oc
theorem Ky.stays{w:NY}{r:List Sd}{c:Code}{k n0:Nat}{W W':NY}(h:Ky w r c k W)(hs:al n0 W W')(hn:w.heap.size≤n0):Ky w r c k W':=
 ⟨h.ret,h.res.stays hs,h.low.trans (hs.below.mono hn),h.bad⟩
def vu(bef own beh:Sd)(bl lo:Nat):Nat→N2→NY→Prop
 |0,v,_=>v= .pointer (N3 ⟨bl,0,N0⟩)
 |1,v,_=>v= .agg (jF bef).toArray
 |2,v,_=>v= .agg (iE bef.x bef.y).toArray
 |3,v,_=>v= .pointer (N3 ⟨bl,7,N0⟩)
 |4,v,_=>v= .agg (jF own).toArray
 |5,v,_=>v= .agg (iE own.x own.y).toArray
 |6,v,_=>v= .agg (iE (own.x-bef.x) (own.y-bef.y)).toArray
 |7,v,_=>v= .agg (fZ bef own beh).toArray
 |8,v,_=>v= .agg (iE (beh.x-own.x) (beh.y-own.y)).toArray
 |_,v,w=>fe lo v w
theorem GW{bef own beh:Sd}{bl lo i:Nat}{v:N2}{w w':NY}(h:vu bef own beh bl lo i v w)(hx:Ext w w'):vu bef own beh bl lo i v w':=by
 unfold vu at *
 split at h<;>first|exact h|exact fe.ext h hx
abbrev four(W:NY)(p q:Nat)(a b c d:N2):NY:=(((W.setCell ⟨p,0,N0⟩ a).setCell ⟨p,1,N0⟩ b).setCell ⟨q,0,N0⟩ c).setCell ⟨q,1,N0⟩ d
theorem oA(W:NY)(p q:Nat)(a b c d:N2):KeepsOthers W (four W p q a b c d):=((((KeepsOthers.setCell _ _ _).trans (KeepsOthers.setCell _ _ _)).trans (KeepsOthers.setCell _ _ _)).trans (KeepsOthers.setCell _ _ _))
theorem kR{B:Nat}{W:NY}{p q:Nat}(hp:B≤p)(hq:B≤q)(a b c d:N2):On B W (four W p q a b c d):=
 ((((Below.refl _ _).setCell (p:=⟨p,0,N0⟩) hp _).setCell (p:=⟨p,1,N0⟩) hp _).setCell (p:=⟨q,0,N0⟩) hq _).setCell (p:=⟨q,1,N0⟩) hq _
theorem tZ{W:NY}{b:Nat}{t:Oo}{v:N2}(h:Bx W b t v){p q:Nat}(hp:b<p)(hq:b<q)(x y z u:N2):Bx (four W p q x y z u) b t v:=
 (((h.cI (p:=⟨p,0,N0⟩) OB _).cI (p:=⟨p,1,N0⟩) OB _).cI (p:=⟨q,0,N0⟩) OB _).cI (p:=⟨q,1,N0⟩) OB _
theorem Il{w:NY}{A:Option Addr}{cap:Nat}{r:List Sd}{k:Nat}{W2 W:NY}{p q:Nat}{a b c d:N2}{act:Act}(h:IW w A cap r k W)(hx:Ext W2 W)(hs:kO r k=N1)(hp:W2.heap.size≤p)(hq:W2.heap.size≤q)(hz:w.heap.size+1<W2.heap.size):
  iV (IW w A cap r) (Ky w r) k W2 .normal act (four W p q a b c d):=by
 refine⟨hx.keeps.trans (oA _ _ _ _ _ _ _),tZ h.res Ot Ot _ _ _ _,tZ h.it Ot Ot _ _ _ _,h.sl.below (kR Ot Ot _ _ _ _),h.low.trans (kR Ot Ot _ _ _ _),fun j hj=> ?_⟩
 by_cases hjk:j=k
 ·rw[hjk];exact hs
 ·exact h.ok j Ot
theorem GZ{w:NY}{A:Option Addr}{cap:Nat}{r:List Sd}{k:Nat}{W2 W:NY}{p q:Nat}{a b c d:N2}{act:Act}(h:IW w A cap r k W)(hx:Ext W2 W)(hs:kO r k=Oc)(hp:W2.heap.size≤p)(hq:W2.heap.size≤q)(hz:w.heap.size+1<W2.heap.size):
  iV (IW w A cap r) (Ky w r) k W2 .ret act ((four W p q a b c d).setCell ⟨w.heap.size,0,N0⟩ (.bool N1)):=by
 refine⟨(hx.keeps.trans (oA _ _ _ _ _ _ _)).trans (KeepsOthers.setCell _ _ _),rfl,(tZ h.res Ot Ot _ _ _ _).put _,(h.low.trans (kR Ot Ot _ _ _ _)).setCell (p:=⟨w.heap.size,0,N0⟩) (NZ _) _,hs⟩
theorem qB(w:NY)(A:Option Addr)(cap:Nat)(r:List Sd)(hn:r.length<4):
  Of prog 89 #[.slice A r.length cap] w fun e w'=>e= .returned (.bool (cz r))∧Ext w w':=by
 have HR:=NW (show cz r=N1 by unfold cz;rw[show decide (4≤r.length)=N1 by rw[decide_eq_false_iff_not];omega];rfl)
 go_enter func89,ntmps89
 go_wp2
 exact bodyPost_ret (v:= .bool N1) (by simp[results,results89,go_sem]) rfl ⟨by rw[HR.out],(Below.refl _ _).alloc (NZ _) _⟩
theorem uJ (w : NY) (A : Option Addr) (cap : Nat) (r : List Sd) (hr : bC 7 w w.heap.size A cap (ak r)) (hc : Eo r) (hn : r.length ≤ 1000) (h4 : 4 ≤ r.length) :
    Of prog 89 #[.slice A r.length cap] w fun e w' => e = .returned (.bool (cz r)) ∧ Ext w w' := by
  have HR := NW (show cz r = !dt (kO r) r.length by unfold cz; rw [show decide (4 ≤ r.length) = Oc by rw [decide_eq_true_eq]; omega]; rfl)
  refine (callsIn_wide (n := 9)).1 (callsIn_of_wp_marks func89 rfl trivial ?_)
  simp only [ntmps89, List.size_toArray, List.length_cons, List.length_nil, Nat.reduceAdd, Nat.reduceSub, Array.replicate_succ, Array.replicate_zero, List.push_toArray, List.append_toArray, List.nil_append, List.cons_append]
  gi_wp2_with (refine ⟨trivial, ?_⟩; gi_at_call 150; refine (callsIn_wide.2 (gW _ _ _ _)).mono ?_; rintro e w' ⟨rfl, rfl⟩)
  refine er (gf := 200) (lb := #[.pointer (N3 ⟨w.heap.size + 1, 0, N0⟩)]) rfl (enters_of func200 Ou rfl)
    (fR (w.heap.size + 1) A cap r Ot) (fun k x e => by rw [e]; rfl)
    (IW w A cap r) (Ky w r) (fun k W W' h hs => h.stays hs OK) (fun c k W W' h hs => h.stays hs OK) (fun k W h => oM h.it h.sl) ?start ?round ?done ?stop
  case start => exact ⟨(Bx.at_ rfl).alloc _, Bx.at_ Ow, hr.below (dI _ _ _), dI _ _ _, fun j hj => Ot⟩
  case done =>
    intro D W hD hi hK
    have c0 := hi.res.cell
    have f0 := hi.res.frozen
    have HI := NW hi
    have HA := NW (show cz r = Oc by rw [HR.out, dJ hi.ok]; rfl)
    clear hi
    gi_wp2
    have hk2 := (KeepsOthers.setCell W ⟨w.heap.size, 0, N0⟩ (.bool Oc)).same D _ hK rfl
    refine ⟨Ow, .inl ⟨_, _, rfl, run_takeDeferred hk2, ?_⟩⟩
    have hs := al.putObj (n0 := w.heap.size) (.deferred N0) hk2 rfl (by simp at hD; omega)
    have hb := ((HI.out.res.put (.bool Oc)).stays hs).cell
    exact ⟨.bool Oc, by simp [results, results89, go_sem, hb], by rw [HA.out], (HI.out.low.setCell (p := ⟨w.heap.size, 0, N0⟩) (NZ _) _).trans hs.below⟩
  case stop =>
    rintro D c k W hD hk ⟨rfl, hres, hlow, hbad⟩ hK
    have HA := NW (show cz r = N1 by rw [HR.out, eX hk hbad]; rfl)
    gi_wp2
    refine ⟨Ow, .inl ⟨_, _, rfl, run_takeDeferred hK, ?_⟩⟩
    have hs := al.putObj (n0 := w.heap.size) (.deferred N0) hK rfl (by simp at hD; omega)
    have hb := (hres.stays hs).cell
    exact ⟨.bool N1, by simp [results, results89, go_sem, hb], by rw [HA.out], hlow.trans hs.below⟩
  case round =>
    intro l k x W K hk hx hi hK
    obtain rfl := hx
    have HK := NW hK
    have RA := NW (af.new W 190 (fZ (dL r k) (az r k) (bj r k)))
    have EA := NW (show Ext W (W.alloc (.cells (fZ (dL r k) (az r k) (bj r k)).toArray 190)) from (Below.refl _ _).alloc (NZ _) _)
    have HI := NW hi
    clear hK hi
    refine bQ (aJ _ _) Ou ?_
    go_wp2_with (refine wpList_store_row rfl 190 (.tmp 4) (.tmp 13) rfl W.heap.size (fZ (dL r k) (az r k) (bj r k)).toArray rfl rfl 190 _ (NY.alloc_heap_new _ _) Ou Ou Ou ?_; rw [eh _ _ _ _ rfl])
    refine bR (HK.out _ _ EA.out (fun W2 hs2 hlt2 => ?_))
    have hi2 := (HI.out.stays (EA.out.stays (n0 := w.heap.size) (by have := HI.out.low.size; omega)) (NZ _)).stays hs2 OK
    have R2 : af W2 W.heap.size 190 (fZ (dL r k) (az r k) (bj r k)) := hs2.cells _ _ _ _ RA.out
    clear HK HI EA RA hs2
    obtain ⟨hpx, hpy⟩ := gy hc ((k + r.length - 1) % r.length)
    obtain ⟨hox, hoy⟩ := gy hc k
    obtain ⟨hbx, hby⟩ := gy hc ((k + 1) % r.length)
    rw [← j6] at hbx hby
    rw [← AP] at hpx hpy
    obtain ⟨own, hown⟩ : ∃ o, az r k = o := ⟨_, rfl⟩
    obtain ⟨beh, hbeh⟩ : ∃ o, bj r k = o := ⟨_, rfl⟩
    obtain ⟨bef, hbef⟩ : ∃ o, dL r k = o := ⟨_, rfl⟩
    have HO := NW (show kO r k = ((((beh.x - own.x) == 0) == ((beh.y - own.y) == 0)) || (((own.x - bef.x) == 0) == ((beh.x - own.x) == 0))) by unfold kO zg Hy Gx; rw [hown, hbeh, hbef])
    rw [hown] at hox hoy
    rw [hbeh] at hbx hby
    rw [hbef] at hpx hpy
    rw [hown, hbeh, hbef] at R2
    rw [hown, hbeh, hbef]
    have I2 := NW hi2
    have hz := hi2.it.lt
    clear hi2 hn
    gi_wp2
    refine wpIn_region_any Ou (jg (aJ _ _) Ou 11 (fun vs => ⟨#[.slice A r.length cap, N7, .pointer (N3 ⟨w.heap.size, 0, N0⟩), N7, .pointer (N3 ⟨W.heap.size, 0, N0⟩), vs 9, vs 10, .slice A r.length cap, .int .i64 (r.length : Int), .bool (decide ((r.length : Int) < 4)), .slice A r.length cap, .func (.func 200) #[] #[.pointer (N3 ⟨w.heap.size + 1, 0, N0⟩)], .int .i64 (k : Int), .agg (fZ bef own beh).toArray, vs 0, vs 1, vs 2, vs 3, vs 4, vs 5, vs 6, vs 7, vs 8, N7, N7, N7, N7, N7, N7, N7, N7, N7, N7, N7, N7, N7, N7, N7, N7], []⟩)
      (fun w' => Ext W2 w') (vu bef own beh W.heap.size W2.heap.size) (fun i => i == 9 || i == 10) Ou (fun _ _ h k => h.tr k) (fun _ _ _ _ h k => GW h k) ?fr ?step ?tail (fun _ => N7) _ (Ext.dr W2))
    case fr =>
      intro i v w' hi hf hv
      simp only [Bool.or_eq_true, beq_iff_eq] at hf
      rcases hf with rfl | rfl <;> exact fe.lt hv
    case step =>
      intro i vs w' hi hD hd
      have cA := fun i => (R2.ext hD).cell i
      rcases (show i = 0 ∨ i = 1 ∨ i = 2 ∨ i = 3 ∨ i = 4 ∨ i = 5 ∨ i = 6 ∨ i = 7 ∨ i = 8 ∨ i = 9 ∨ i = 10 by omega) with rfl | rfl | rfl | rfl | rfl | rfl | rfl | rfl | rfl | rfl | rfl <;> clear hi
      · refine Ob rfl (fun K hK => ?_)
        go_simp
        exact hK _ _ ⟨_, rfl, Ext.an _, rfl, fun h => Ox⟩
      · refine Ob rfl (fun K hK => ?_)
        have d0 := hd 0 Ou
        simp only [vu] at d0
        go_simp
        exact hK _ _ ⟨_, by simp [d0, vu], Ext.an _, rfl, fun h => Ox⟩
      · refine Ob rfl (fun K hK => ?_)
        have d1 := hd 1 Ou
        simp only [vu] at d1
        go_simp
        refine (aU bef _).mono ?_
        rintro e W1 ⟨rfl, hX⟩
        exact hK _ _ ⟨_, by simp [d1, vu], hX, rfl, fun h => Ox⟩
      · refine Ob rfl (fun K hK => ?_)
        go_simp
        exact hK _ _ ⟨_, rfl, Ext.an _, rfl, fun h => Ox⟩
      · refine Ob rfl (fun K hK => ?_)
        have d3 := hd 3 Ou
        simp only [vu] at d3
        go_simp
        exact hK _ _ ⟨_, by simp [d3, vu], Ext.an _, rfl, fun h => Ox⟩
      · refine Ob rfl (fun K hK => ?_)
        have d4 := hd 4 Ou
        simp only [vu] at d4
        go_simp
        refine (aU own _).mono ?_
        rintro e W1 ⟨rfl, hX⟩
        exact hK _ _ ⟨_, by simp [d4, vu], hX, rfl, fun h => Ox⟩
      · refine Ob rfl (fun K hK => ?_)
        have d2 := hd 2 Ou
        have d5 := hd 5 Ou
        simp only [vu] at d2 d5
        go_simp
        refine (o9 _ _ _ _ _ hpx hpy hox hoy).mono ?_
        rintro e W1 ⟨rfl, hX⟩
        exact hK _ _ ⟨_, by simp [d2, d5, vu], hX, rfl, fun h => Ox⟩
      · refine gQ rfl rfl ?_
        exact wp_load_row 190 (.tmp 4) rfl W.heap.size rfl 190 (fZ bef own beh).toArray (0, 0) _ (R2.ext hD) underlying190 rfl Ou ⟨_, rfl, Ext.an _, rfl, fun h => Ox⟩
      · refine Ob rfl (fun K hK => ?_)
        have d7 := hd 7 Ou
        simp only [vu] at d7
        go_simp
        refine (fX bef own beh _ hox hoy hbx hby).mono ?_
        rintro e W1 ⟨rfl, hX⟩
        exact hK _ _ ⟨_, by simp [d7, vu], hX, rfl, fun h => Ox⟩
      · refine Ob rfl (fun K hK => ?_)
        go_simp
        exact hK _ _ ⟨_, rfl, (Below.refl _ _).alloc (NZ _) _, ⟨_, rfl, hD.size, af.new _ _ _⟩, fun _ => ⟨_, rfl, NZ _⟩⟩
      · refine Ob rfl (fun K hK => ?_)
        go_simp
        exact hK _ _ ⟨_, rfl, (Below.refl _ _).alloc (NZ _) _, ⟨_, rfl, hD.size, af.new _ _ _⟩, fun _ => ⟨_, rfl, NZ _⟩⟩
    case tail =>
      intro vs w' hD hv hne
      have v6 := hv 6 Ov
      have v8 := hv 8 Ov
      obtain ⟨p, e9, l9, r9⟩ := hv 9 Ov
      obtain ⟨q, e10, l10, r10⟩ := hv 10 Ov
      have hpq := hne 9 10 Ov Ov Ov rfl rfl
      simp only [vu] at v6 v8
      clear hv hne
      rw [e9, e10] at hpq
      have hpq' : p ≠ q := fun h => hpq (by rw [h])
      have n1 : ¬ q = p := fun h => hpq' h.symm
      clear hpq
      have I3 := NW (I2.out.stays (hD.stays (n0 := w.heap.size) (by have := I2.out.low.size; omega)) (NZ _))
      have hE := NW hD
      have cp := fun i => r9.cell i
      have cq := fun i => r10.cell i
      have fp := fun i => r9.frozen i
      have fq := fun i => r10.frozen i
      have cr := I3.out.res.cell
      have fr := I3.out.res.frozen
      have n2 : ¬ w.heap.size = p := Ot
      have n3 : ¬ w.heap.size = q := Ot
      have n4 : ¬ p = w.heap.size := Ot
      have n5 : ¬ q = w.heap.size := Ot
      have n6 : ¬ w.heap.size + 1 = p := Ot
      have n7 : ¬ w.heap.size + 1 = q := Ot
      simp only [List.drop_succ_cons, List.drop_zero, e9, e10, v6, v8]
      clear e9 e10 v6 v8 hD
      cases t1 : ((beh.x - own.x) == 0) <;> cases t2 : ((beh.y - own.y) == 0) <;> cases t3 : ((own.x - bef.x) == 0)
      all_goals first
        | (have HP := NW (show kO r k = N1 by rw [HO.out, t1, t2, t3]; rfl)
           gi_wp2
           exact Il I3.out hE.out HP.out l9 l10 hz)
        | (have HP := NW (show kO r k = Oc by rw [HO.out, t1, t2, t3]; rfl)
           gi_wp2
           exact GZ I3.out hE.out HP.out l9 l10 hz)
end
section
open Kp
theorem vE(w:NY)(A:Option Addr)(cap:Nat)(r:List Sd)(hr:bC 7 w w.heap.size A cap (ak r))(hc:Eo r)(hn:r.length≤1000):
  Of prog 89 #[.slice A r.length cap] w fun e w'=>e= .returned (.bool (cz r))∧Ext w w':=by
 by_cases h4:4≤r.length
 ·exact uJ w A cap r hr hc hn h4
 ·exact qB w A cap r Ot
def dR(w:NY)(B:Nat)(A:Option Addr)(cap:Nat)(rs:List (List Sd)):Prop:=
 rs.length≤cap∧cap≤Ol∧(0<rs.length→∃b off,A=N3 ⟨b,off,N0⟩∧b<B∧∀i,i<rs.length→∃Ai ci,w.cell? ⟨b,off+i,N0⟩=N3 (.slice Ai (rs.getD i []).length ci)∧bC 7 w B Ai ci (ak (rs.getD i [])))
theorem dR.below{w w':NY}{B:Nat}{A:Option Addr}{cap:Nat}{rs:List (List Sd)}(h:dR w B A cap rs)(hb:On B w w'):dR w' B A cap rs:=by
 obtain⟨h1,h2,h3⟩:=h
 refine⟨h1,h2,fun hn=> ?_⟩
 obtain⟨b,off,e,hB,hc⟩:=h3 hn
 refine⟨b,off,e,hB,fun i hi=> ?_⟩
 obtain⟨Ai,ci,h4,h5⟩:=hc i hi
 exact⟨Ai,ci,(hb.cell hB).trans h4,h5.below hb⟩
theorem dR.more{w:NY}{B B':Nat}{A:Option Addr}{cap:Nat}{rs:List (List Sd)}(h:dR w B A cap rs)(hb:B≤B'):dR w B' A cap rs:=by
 obtain⟨h1,h2,h3⟩:=h
 refine⟨h1,h2,fun hn=> ?_⟩
 obtain⟨b,off,e,hB,hc⟩:=h3 hn
 refine⟨b,off,e,Ot,fun i hi=> ?_⟩
 obtain⟨Ai,ci,h4,h5⟩:=hc i hi
 exact⟨Ai,ci,h4,h5.more hb⟩
structure wk(rs:List (List Sd)):Prop where
 ne:∀r∈rs,r≠[]
 co:∀r∈rs,Eo r
 len:rs.flatten.length≤24
theorem wk.ring{rs:List (List Sd)}(h:wk rs){i:Nat}(hi:i<rs.length):rs.getD i []≠[]∧Eo (rs.getD i [])∧(rs.getD i []).length≤24:=by
 have e:rs.getD i []=rs[i]:=by rw[N8,Oa hi];rfl
 rw[e]
 refine⟨h.ne _ (List.getElem_mem hi),h.co _ (List.getElem_mem hi),Ok ?_ h.len⟩
 exact(List.sublist_flatten_of_mem (List.getElem_mem hi)).length_le
theorem wk.count{rs:List (List Sd)}(h:wk rs):rs.length≤24:=by
 have key:∀l:List (List Sd),(∀r∈l,r≠[])→l.length≤l.flatten.length:=by
  intro l
  induction l with
  |nil=>intro _;simp
  |cons a l ih=>
   intro hl
   have h1:=ih fun r hr=>hl r (List.mem_cons_of_mem _ hr)
   have h2:0<a.length:=List.length_pos_iff.2 (hl a Ow)
   rw[List.flatten_cons,List.length_append,List.length_cons];omega
 exact Ok (key rs h.ne) h.len
def uo(rs:List (List Sd))(i k:Nat):Bool:= !(k==i||i==0)&&(ik (rs.getD k []) (az (rs.getD i []) 0).x (az (rs.getD i []) 0).y !=(k==0))
theorem Gm(rs:List (List Sd))(i:Nat):FR rs i=((decide (0<mW (rs.getD i [])) !=(i==0))||dt (uo rs i) rs.length):=rfl
structure NS(w:NY)(rs:List (List Sd))(i:N2)(wr:NY):Prop where
 ex:∃k:Nat,k≤rs.length∧i= .int .i64 (k:Int)∧∀j,j<k→FR rs j=N1
 low:Ext w wr
structure My(w:NY)(rs:List (List Sd))(i:Nat)(k:N2)(wr:NY):Prop where
 ex:∃m:Nat,m≤rs.length∧k= .int .i64 (m:Int)∧∀j,j<m→uo rs i j=N1
 low:Ext w wr
theorem xH(w:NY)(A:Option Addr)(cap:Nat)(rs:List (List Sd))(hr:dR w w.heap.size A cap rs)(hok:wk rs):
  Of prog 91 #[.slice A rs.length cap] w fun e w'=>e= .returned (.bool (eD rs))∧Ext w w':=by
 have h1:=hr.1
 have h2:=hr.2.1
 unfold Ol at h2
 have hcnt:=hok.count
 have HR:=NW hr
 clear hr
 go_enter func91,ntmps91
 go_wp2
 go_loopw [9] (fun i wr=>NS w rs i wr) (fun i _=>((rs.length:Int)-Oh i).toNat)
 case atStart=>exact⟨⟨0,Ot,rfl,fun j hj=>Ot⟩,Below.refl _ _⟩
 case round=>
  obtain⟨⟨i,hi,rfl,hall⟩,hlow⟩:=hrel
  have HLOW:=NW hlow
  have HALL:=NW hall
  clear hlow hall
  by_cases hlt:i<rs.length
  ·obtain⟨b,off,rfl,hB,hcell⟩:=(HR.out.below HLOW.out).2.2 Ot
   obtain⟨Ai,ci,hc1,hsl⟩:=hcell i hlt
   obtain⟨hne,hco,hlen⟩:=hok.ring hlt
   have hz:=HLOW.out.size
   obtain⟨ring,hring⟩:∃ring,rs.getD i []=ring:=⟨_,rfl⟩
   rw[hring] at hc1 hsl hne hco hlen
   have HRG:=NW hring
   have HOR:=NW (show FR rs i=((decide (0<mW ring) !=(i==0))||dt (uo rs i) rs.length) by rw[Gm,hring])
   clear hring
   have ca:=NW (Cq wr Ai ci ring (hsl.more hz) hco Ot)
   clear hcell
   obtain⟨d,hd⟩:∃d,decide (0<mW ring)=d:=⟨_,rfl⟩
   obtain⟨e,he⟩:∃e,(i==0)=e:=⟨_,rfl⟩
   have tz:((i:Int)==0)=e:=by rw[←he,Bool.eq_iff_iff];simp only[beq_iff_eq];omega
   have HE:=NW he
   clear he
   by_cases hde:d=e
   ·have HF:=NW (show(decide (0<mW ring) !=(i==0))=N1 by rw[hd,HE.out,hde];simp)
    subst hde
    go_wp2_with(go_at_call 156;go_must(refine ca.out.mono ?_);rintro e W1 ⟨rfl,hX1⟩)
    go_loopw [22] (fun k wq=>My wr rs i k wq) (fun k _=>((rs.length:Int)-Oh k).toNat)
    case atStart=>exact⟨⟨0,Ot,rfl,fun j hj=>Ot⟩,hX1⟩
    case round=>
     obtain⟨⟨k,hk,rfl,hall2⟩,hlow2⟩:=hrel
     have HA2:=NW hall2
     have HL2:=NW hlow2
     clear hall2 hlow2
     have HWL:=NW (HLOW.out.tr HL2.out)
     by_cases hlk:k<rs.length
     ·obtain⟨b',off',e',hB',hcell⟩:=(HR.out.below HWL.out).2.2 Ot
      obtain⟨rfl,rfl⟩:b'=b∧off'=off:=by injection e' with e';injection e' with e3 e4;exact⟨e3.symm,e4.symm⟩
      obtain⟨Ak,ck,hc2,hsl2⟩:=hcell k hlk
      obtain⟨hne2,hco2,hlen2⟩:=hok.ring hlk
      have hz2:=HWL.out.size
      obtain⟨oth,hoth⟩:∃oth,rs.getD k []=oth:=⟨_,rfl⟩
      rw[hoth] at hc2 hsl2 hne2 hco2 hlen2
      have HOP:=NW (show uo rs i k=(!(k==i||i==0)&&(ik oth (az ring 0).x (az ring 0).y !=(k==0))) by unfold uo;rw[hoth,HRG.out])
      have hpos:0<ring.length:=List.length_pos_iff.2 hne
      obtain⟨ba,oa,rfl,_,hca⟩:=(hsl.below (HL2.out.mono hz)).2.2 (by rw[N9];exact hpos)
      have c0:=fun j (hj:j<7)=>(hca 0 (by rw[N9];exact hpos) j hj).trans (by rw[gJ hpos])
      clear hoth hcell e' hca
      simp only[Nat.mul_zero,Nat.add_zero] at c0
      have c00:=c0 0 Ov
      rw[Nat.add_zero] at c00
      obtain⟨f,hf⟩:∃f,(k==i)=f:=⟨_,rfl⟩
      have tf:((k:Int)==(i:Int))=f:=by rw[←hf,Bool.eq_iff_iff];simp only[beq_iff_eq];omega
      obtain⟨g,hg⟩:∃g,(k==0)=g:=⟨_,rfl⟩
      have tg:((k:Int)==0)=g:=by rw[←hg,Bool.eq_iff_iff];simp only[beq_iff_eq];omega
      rw[hf,HE.out,hg] at HOP
      clear hf hg
      have HNX:=NW (fun(hz:uo rs i k=N1) (W:NY) (hW:Ext wr W)=>show My _ rs i (.int .i64 ((k:Int)+1)) W from⟨⟨k+1,Ot,Ow,fun j hj=>by
       by_cases hjk:j=k
       ·rw[hjk];exact hz
       ·exact HA2.out j Ot⟩,HL2.out.tr hW⟩)
      cases f with
      |true=>
       have HZ:=NW (show uo rs i k=N1 by rw[HOP.out];rfl)
       clear HOP
       go_wp2
       refine⟨HNX.out HZ.out _ (Below.refl _ _),Oy⟩
      |false=>
       cases d with
       |true=>
        have HZ:=NW (show uo rs i k=N1 by rw[HOP.out];rfl)
        clear HOP
        go_wp2
        refine⟨HNX.out HZ.out _ (Below.refl _ _),Oy⟩
       |false=>
        obtain⟨o,ho⟩:∃o,az ring 0=o:=⟨_,rfl⟩
        rw[ho] at c0 c00 HOP
        clear ho
        by_cases hin:ik oth o.x o.y=g
        ·have HZ:=NW (show uo rs i k=N1 by rw[HOP.out,hin];simp)
         clear HOP
         go_wp2_with(first
          |(go_at_call 151;go_must(refine(aU o _).mono ?_);rintro e V1 ⟨rfl,hV1⟩;have ci2:=NW (nB V1 Ak ck oth o.x o.y ((hsl2.below (hV1.mono hz2)).more (Ok hz2 hV1.size)) hco2 Ot);rw[hin] at ci2)
          |(go_at_call 157;go_must(refine ci2.out.mono ?_);rintro e V2 ⟨rfl,hV2⟩))
         refine⟨HNX.out HZ.out _ (hV1.tr hV2),Oy⟩
        ·have HP:=NW (show eD rs=N1 by unfold eD;rw[eX hlt (by rw[HOR.out,HF.out,eX hlk (by rw[HOP.out];simpa using hin)];rfl)];rfl)
         obtain⟨q,hq⟩:∃q,ik oth o.x o.y=q:=⟨_,rfl⟩
         rw[hq] at hin
         cases q<;>cases g<;>first|exact absurd rfl hin|skip
         all_goals
          clear hin HOP
          go_wp2_with(first
           |(go_at_call 151;go_must(refine(aU o _).mono ?_);rintro e V1 ⟨rfl,hV1⟩;have ci2:=NW (nB V1 Ak ck oth o.x o.y ((hsl2.below (hV1.mono hz2)).more (Ok hz2 hV1.size)) hco2 Ot);rw[hq] at ci2)
           |(go_at_call 157;go_must(refine ci2.out.mono ?_);rintro e V2 ⟨rfl,hV2⟩))
          go_ret
          exact⟨by rw[HP.out];rfl,HWL.out.tr (hV1.tr hV2)⟩
     ·have HZ:=NW (show FR rs i=N1 by rw[HOR.out,HF.out,dJ (fun j hj=>HA2.out j Ot)];rfl)
      have hlk':decide ((k:Int)<(rs.length:Int))=N1:=Oz
      go_wp2
      refine⟨⟨⟨i+1,Ot,Ow,fun j hj=> ?_⟩,HWL.out⟩,Oy⟩
      by_cases hji:j=i
      ·rw[hji];exact HZ.out
      ·exact HALL.out j Ot
   ·have hde':(d !=e)=Oc:=by simpa using hde
    have HP:=NW (show eD rs=N1 by unfold eD;rw[eX hlt (by rw[HOR.out,hd,HE.out,hde'];rfl)];rfl)
    clear hde
    cases d with
    |false=>
     cases e with
     |false=>cases hde'
     |true=>
      go_wp2_with(go_at_call 156;go_must(refine ca.out.mono ?_);rintro e W1 ⟨rfl,hX1⟩)
      go_ret
      exact⟨by rw[HP.out];rfl,HLOW.out.tr hX1⟩
    |true=>
     cases e with
     |true=>cases hde'
     |false=>
      go_wp2_with(go_at_call 156;go_must(refine ca.out.mono ?_);rintro e W1 ⟨rfl,hX1⟩)
      go_ret
      exact⟨by rw[HP.out];rfl,HLOW.out.tr hX1⟩
  ·have HA:=NW (show eD rs=Oc by unfold eD;rw[dJ (fun j hj=>HALL.out j Ot)];rfl)
   have hlt':decide ((i:Int)<(rs.length:Int))=N1:=Oz
   go_wp2
   go_ret
   exact⟨by rw[HA.out];rfl,HLOW.out⟩
end
section
open Kp
theorem aM{k:Nat}{rows:List (List N2)}(hw:cG k rows):rows.flatten.length=rows.length*k:=by
 induction rows with
 |nil=>simp
 |cons r rows ih=>
  rw[List.flatten_cons,List.length_append,ih (fun x hx=>hw x (List.mem_cons_of_mem _ hx)),hw r Ow,List.length_cons,Nat.add_mul,Nat.one_mul,Nat.add_comm]
theorem Aa{k:Nat}{rows:List (List N2)}(hw:cG k rows){i j:Nat}(hi:i<rows.length)(hj:j<k):rows.flatten[k*i+j]?=(rows.getD i [])[j]?:=by
 induction rows generalizing i with
 |nil=>simp at hi
 |cons r rows ih=>
  have hr:r.length=k:=hw r Ow
  rw[List.flatten_cons]
  cases i with
  |zero=>
   rw[Nat.mul_zero,Nat.zero_add,List.getElem?_append_left Ot];rfl
  |succ i=>
   have e:k*(i+1)+j=r.length+(k*i+j):=by rw[hr,Nat.mul_add,Nat.mul_one];omega
   rw[e,List.getElem?_append_right Ot,Nat.add_sub_cancel_left,ih (fun x hx=>hw x (List.mem_cons_of_mem _ hx)) Pz]
   rfl
theorem yx{k n:Nat}(hk:0<k){j:Nat}(hj:j<n*k):∃i m,i<n∧m<k∧j=k*i+m:=
 ⟨j/k,j%k,(Nat.div_lt_iff_lt_mul hk).2 hj,Nat.mod_lt _ hk,(Nat.div_add_mod j k).symm⟩
theorem bC.cells{k:Nat}{w:NY}{B:Nat}{b off cap:Nat}{rows:List (List N2)}(h:bC k w B (N3 ⟨b,off,N0⟩) cap rows)(hw:cG k rows)(hk:0<k):
  ∀j u,rows.flatten[j]?=N3 u→w.cell? ((⟨b,off,N0⟩:Addr).add j)=N3 u:=by
 intro j u hj
 have hlt:j<rows.flatten.length:=(List.getElem?_eq_some_iff.1 hj).1
 rw[aM hw] at hlt
 obtain⟨i,m,hi,hm,rfl⟩:=yx hk hlt
 obtain⟨b',off',e,_,hc⟩:=h.2.2 Ot
 obtain⟨rfl,rfl⟩:b=b'∧off=off':=Po
 have:=hc i hi m hm
 rw[←Aa hw hi hm,hj] at this
 rw[Addr.add_lit,←Nat.add_assoc];exact this
theorem aS{k:Nat}{w:NY}{base n:Nat}{e:Oo}{v:N2}{rows:List (List N2)}(h:w.ownsRow base e k v n rows.flatten)(hn:rows.length=n)(hw:cG k rows):
  ∃A cap,v= .slice A n cap∧bC k w w.heap.size A cap rows:=by
 subst hn
 obtain⟨hl,⟨rfl,h0⟩|⟨g,cap,cur,rfl,hb,hh,h1,h2,h3,h4⟩⟩:=h
 ·exact⟨N0,0,by rw[h0],Ot,OE,fun hp=>Ot⟩
 ·refine⟨_,cap,rfl,h1,h2,fun hp=>⟨g,0,rfl,(Od.1 hh).1,fun i hi j hj=> ?_⟩⟩
  rw[←Aa hw hi hj,←h4]
  have hlt:k*i+j<rows.length*k:=by
   have:k*(i+1)≤k*rows.length:=Nat.mul_le_mul_left _ hi
   rw[Nat.mul_add,Nat.mul_one] at this
   rw[Og rows.length k];omega
  rw[List.getElem?_take,if_pos hlt,Nat.zero_add]
  simp[World.cell?,hh]
end
section
open Kp
def ER(g:Nat)(a b:List Nat)(f:Nat→Nat×Nat):Prop:=
 ∀(W:NY) (k:Nat),Of prog g #[.int .i64 (fv a k:Int),.int .i64 (fv b k:Int),.int .i64 ((f k).2:Int)] W fun e w'=>e= .returned (.tuple #[.int .i64 ((f (k+1)).1:Int),.int .i64 ((f (k+1)).2:Int)])∧W=w'
theorem BF{a b:List Nat}(ha:Small a)(hb:Small b):ER 317 a b (kx a b):=fun W k=>
 (Bg _ _ _ W (ai ha k) (ai hb k) (Ei ha hb k).1).mono fun _ _ ⟨h1,h2⟩=>⟨h1,h2.symm⟩
theorem oL{a b:List Nat}(ha:Small a)(hb:Small b):ER 318 a b (jz a b):=fun W k=>
 (zu _ _ _ W (ai ha k) (ai hb k) (zq ha hb k).1).mono fun _ _ ⟨h1,h2⟩=>⟨h1,h2.symm⟩
def Kj(w:NY)(f:Nat→Nat×Nat)(n:Nat)(e:Ending)(w':NY):Prop:=
 ∃v,e= .returned v∧aR w' w'.heap.size v (aj (bK f n))∧Ext w w'
theorem ji(w:NY)(a b:List Nat)(va vb:N2)(g:Nat)(f:Nat→Nat×Nat)(ha:aR w w.heap.size va a)(hb:aR w w.heap.size vb b)(hla:a.length≤1000000)(hlb:b.length≤1000000)
  (eg:∀args w,(callFunc g args).run prog w= .ok (.enter g args) w)(hp:ER g a b f)(hf0:(f 0).2=0):
  Of prog 316 #[va,vb,.func (.func g) #[] #[]] w (Kj w f (max a.length b.length+1)):=by
 obtain⟨i0,hi0,hz0,hz1,hz2⟩:=info_parts dW
 have I0:=NW hi0
 have I1:=NW hz0
 have I2:=NW hz1
 have I3:=NW hz2
 have HA:=NW ha
 have HB:=NW hb
 have HP:=NW hp
 have HF:=NW hf0
 obtain⟨A,ca,rfl,ha1,ha2,_⟩:=id ha
 obtain⟨A',cb,rfl,hb1,hb2,_⟩:=id hb
 unfold Ol at ha2 hb2
 obtain⟨n,hn⟩:∃n,max a.length b.length+1=n:=⟨_,rfl⟩
 have hn1:n≤1000001:=Ot
 have hna:a.length<n:=Ot
 have hnb:b.length<n:=Ot
 have hn2:(max (a.length:Int) (b.length:Int))+1=(n:Int):=Ot
 have HN:=NW hn
 rw[hn]
 clear ha hb hp hf0 hi0 hz0 hz1 hz2 hn
 go_enter func316,ntmps316
 go_wp2
 go_loopw [7,8,18] (fun v c i wr=>Nl w f n v c i wr) (fun _ _ i _=>((n:Int)-Oh i).toNat)
 case atStart=>exact⟨0,Ot,rfl,PC,World.ownsRow_nil _ _ _ _,Below.refl _ _⟩
 case round=>
  obtain⟨k,hk,rfl,rfl,hown,hX⟩:=hrel
  have HO:=NW hown
  have HX:=NW hX
  have hs1:=(HA.out.below hX)
  have hs2:=(HB.out.below hX)
  have hbase:=hX.size
  clear hown hX
  by_cases hlt:k<n
  ·have C1:=NW (ov wr _ _ a k hs1 Ot)
   have C2:=NW (ov wr _ _ b k hs2 Ot)
   have C3:=NW (HP.out wr k)
   have HR:=NW (ee f k)
   obtain⟨x,hx⟩:∃x,(f (k+1)).1=x:=⟨_,rfl⟩
   obtain⟨y,hy⟩:∃y,(f (k+1)).2=y:=⟨_,rfl⟩
   rw[hx,hy] at C3
   rw[hx] at HR
   have HY:=NW hy
   clear hs1 hs2 hx hy
   have hbase1:w.heap.size≤(wr.alloc (.cells #[.int .i64 (x:Int)] 3)).heap.size:=OB
   have HOX:=NW (bB HO.out ((Below.refl _ _).alloc (NZ _) (.cells #[.int .i64 (x:Int)] 3)))
   obtain⟨vs,hvs⟩:∃vs,oo (bK f k)=vs:=⟨_,rfl⟩
   rw[hvs] at HO HOX
   have HVS:=NW hvs
   clear hvs
   go_wp2_with(first
    |(at_builtin;(refine wpList_append_own _ rfl _ _ _ rfl w.heap.size 3 i0 _ 1 8 underlying25 I0.out I1.out I2.out I3.out rfl Ot _ _ _ rfl HOX.out ⟨wr.heap.size,0,N0⟩ 1 1 [.int .i64 (x:Int)] rfl OR (fun j u hj=>OJ) Pj OE Ot hbase1 ?_);intro v' w' hown' hgr' hnil)
    |(go_at_fn g;go_must(refine C3.out.mono ?_);rintro e W3 ⟨rfl,rfl⟩)
    |(go_at_call 321;first|((with_reducible refine C1.out.mono ?_);rintro e W1 ⟨rfl,rfl⟩)|((with_reducible refine C2.out.mono ?_);rintro e W1 ⟨rfl,rfl⟩)))
   refine⟨⟨k+1,Ot,Ow,by rw[HY.out],?_,eM (HX.out.alloc HX.out.size _) hgr' (fun q hq=>(aE HO.out q hq).1)⟩,Oy⟩
   have e:oo (bK f (k+1))=vs++[.int .i64 (x:Int)]:=Pq
   rw[e]
   exact hown'
  ·obtain rfl:k=n:=Ot
   have hlt':decide ((k:Int)<(k:Int))=N1:=Oz
   have hsn:=dX HO.out (aY f k)
   obtain⟨A2,c2,rfl,q1,q2,q3⟩:=id hsn
   have CT:=NW (xZ wr A2 c2 (bK f k) q1 q2 (fun hp=>by
    obtain⟨b',o',e,hb',hc'⟩:=q3 hp
    exact⟨b',o',e,hc'⟩))
   have HS:=NW hsn
   rw[aY] at CT HS
   have HS2:=NW (show aR wr wr.heap.size (.slice A2 (aj (bK f k)).length c2) (aj (bK f k)) by
    refine⟨A2,c2,rfl,Ok (aI _) q1,q2,fun hp=> ?_⟩
    have hle:=aI (bK f k)
    obtain⟨b',o',e,hb',hc'⟩:=q3 Ot
    exact⟨b',o',e,hb',fun j hj=>by rw[pV hj];exact hc' j Ot⟩)
   have hkn:=aY f k
   have hvk:(N2.slice A2 (bK f k).length c2)= .slice A2 k c2:=by rw[hkn]
   rw[hvk]
   clear hsn q1 q2 q3 hs1 hs2 hkn hvk
   go_wp2_with(go_at_call 289;go_must(refine CT.out.mono ?_);rintro e W1 ⟨rfl,rfl⟩)
   go_ret
   exact⟨_,rfl,HS2.out,HX.out⟩
end
end Go.Proofs.YtnpihidbkhehjaaGreatDoor
