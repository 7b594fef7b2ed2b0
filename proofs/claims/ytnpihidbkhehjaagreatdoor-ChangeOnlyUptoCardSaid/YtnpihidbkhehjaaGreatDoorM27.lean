/- ChangeOnly of kingpostlaw58: part 27 of its proof (merged and shortened by program). -/
import Derived.Deep.DeepCutAuto
import Derived.Test.YtnpihidbkhehjaaGreatDoorM26
set_option linter.unusedVariables false
set_option linter.unusedSimpArgs false
set_option linter.defProp false
set_option maxHeartbeats 8000000
set_option maxRecDepth 100000
open Go.RowKit Go.Shelf Go.Proofs.Tryz
open Array renaming getElem?_eq_some_iff→Od
open Bool renaming false→N1,true→Oc
open Go renaming World→NY,Value→N2,undef→N7,wpOp_step→Ob,Calls→Of,maxLen→Ol,TypeId→Oo
open Go.AllReady renaming cons→Oj,nil→Oq
open Go.IntKind renaming i64→Oe
open Go.IntWalk renaming i64_in→Om
open Go.Lib renaming hid→NW
open Go.RowKit renaming intOf→Oh,Below→On
open Go.World renaming size_alloc→Oi
open List renaming getD_eq_getElem?_getD→N8,length_map→N9,getElem?_eq_getElem→Oa
open Nat renaming le_refl→NZ,mul_comm→Og,le_trans→Ok
open Option renaming none→N0,some→N3
open Go.Proofs.YtnpihidbkhehjaaGreatDoor
namespace Go.Proofs.YtnpihidbkhehjaaGreatDoor
section
open Kp
theorem jU{rs:List (List Sd)}(h:rs.flatten.length≤1000000)(k:Nat):(rs.getD k []).length≤1000000:=by
 by_cases hk:k<rs.length
 ·rw[N8,Oa hk]
  exact Ok (List.sublist_flatten_of_mem (List.getElem_mem hk)).length_le h
 ·rw[N8,List.getElem?_eq_none Ot];exact Nat.zero_le _
def NL(rs:List (List Sd))(x:Ending):Prop:=∃k:Int,x= .returned (.int .i64 k)∧(k=0→∀r∈rs,r≠[])
theorem mP (w : NY) (A : Option Addr) (cap : Nat) (rs : List (List Sd)) (hr : dR w w.heap.size A cap rs) (hfl : rs.flatten.length ≤ 1000000) :
    Of prog 49 #[.agg #[.slice A rs.length cap]] w fun x w' => NL rs x ∧ Ext w w' := by
  have h1 := hr.1
  have h2 := hr.2.1
  unfold Ol at h2
  have E0 := NW (show Ext w (w.alloc (.cells #[.slice A rs.length cap] 24)) from (Below.refl _ _).alloc (NZ _) _)
  have R0 := NW (Bx.new w 24 (.slice A rs.length cap))
  by_cases hp : rs.length = 0
  · rw [hp] at E0 R0
    have c0 := R0.out.cell
    rw [hp]
    clear hr
    go_enter func49, ntmps49
    go_wp2
    go_ret
    exact ⟨⟨_, rfl, fun h => absurd h Ov⟩, E0.out⟩
  have hp : 0 < rs.length := Ot
  have hr0 := (hr.below E0.out).more E0.out.size
  obtain ⟨b, off, f, hA, hb, hf⟩ := zY hr0 hp
  have HF := NW hf
  have HLN := NW (jU hfl)
  have KC := NW (fun (W : NY) (h : Ext (w.alloc (.cells #[.slice A rs.length cap] 24)) W) => qm W A cap rs ((hr0.below h).more h.size) hp (jU hfl))
  have KP := NW (fun (hne : ∀ r ∈ rs, r ≠ []) (W : NY) (h : Ext (w.alloc (.cells #[.slice A rs.length cap] 24)) W) => tC W A cap rs ((hr0.below h).more h.size) hp hne (jU hfl))
  have KR := NW (fun (W : NY) (h : Ext (w.alloc (.cells #[.slice A rs.length cap] 24)) W) => uU W A cap rs ((hr0.below h).more h.size) hp (jU hfl))
  have KS := NW (fun (W : NY) (h : Ext (w.alloc (.cells #[.slice A rs.length cap] 24)) W) (k : Nat) (hk : k < rs.length) => uL W (f k).1 (f k).2 (rs.getD k []) (hf W h k hk).2 (jU hfl k))
  have HFL := NW hfl
  subst hA
  clear hr hr0 hf hfl
  go_enter func49, ntmps49
  have c0 := R0.out.cell
  have hpne : ((rs.length : Int) == 0) = N1 := beq_eq_false_iff_ne.2 Ot
  have hpn : ¬ rs = [] := by intro h; rw [h] at hp; simp at hp
  go_upto_block 0 with (fail)
  obtain ⟨w0, hw0⟩ : ∃ w0, w.alloc (.cells #[.slice (N3 ⟨b, off, N0⟩) rs.length cap] 24) = w0 := ⟨_, rfl⟩
  simp only [hw0] at E0 R0 HF KC KP KR KS hb ⊢
  clear hw0 c0
  have hB := fun W (h : Ext w0 W) => (R0.out.below h R0.out.lt).cell
  have HB := NW hB
  clear hB
  go_cut [3] (fun s wx => (∃ m : Int, s = .int .i64 m) ∧ (∀ r ∈ rs, r ≠ []) ∧ Ext w0 wx)
  case first =>
    go_wp2_with fail
    go_loopw [3, 4] (fun s i wr => ∃ k : Nat, k ≤ rs.length ∧ i = .int .i64 (k : Int) ∧ s = .int .i64 ((rs.take k).flatten.length : Int) ∧ Ext w0 wr ∧ ∀ m, m < k → rs.getD m [] ≠ []) (fun _ i _ => ((rs.length : Int) - Oh i).toNat)
    case atStart => exact ⟨0, Ot, rfl, Ow, Below.refl _ _, fun m hm => Ot⟩
    case round =>
      obtain ⟨k, hk, rfl, rfl, hX, hall⟩ := hrel
      have HX := NW hX
      have HA := NW hall
      have c0 := HB.out _ hX
      by_cases hlt : k < rs.length
      · have c1 := (HF.out _ hX k hlt).1
        have hq := cK hlt
        have hle := dF rs (k + 1)
        have hq2 : ((rs.take (k + 1)).flatten.length : Int) = ((rs.take k).flatten.length : Int) + ((rs.getD k []).length : Int) := by rw [hq]; simp
        obtain ⟨m, hm⟩ : ∃ m, (rs.take k).flatten.length = m := ⟨_, rfl⟩
        obtain ⟨d, hd⟩ : ∃ d, (rs.getD k []).length = d := ⟨_, rfl⟩
        rw [hd] at c1
        have hs : m + d ≤ 1000000 := by have := HFL.out; rw [hm, hd] at hq2; omega
        rw [hm]
        have HQ := NW hq2
        have HM := NW hm
        have HD := NW hd
        clear hq hq2 hm hd hle hX hall
        by_cases h0 : d = 0
        · subst h0
          go_wp2
          go_ret
          exact ⟨⟨_, rfl, fun h => absurd h Ov⟩, E0.out.tr HX.out⟩
        · have tz : ((d : Int) == 0) = N1 := by rw [beq_eq_false_iff_ne]; omega
          have HN := NW (show ∀ j, j < k + 1 → rs.getD j [] ≠ [] from fun j hj => by
            by_cases hjk : j = k
            · rw [hjk]; intro e; have hz := HD.out; rw [e] at hz; exact h0 hz.symm
            · exact HA.out j Ot)
          clear h0
          go_wp2
          go_round
          case rel => exact ⟨k + 1, Ot, by go_num, by rw [HQ.out, HM.out, HD.out], HX.out, HN.out⟩
          case measure => simp [Oh]; omega
      · obtain rfl : k = rs.length := by omega
        have hne : ∀ r ∈ rs, r ≠ [] := by
          intro r hr
          obtain ⟨i, hi, rfl⟩ := List.mem_iff_getElem.1 hr
          have := HA.out i hi
          rw [N8, Oa hi] at this
          exact this
        have HNE := NW hne
        obtain ⟨m, hm⟩ : ∃ m, (rs.take rs.length).flatten.length = m := ⟨_, rfl⟩
        rw [hm]
        clear hm hX hall hne
        go_wp2_with fail
        go_meet
        exact ⟨⟨_, rfl⟩, HNE.out, HX.out⟩
  case rest =>
    obtain ⟨⟨m, rfl⟩, hne, hX⟩ := hcut
    have HX := NW hX
    have KP := NW (KP.out hne)
    have HNE := NW hne
    clear hX hne
    go_upto_block 2 with (fail)
    · go_ret
      exact ⟨⟨_, rfl, fun _ => HNE.out⟩, E0.out.tr HX.out⟩
    go_cut [] (fun wx => Ext w0 wx)
    case first =>
      go_wp2_with fail
      go_loopw [5] (fun i wr => ∃ k : Nat, i = .int .i64 (k : Int) ∧ k ≤ rs.length ∧ Ext w0 wr) (fun i _ => ((rs.length : Int) - Oh i).toNat)
      case atStart => exact ⟨0, rfl, Ot, HX.out⟩
      case round =>
        obtain ⟨k, rfl, hk, hX2⟩ := hrel
        have HX2 := NW hX2
        have c0 := HB.out _ hX2
        by_cases hlt : k < rs.length
        · obtain ⟨n, hn⟩ : ∃ n, (rs.getD k []).length = n := ⟨_, rfl⟩
          have HN := NW hn
          have hn6 : n ≤ 1000000 := by rw [← hn]; exact HLN.out k
          clear hX2 hn
          go_wp2_with fail
          clear c0
          go_loopw [6] (fun i wr => ∃ m : Nat, i = .int .i64 (m : Int) ∧ m ≤ n ∧ Ext w0 wr) (fun i _ => ((n : Int) - Oh i).toNat)
          case atStart => exact ⟨0, rfl, Ot, HX2.out⟩
          case round =>
            obtain ⟨m, rfl, hm, hX3⟩ := hrel
            have HX3 := NW hX3
            have c0 := HB.out _ hX3
            have c1 := (HF.out _ hX3 k hlt).1
            rw [HN.out] at c1
            by_cases hlt2 : m < n
            · obtain ⟨bk, ok, hA, hbk, hck⟩ := eu (HF.out _ hX3 k hlt).2 (by rw [HN.out]; omega)
              obtain ⟨y0, y1, y2, y3, y4, y5, y6⟩ := hck m (by rw [HN.out]; exact hlt2)
              rw [hA] at c1
              obtain ⟨s, hs⟩ : ∃ s, az (rs.getD k []) m = s := ⟨_, rfl⟩
              rw [hs] at y0 y1 y2 y3 y4 y5 y6
              obtain ⟨sx, sy, sr, su, sg, sp, so⟩ := s
              dsimp only at y0 y1 y2 y3 y4 y5 y6
              clear hX3 hA hbk hck hs
              go_wp2_with (go_at_call 103; go_must (refine (uQ ⟨sx, sy, sr, su, sg, sp, so⟩ _).mono ?_); rintro e W1 ⟨⟨q, rfl⟩, hX4⟩; have HX4 := NW (HX3.out.tr hX4); clear hX4)
              all_goals first
                | (go_ret
                   exact ⟨⟨_, rfl, fun _ => HNE.out⟩, E0.out.tr HX4.out⟩)
                | exact ⟨⟨m + 1, by go_num, Ot, HX4.out⟩, OP⟩
            · obtain rfl : m = n := by omega
              clear hX3
              go_wp2
              exact ⟨⟨k + 1, by go_num, Ot, HX3.out⟩, OP⟩
        · obtain rfl : k = rs.length := by omega
          clear hX2
          go_wp2_with fail
          go_meet
          exact HX2.out
    case rest =>
      have HX := NW hcut
      clear hcut
      go_upto_block 6 with (fail)
      go_cut [] (fun wx => Ext w0 wx)
      case first =>
        go_wp2_with fail
        go_loopw [7] (fun i wr => ∃ k : Nat, i = .int .i64 (k : Int) ∧ k ≤ rs.length ∧ Ext w0 wr) (fun i _ => ((rs.length : Int) - Oh i).toNat)
        case atStart => exact ⟨0, rfl, Ot, HX.out⟩
        case round =>
          obtain ⟨k, rfl, hk, hX3⟩ := hrel
          have HX3 := NW hX3
          have c0 := HB.out _ hX3
          by_cases hlt : k < rs.length
          · have c1 := (HF.out _ hX3 k hlt).1
            have KSk := NW (KS.out _ hX3 k hlt)
            obtain ⟨ring, hring⟩ : ∃ r, rs.getD k [] = r := ⟨_, rfl⟩
            obtain ⟨fa, hfa⟩ : ∃ x, (f k).1 = x := ⟨_, rfl⟩
            obtain ⟨fc, hfc⟩ : ∃ x, (f k).2 = x := ⟨_, rfl⟩
            rw [hring, hfa, hfc] at c1 KSk
            clear hX3 hring hfa hfc
            go_wp2_with (go_at_call 104; go_must (refine KSk.out.mono ?_); rintro e W1 ⟨⟨q, rfl⟩, hX4⟩; have HX4 := NW (HX3.out.tr hX4); clear hX4)
            all_goals first
              | (go_ret
                 exact ⟨⟨_, rfl, fun _ => HNE.out⟩, E0.out.tr HX4.out⟩)
              | exact ⟨⟨k + 1, by go_num, Ot, HX4.out⟩, OP⟩
          · obtain rfl : k = rs.length := by omega
            clear hX3
            go_wp2_with fail
            go_meet
            exact HX3.out
      case rest =>
        have HX := NW hcut
        have c0 := HB.out _ hcut
        clear hcut
        go_wp2_with (go_at_call 105; fail)
        refine (KC.out _ HX.out).mono ?_
        rintro e W1 ⟨⟨q, rfl⟩, hX4⟩
        have HX4 := NW (HX.out.tr hX4)
        have c4 := HB.out _ HX4.out
        clear hX4 c0
        cases q
        · go_wp2_with (go_at_call 106; fail)
          refine (KP.out _ HX4.out).mono ?_
          rintro e W2 ⟨⟨q2, rfl⟩, hX5⟩
          have HX5 := NW (HX4.out.tr hX5)
          have c5 := HB.out _ HX5.out
          clear hX5 c4
          cases q2
          · go_wp2_with fail
            go_ret
            exact ⟨⟨_, rfl, fun _ => HNE.out⟩, E0.out.tr HX5.out⟩
          · go_wp2_with (go_at_call 107; go_loud (refine (KR.out _ HX5.out).mono ?_); rintro e W3 ⟨⟨q3, rfl⟩, hX6⟩; have HX6 := NW (HX5.out.tr hX6); clear hX6)
            all_goals
              go_ret
              exact ⟨⟨_, rfl, fun _ => HNE.out⟩, E0.out.tr HX6.out⟩
        · go_wp2_with fail
          go_ret
          exact ⟨⟨_, rfl, fun _ => HNE.out⟩, E0.out.tr HX4.out⟩
end
section
open Kp
def NV(x:Ending):Prop:=∃(A:Option Addr) (n c:Nat) (k:Int),x= .returned (.tuple #[.slice A n c,.int .i64 k])∧n≤1000000
theorem xf(w:NY)(A:Option Addr)(cap:Nat)(rs:List (List Sd))(hr:dR w w.heap.size A cap rs)(hfl:rs.flatten.length≤1000000):
  Of prog 109 #[.agg #[.slice A rs.length cap]] w fun x w'=>NV x∧Ext w w':=by
 obtain⟨i0,hi0,hz0,hz1,hz2⟩:=info_parts mo
 have I0:=NW hi0
 have I1:=NW hz0
 have I2:=NW hz1
 have I3:=NW hz2
 have h1:=hr.1
 have h2:=hr.2.1
 unfold Ol at h2
 have E0:=NW (show Ext w (w.alloc (.cells #[.slice A rs.length cap] 24)) from(Below.refl _ _).alloc (NZ _) _)
 have R0:=NW (Bx.new w 24 (.slice A rs.length cap))
 have hr0:=(hr.below E0.out).more E0.out.size
 obtain⟨w0,hw0⟩:∃w0,w.alloc (.cells #[.slice A rs.length cap] 24)=w0:=⟨_,rfl⟩
 rw[hw0] at E0 R0 hr0
 have KC:=NW (mP w0 A cap rs hr0 hfl)
 have HR:=NW hr0
 have HW0:=NW hw0
 have HB:=NW (fun W (h:Ext w0 W)=>(R0.out.below h R0.out.lt).cell)
 have HFL:=NW hfl
 clear hr hr0 hfl hi0 hz0 hz1 hz2 hw0
 go_enter func109,ntmps109
 go_wp2_with(go_at_call 49;fail)
 rw[HW0.out]
 refine KC.out.mono ?_
 rintro e W1 ⟨⟨k,rfl,hk⟩,hX1⟩
 have X1:=NW hX1
 by_cases hk0:k=0
 ·subst hk0
  have hne:=hk rfl
  have HNE:=NW hne
  clear hk hX1 hne
  go_wp2_with fail
  have ST:=NW (show W1.ownsRow w0.heap.size 36 7 (.slice N0 0 0) 0 [] from⟨rfl,.inl ⟨rfl,rfl⟩⟩)
  go_loopw [4,5] (fun v i wr=>No w0 rs v i wr) (fun _ i _=>((rs.length:Int)-Oh i).toNat)
  case atStart=>exact⟨0,Ot,rfl,by simpa using ST.out,X1.out⟩
  case round=>
   obtain⟨k,hk,rfl,hown,hX⟩:=hrel
   have HOW:=NW hown
   have HXW:=NW hX
   have c0:=HB.out _ hX
   clear hown hX
   by_cases hlt:k<rs.length
   ·obtain⟨b,off,rfl,hB,hcell⟩:=(HR.out.below HXW.out).2.2 Ot
    obtain⟨Ai,ci,c1,hsl⟩:=hcell k hlt
    have hrne:rs.getD k []≠[]:=by
     have e:rs.getD k []=rs[k]:=by rw[N8,Oa hlt];rfl
     rw[e];exact HNE.out _ (List.getElem_mem hlt)
    have hq:=cK hlt
    have hle:=dF rs (k+1)
    obtain⟨ring,hring⟩:∃ring,rs.getD k []=ring:=⟨_,rfl⟩
    rw[hring] at c1 hsl hrne hq
    have hpos:0<ring.length:=List.length_pos_iff.2 hrne
    obtain⟨ba,oa,rfl,_,_⟩:=id (hsl.2.2 (by rw[N9];exact hpos))
    have hnews:=NW (hsl.cells (cL ring) Ov)
    have hfl:=NW (show(ak ring).flatten.length=ring.length*7 by rw[aM (cL ring),N9])
    have hlen2:(rs.take k).flatten.length+ring.length≤1000000:=by rw[hq,List.length_append] at hle;have:=HFL.out;omega
    have hone:=NW (show∀u∈(ak ring).flatten,u.oneCell'=Oc by
     intro u hu
     obtain⟨r,hr,hur⟩:=List.mem_flatten.1 hu
     obtain⟨s,_,rfl⟩:=List.mem_map.1 hr
     simp only[List.mem_cons,List.not_mem_nil,or_false] at hur
     rcases hur with rfl|rfl|rfl|rfl|rfl|rfl|rfl<;>rfl)
    have HQ:=NW hq
    have hbase:=HXW.out.size
    clear hcell hsl hrne hq hle hring
    go_wp2_with(at_builtin;(refine wpList_append_own _ rfl _ _ _ rfl w0.heap.size 36 i0 _ 7 56 underlying73 I0.out I1.out I2.out I3.out rfl Ot _ _ _ rfl HOW.out ⟨ba,oa,N0⟩ ring.length ci (ak ring).flatten rfl hfl.out hnews.out hone.out OE Ot hbase ?_);intro v' w' hown' hgr' hnil)
    refine⟨⟨k+1,Ot,Ow,?_,eM HXW.out hgr' (fun q hq=>(aE HOW.out q hq).1)⟩,Oy⟩
    rw[HQ.out,ak,List.map_append,List.flatten_append,List.length_append]
    exact hown'
   ·obtain rfl:k=rs.length:=Ot
    have ho:=HOW.out
    rw[List.take_length] at ho
    obtain⟨A',cap',rfl,hsl⟩:=aS ho (by rw[N9]) (cL _)
    clear ho hsl
    go_wp2
    go_ret2
    exact⟨⟨A',_,cap',_,rfl,HFL.out⟩,E0.out.tr HXW.out⟩
 ·have t0:(k !=0)=Oc:=bne_iff_ne.2 hk0
  clear hk hX1
  go_wp2_with fail
  go_ret2
  exact⟨⟨N0,0,0,_,rfl,Ot⟩,E0.out.tr X1.out⟩
end
end Go.Proofs.YtnpihidbkhehjaaGreatDoor
namespace Kp
abbrev B6:Nat:=1000000
def S6(f:Nat→Nat):Nat→Nat
 |0=>0
 |n+1=>S6 f n+f n*B6^n
def aA(l:List Nat):Nat:=S6 (fv l) l.length
def ij(l:List Nat):Prop:=∀d,d∈l→d<B6
structure aT(l:List Nat):Prop where
 small:ij l
 trim:mf l
def gw(a b:List Nat):Nat→Nat×Nat
 |0=>(0,0)
 |k+1=>((fv a k+fv b k+(gw a b k).2)%1000000,(fv a k+fv b k+(gw a b k).2)/1000000)
def cn(a b:List Nat):Nat→Nat×Nat
 |0=>(0,0)
 |k+1=>(if fv b k+(cn a b k).2≤fv a k then fv a k-(fv b k+(cn a b k).2) else fv a k+1000000-(fv b k+(cn a b k).2),if fv b k+(cn a b k).2≤fv a k then 0 else 1)
theorem cO(f:Nat→Nat)(n:Nat):S6 f (n+1)=S6 f n+f n*B6^n:=rfl
theorem Fm(n:Nat):0<B6^n:=Nat.pow_pos Ov
theorem gT{f g:Nat→Nat}{n:Nat}(h:∀k,k<n→f k=g k):S6 f n=S6 g n:=by
 induction n with
 |zero=>rfl
 |succ n ih=>rw[cO,cO,ih (fun k hk=>h k Ot),h n Ot]
theorem AZ{f:Nat→Nat}{n:Nat}(h:∀k,k<n→f k<B6):S6 f n<B6^n:=by
 induction n with
 |zero=>simp[S6]
 |succ n ih=>
  rw[cO,Nat.pow_succ]
  have h1:=ih (fun k hk=>h k Ot)
  have h2:f n+1≤B6:=h n Ot
  have h3:(f n+1)*B6^n≤B6*B6^n:=Nat.mul_le_mul_right _ h2
  rw[Nat.add_mul,Nat.one_mul,Og B6] at h3
  omega
theorem pd{f:Nat→Nat}{n:Nat}(h:∀k,k<n→f k=0):S6 f n=0:=by
 induction n with
 |zero=>rfl
 |succ n ih=>rw[cO,ih (fun k hk=>h k Ot),h n Ot];simp
theorem sS(f:Nat→Nat)(m n:Nat):S6 f (m+n)=S6 f m+B6^m*S6 (fun k=>f (m+k)) n:=by
 induction n with
 |zero=>simp[S6]
 |succ n ih=>
  rw[←Nat.add_assoc,cO,ih,cO,Nat.mul_add,Nat.pow_add]
  have:f (m+n)*(B6^m*B6^n)=B6^m*(f (m+n)*B6^n):=by
   rw[Nat.mul_left_comm]
  omega
theorem Kf{f:Nat→Nat}{m n:Nat}(h:m≤n)(hz:∀k,m≤k→k<n→f k=0):S6 f n=S6 f m:=by
 obtain⟨d,rfl⟩:∃d,n=m+d:=⟨n-m,Ot⟩
 rw[sS,pd (f:=fun k=>f (m+k)) (fun k hk=>hz _ Ot Ot)];simp
theorem aw{l:List Nat}(h:ij l)(k:Nat):fv l k<B6:=by
 unfold fv
 rw[N8]
 rcases Nat.lt_or_ge k l.length with hk|hk
 ·rw[Oa hk];exact h _ (List.getElem_mem hk)
 ·rw[List.getElem?_eq_none hk];decide
theorem gU{l:List Nat}{n:Nat}(h:l.length≤n):S6 (fv l) n=aA l:=Kf h (fun _ hk _=>ju hk)
theorem uY{l:List Nat}(h:ij l):aA l<B6^l.length:=AZ (fun k _=>aw h k)
theorem kh(l:List Nat)(d:Nat):aA (l++[d])=aA l+d*B6^l.length:=by
 unfold aA
 rw[List.length_append]
 show S6 _ (l.length+1)=_
 rw[cO,gT (g:=fv l)]
 ·unfold fv;simp
 ·intro k hk;unfold fv;simp[List.getElem?_append_left hk]
theorem pO(l:List Nat):aA (l++[0])=aA l:=by rw[kh];simp
theorem ij.uh{l:List Nat}{d:Nat}(h:ij (l++[d])):ij l:=fun x hx=>h x (by simp[hx])
theorem tG{l:List Nat}(h:mf l)(hl:l≠[]):B6^(l.length-1)≤aA l:=by
 rcases jh l with rfl|⟨m,d,rfl⟩
 ·exact absurd rfl hl
 ·rw[kh]
  have hd:=h.last
  have:1*B6^m.length≤d*B6^m.length:=Nat.mul_le_mul_right _ Ot
  simp only[List.length_append,List.length_singleton,Nat.add_sub_cancel]
  omega
theorem oD{l:List Nat}(h:mf l)(hl:l≠[]):0<aA l:=Nat.lt_of_lt_of_le (Fm _) (tG h hl)
theorem eZ{a b:List Nat}(ha:ij a)(hb:mf b)(h:a.length<b.length):aA a<aA b:=by
 have h1:=uY ha
 have h2:=tG hb (by rintro rfl;simp at h)
 have h3:B6^a.length≤B6^(b.length-1):=Nat.pow_le_pow_right Ov Ot
 omega
theorem ft(l:List Nat):aA (aj l)=aA l:=by
 refine dV (p:=fun l=>aA (aj l)=aA l) rfl (fun l d ih=> ?_) l
 by_cases hd:d=0
 ·subst hd;rw[dd,pO,ih]
 ·rw[fG hd]
theorem dE{l:List Nat}(h:ij l):aT (aj l):=by
 revert h
 refine dV (p:=fun l=>ij l→aT (aj l)) (fun _=>⟨fun d h=>by simp[kp] at h,lC⟩) (fun l d ih h=> ?_) l
 by_cases hd:d=0
 ·subst hd;rw[dd];exact ih h.uh
 ·rw[fG hd];exact⟨h,qT hd⟩
theorem Fj{f g:Nat→Nat}{n i:Nat}(hi:i<n)(hf:∀k,k<n→f k<B6)(he:∀k,i<k→k<n→f k=g k)(hlt:f i<g i):S6 f n<S6 g n:=by
 obtain⟨d,rfl⟩:∃d,n=(i+1)+d:=⟨n-(i+1),Ot⟩
 rw[sS f (i+1),sS g (i+1),gT (f:=fun k=>f (i+1+k)) (g:=fun k=>g (i+1+k)) (fun k hk=>he _ Ot Ot),cO,cO]
 have h1:=AZ (n:=i) (fun k hk=>hf k Ot)
 have h2:(f i+1)*B6^i≤g i*B6^i:=Nat.mul_le_mul_right _ hlt
 rw[Nat.add_mul,Nat.one_mul] at h2
 omega
theorem GD{a b:List Nat}{i:Nat}(ha:aT a)(hb:aT b)(hl:a.length=b.length)(hi:i<a.length)(hs:∀k,i<k→k<a.length→fv a k=fv b k)(hne:fv a i≠fv b i):
  ((fv a i:Int)-fv b i<0↔aA a<aA b)∧(0<(fv a i:Int)-fv b i↔aA b<aA a):=by
 unfold aA
 rw[←hl]
 rcases Nat.lt_or_gt_of_ne hne with h|h
 ·have:=Fj hi (fun k _=>aw ha.small k) hs h
  constructor <;>constructor <;>intro _<;>omega
 ·have:=Fj hi (fun k _=>aw hb.small k) (fun k h1 h2=>(hs k h1 h2).symm) h
  constructor <;>constructor <;>intro _<;>omega
theorem Bf{a b:List Nat}(hl:a.length=b.length)(hs:∀k,k<a.length→fv a k=fv b k):aA a=aA b:=by
 unfold aA
 rw[←hl];exact gT hs
theorem lZ{a b:List Nat}(ha:ij a)(hb:ij b)(k:Nat):(cn a b k).2≤1∧(cn a b (k+1)).1<1000000:=by
 have key:∀k,(cn a b k).2≤1:=by
  intro k
  cases k with
  |zero=>exact Nat.zero_le _
  |succ k=>show(if _ then 0 else 1)≤1;split <;>omega
 refine⟨key k,?_⟩
 have h1:fv a k<1000000:=aw ha _
 have h2:fv b k<1000000:=aw hb _
 have h3:=key k
 rw[cn]
 dsimp only
 by_cases h:fv b k+(cn a b k).2≤fv a k
 ·rw[if_pos h];omega
 ·rw[if_neg h];omega
theorem Dw{a b:List Nat}(ha:ij a)(hb:ij b)(k:Nat):S6 (fv (bK (cn a b) k)) k+S6 (fv b) k=S6 (fv a) k+(cn a b k).2*B6^k:=by
 induction k with
 |zero=>rfl
 |succ k ih=>
  have e:S6 (fv (bK (cn a b) (k+1))) k=S6 (fv (bK (cn a b) k)) k:=gT fun i hi=>by
   rw[ee];unfold fv;simp[List.getElem?_append_left,aY,hi]
  have e2:fv (bK (cn a b) (k+1)) k=(cn a b (k+1)).1:=by
   rw[ee];unfold fv
   rw[N8,List.getElem?_append_right (by rw[aY];omega),aY];simp
  rw[cO,cO,cO,e,e2,Nat.pow_succ]
  have h1:fv a k<1000000:=aw ha _
  have h2:fv b k<1000000:=aw hb _
  have hc:=(lZ ha hb k).1
  have h:(cn a b (k+1)).1+fv b k+(cn a b k).2=fv a k+(cn a b (k+1)).2*1000000:=by
   rw[cn]
   dsimp only
   by_cases h:fv b k+(cn a b k).2≤fv a k
   ·rw[if_pos h,if_pos h];omega
   ·rw[if_neg h,if_neg h];omega
  have h3:=congrArg (· *B6^k) h
  simp only[Nat.add_mul] at h3
  have h4:(cn a b (k+1)).2*(B6^k*B6)=(cn a b (k+1)).2*1000000*B6^k:=by
   show _=(cn a b (k+1)).2*B6*B6^k
   rw[Og (B6^k) B6,←Nat.mul_assoc]
  rw[h4]
  generalize(cn a b (k+1)).2*1000000*B6^k=u at *
  generalize(cn a b (k+1)).1*B6^k=v at *
  generalize fv a k*B6^k=p at *
  generalize fv b k*B6^k=q at *
  generalize(cn a b k).2*B6^k=r at *
  omega
theorem uN{a b:List Nat}(ha:ij a)(hb:ij b)(k:Nat):(gw a b k).2≤1∧(gw a b (k+1)).1<1000000:=by
 have key:∀k,(gw a b k).2≤1:=by
  intro k
  cases k with
  |zero=>exact Nat.zero_le _
  |succ k=>
   induction k with
   |zero=>
    have h1:=aw ha 0
    have h2:=aw hb 0
    show(fv a 0+fv b 0+0)/1000000≤1
    have h1':fv a 0<1000000:=h1
    have h2':fv b 0<1000000:=h2
    omega
   |succ k ih=>
    have h1:fv a (k+1)<1000000:=aw ha _
    have h2:fv b (k+1)<1000000:=aw hb _
    show(fv a (k+1)+fv b (k+1)+(gw a b (k+1)).2)/1000000≤1
    omega
 exact⟨key k,Nat.mod_lt _ Ov⟩
end Kp
namespace Go.Proofs.YtnpihidbkhehjaaGreatDoor
section
open Kp
theorem jf(w:NY)(b0:Nat)(v:N2)(l:List Nat)(i:Nat)(h:aR w b0 v l)(hi:i≤4611686018427387904):
  Of prog 305 #[v,.int .i64 i] w fun e w'=>e= .returned (.int .i64 (fv l i))∧w=w':=by
 obtain⟨A,cap,rfl,hl,hm,hc⟩:=h
 unfold Ol at hm
 by_cases hlt:i<l.length
 ·obtain⟨b,off,rfl,_,hcell⟩:=hc Ot
  have hx:=hcell i hlt
  clear hcell
  go_enter func305,ntmps305
  go_wp2
  go_ret
  exact⟨rfl,rfl⟩
 ·go_enter func305,ntmps305
  go_wp2
  go_ret
  exact⟨sW (by rw[ju Ot];rfl),rfl⟩
theorem qa(w:NY)(b0:Nat)(v:N2)(l:List Nat)(i:Nat)(h:aR w b0 v l)(hi:i≤4611686018427387904):
  Of prog 305 #[v,.int .i64 i] w fun e w'=>e= .returned (.int .i64 (fv l i))∧w'=w:=
 (jf w b0 v l i h hi).mono fun _ _ h=>⟨h.1,h.2.symm⟩
def FN(v:N2)(l:List Nat):N2:=match v with
 | .slice A _ cap=> .slice A (aj l).length cap
 |v=>v
theorem aR.trimmed{w:NY}{b0:Nat}{v:N2}{l:List Nat}(h:aR w b0 v l):aR w b0 (FN v l) (aj l):=by
 obtain⟨A,cap,rfl,h1,h2,hc⟩:=h
 have hle:=aI l
 refine⟨A,cap,rfl,Ok hle h1,h2,fun hp=> ?_⟩
 obtain⟨b,o,e,hb,hc'⟩:=hc Ot
 exact⟨b,o,e,hb,fun j hj=>by rw[pV hj];exact hc' j Ot⟩
theorem dD(w:NY)(b0:Nat)(v:N2)(l:List Nat)(h:aR w b0 v l):
  Of prog 303 #[v] w fun e w'=>e= .returned (FN v l)∧w=w':=by
 obtain⟨A,cap,rfl,h1,h2,hc⟩:=h
 unfold FN
 unfold Ol at h2
 have hlen:=aI l
 go_enter func303,ntmps303
 go_wp2
 go_loopw [3] (fun v wr=>∃k:Nat,k≤l.length∧v= .int .i64 (k:Int)∧Hid (aj (l.take k)=aj l)∧w=wr) (fun v _=>(Oh v).toNat)
 case atStart=>exact⟨l.length,NZ _,rfl,by simp[Hid],rfl⟩
 case round=>
  obtain⟨k,hk,rfl,ht,rfl⟩:=hrel
  rcases k with _|k
  ·go_wp2
   go_ret
   exact⟨by have:=ht.out;simp[kp] at this;rw[this];rfl,rfl⟩
  ·obtain⟨b,off,rfl,_,hcell⟩:=hc Ot
   have hx:=hcell k Ot
   by_cases h0:fv l k=0
   ·have hz:((fv l k:Int)==0)=Oc:=by rw[h0];rfl
    have H0:=NW h0
    clear h0 hcell
    go_wp2
    exact⟨⟨k,Ot,by go_num,qZ Ot H0.out ht.out,trivial⟩,by simp[Oh]⟩
   ·have hz:((fv l k:Int)==0)=N1:=OF
    have H0:=NW h0
    clear h0 hcell
    go_wp2
    go_ret
    exact⟨by rw[sJ Ot H0.out ht.out];rfl,rfl⟩
end
section
open Kp
def tu(a b:List Nat)(e:Ending):Prop:=∃c:Int,e= .returned (.int .i64 c)∧(c<0→aA a<aA b)∧(¬c<0→aA b≤aA a∧b.length≤a.length)
theorem pP(w:NY)(a b:List Nat)(va vb:N2)(ha:aR w w.heap.size va a)(hb:aR w w.heap.size vb b)(hca:aT a)(hcb:aT b):
  Of prog 308 #[va,vb] w fun e w'=>tu a b e∧Ext w w':=by
 have HA:=NW (show∀W,Ext w W→aR W w.heap.size va a from fun W h=>ha.below h)
 have HB:=NW (show∀W,Ext w W→aR W w.heap.size vb b from fun W h=>hb.below h)
 obtain⟨A,ca,rfl,ha1,ha2,_⟩:=id ha
 obtain⟨A',cb,rfl,hb1,hb2,_⟩:=id hb
 unfold Ol at ha2 hb2
 have HN:=NW (show aA a<aA b→tu a b (.returned (.int .i64 (-1))) from fun h=>⟨_,rfl,fun _=>h,fun h=>absurd Ov h⟩)
 have HP:=NW (show aA b≤aA a∧b.length≤a.length→tu a b (.returned (.int .i64 1)) from fun h=>⟨_,rfl,fun h=>absurd h Ov,fun _=>h⟩)
 have HZ:=NW (show aA b≤aA a∧b.length≤a.length→tu a b (.returned (.int .i64 0)) from fun h=>⟨_,rfl,fun h=>absurd h Ov,fun _=>h⟩)
 by_cases hne:a.length=b.length
 ·have E:=NW hne
  obtain⟨n,hn⟩:∃n,a.length=n:=⟨_,rfl⟩
  have hbn:b.length=n:=Ot
  rw[hbn] at HB
  rw[hn] at HA
  rw[hn,hbn]
  have HLA:=NW hn
  have HLB:=NW hbn
  have hn6:n≤9223372036854775807:=Ot
  have w1:Oe.wrap ((n:Int)-1)=(n:Int)-1:=Om _ Ot
  clear ha hb ha1 ha2 hb1 hb2 hne hn hbn
  go_enter func308,ntmps308
  go_wp2
  go_loopw [5] (fun i wr=>∃k:Nat,k≤n∧i= .int .i64 ((k:Int)-1)∧Ext w wr∧Hid (∀m,k≤m→m<a.length→fv a m=fv b m)) (fun i _=>(Oh i+1).toNat)
  case atStart=>exact⟨n,NZ _,rfl,Below.refl _ _,fun m h1 h2=>by have:=HLA.out;omega⟩
  case round=>
   obtain⟨k,hk,rfl,hX,hs⟩:=hrel
   have HX:=NW hX
   rcases k with _|k
   ·have HQ:=NW (HZ.out ⟨Nat.le_of_eq (Bf E.out fun m hm=>hs.out m (Nat.zero_le _) hm).symm,Nat.le_of_eq E.out.symm⟩)
    clear hX
    go_wp2
    go_ret
    exact⟨HQ.out,HX.out⟩
   ·obtain⟨_,_,e,_,_,q⟩:=HA.out wr hX
    injection e with e1 _ e3
    subst e1 e3
    obtain⟨b1,o1,rfl,_,c1⟩:=q (by have:=HLA.out;omega)
    have c1:=c1 k (by have:=HLA.out;omega)
    obtain⟨_,_,e,_,_,q⟩:=HB.out wr hX
    injection e with e1 _ e3
    subst e1 e3
    obtain⟨b2,o2,rfl,_,c2⟩:=q (by have:=HLB.out;omega)
    have c2:=c2 k (by have:=HLB.out;omega)
    have ek:((k+1:Nat):Int)-1=(k:Int):=Ot
    rw[ek]
    have w2:Oe.wrap ((k:Int)-1)=(k:Int)-1:=Om _ Ot
    have hka:k<a.length:=by have:=HLA.out;omega
    have HC:=NW (fun h=>GD hca hcb E.out hka (fun m h1 h2=>hs.out m Ot h2) h)
    obtain⟨x,hx⟩:∃x,fv a k=x:=⟨_,rfl⟩
    obtain⟨y,hy⟩:∃y,fv b k=y:=⟨_,rfl⟩
    rw[hx] at c1
    rw[hy] at c2
    have HXX:=NW hx
    have HYY:=NW hy
    clear hX q hka
    rcases Nat.lt_trichotomy x y with h|h|h
    ·have HQ:=NW (HN.out ((HC.out PJ).1.1 PJ))
     clear hx hy
     go_wp2_with fail
     go_quiet (fail)
     go_wp2
     go_ret
     exact⟨HQ.out,below_drewN HX.out _⟩
    ·have t1:¬x<y:=Ot
     have t2:¬y<x:=Ot
     have HQ:=NW (show∀m,k≤m→m<a.length→fv a m=fv b m from fun m h1 h2=>by
      by_cases e:m=k
      ·rw[e];have:=HXX.out;have:=HYY.out;omega
      ·exact hs.out m Ot h2)
     clear h hx hy
     go_wp2_with fail
     go_quiet (fail)
     go_wp2_with fail
     go_quiet (fail)
     go_wp2
     go_round
     case rel=>exact⟨k,Ot,rfl,below_drewN HX.out _,HQ⟩
     case measure=>simp[Oh]
    ·have t1:¬x<y:=Ot
     have HQ:=NW (HP.out ⟨Nat.le_of_lt ((HC.out PJ).2.1 PJ),Nat.le_of_eq E.out.symm⟩)
     clear hx hy
     go_wp2_with fail
     go_quiet (fail)
     go_wp2_with fail
     go_quiet (fail)
     go_wp2
     go_ret
     exact⟨HQ.out,below_drewN (below_drewN HX.out _) _⟩
 ·have hne':((a.length:Int) !=b.length)=Oc:=Ph
  by_cases hlt:a.length<b.length
  ·have HQ:=NW (HN.out (eZ hca.small hcb.trim hlt))
   clear hne ha hb
   go_enter func308,ntmps308
   go_wp2
   go_ret
   exact⟨HQ.out,Below.refl _ _⟩
  ·have HQ:=NW (HP.out ⟨Nat.le_of_lt (eZ hcb.small hca.trim Ot),Ot⟩)
   clear hne ha hb
   go_enter func308,ntmps308
   go_wp2
   go_ret
   exact⟨HQ.out,Below.refl _ _⟩
end
section
open Kp
def ya(z:Nat)(v:N2):Prop:=∀A n c,v= .slice A n c→(A=N0→c=0)∧∀ad,A=N3 ad→z≤ad.block
theorem ya.tr{z:Nat}{v:N2}(h:ya z v)(l:List Nat):ya z (FN v l):=by
 intro A n c e
 cases v with
 |slice A' n' c'=>unfold FN at e;injection e with e1 e2 e3;subst e1 e3;exact h _ _ _ rfl
 |_=>cases e
theorem zM{w:NY}{base n s:Nat}{t:Oo}{v:N2}{xs:List N2}(h:w.ownsRow base t s v n xs):ya base v:=by
 obtain⟨_,⟨rfl,_⟩|⟨g,cap,cur,rfl,hb,_⟩⟩:=h
 ·intro A n c e;injection e with e1 _ e3;subst e1 e3;exact⟨fun _=>rfl,fun _ h=>Ox⟩
 ·intro A n c e;injection e with e1 _ e3;subst e1 e3;exact⟨fun h=>Ox,fun _ h=>(by injection h with h;subst h;exact hb)⟩
def qY(P:List Nat→Prop)(w:NY)(e:Ending)(w':NY):Prop:=∃v l,e= .returned v∧aR w' w'.heap.size v l∧aT l∧P l∧Ext w w'∧ya w.heap.size v
theorem kU{f:Nat→Nat×Nat}(h:∀k,(f (k+1)).1<1000000)(n:Nat):ij (bK f n):=by
 intro d hd
 unfold bK at hd
 obtain⟨i,_,rfl⟩:=List.mem_map.1 hd
 exact h i
theorem pX{a b:List Nat}(ha:ij a)(hb:ij b)(hl:b.length≤a.length)(hv:aA b≤aA a):aA (aj (bK (cn a b) a.length))=aA a-aA b:=by
 have h:=Dw ha hb a.length
 rw[ft]
 have e1:S6 (fv (bK (cn a b) a.length)) a.length=aA (bK (cn a b) a.length):=gU (Nat.le_of_eq (aY _ _))
 have e2:S6 (fv b) a.length=aA b:=gU hl
 have e3:S6 (fv a) a.length=aA a:=rfl
 rw[e1,e2,e3] at h
 have h1:=uY (kU (fun k=>(lZ ha hb k).2) a.length)
 rw[aY] at h1
 have h2:=(lZ ha hb a.length).1
 rcases Nat.lt_or_ge (cn a b a.length).2 1 with h3|h3
 ·rw[show(cn a b a.length).2=0 by omega,Nat.zero_mul] at h
  omega
 ·rw[show(cn a b a.length).2=1 by omega,Nat.one_mul] at h
  omega
theorem qU(w:NY)(t:Oo):(w.alloc (.cells #[] t)).ownsRow w.heap.size t 1 (.slice (N3 ⟨w.heap.size,0,N0⟩) 0 0) 0 []:=
 ⟨rfl,.inr ⟨w.heap.size,0,#[],rfl,NZ _,NY.alloc_heap_new w _,NZ _,OE,rfl,rfl⟩⟩
theorem jS(w:NY)(a b:List Nat)(va vb:N2)(ha:aR w w.heap.size va a)(hb:aR w w.heap.size vb b)(hsa:ij a)(hsb:ij b)(hla:a.length≤1000000):
  Of prog 306 #[va,vb] w (qY (fun l=>l=aj (bK (cn a b) a.length)) w):=by
 obtain⟨i0,hi0,hz0,hz1,hz2⟩:=info_parts dW
 have I0:=NW hi0
 have I1:=NW hz0
 have I2:=NW hz1
 have I3:=NW hz2
 have HA:=NW ha
 have HB:=NW hb
 obtain⟨A,ca,rfl,ha1,ha2,_⟩:=id ha
 have HC:=NW (dE (kU (fun k=>(lZ hsa hsb k).2) a.length))
 have HM:=NW (fun k=>lZ hsa hsb k)
 unfold Ol at ha2
 obtain⟨n,hn⟩:∃n,a.length=n:=⟨_,rfl⟩
 have HN:=NW hn
 rw[hn]
 rw[hn] at hla ha1 HC HA
 clear ha hb hi0 hz0 hz1 hz2 hn
 go_enter func306,ntmps306
 go_wp2
 go_loopw [5,6,7] (fun v c i wr=>Nl w (cn a b) n v c i wr) (fun _ _ i _=>((n:Int)-Oh i).toNat)
 case atStart=>exact⟨0,Ot,rfl,rfl,qU _ _,(Below.refl _ _).alloc (NZ _) _⟩
 case round=>
  obtain⟨k,hk,rfl,rfl,hown,hX⟩:=hrel
  have HO:=NW hown
  have HX:=NW hX
  have hs1:=(HA.out.below hX)
  have hs2:=(HB.out.below hX)
  have hbase:=hX.size
  clear hown hX
  by_cases hlt:k<n
  ·have C2:=NW (fun m=>qa (wr.drewN m) _ _ b k hs2 Ot)
   obtain⟨_,_,e,_,_,q⟩:=hs1
   injection e with e1 e2 e3
   clear e2
   subst e1 e3
   obtain⟨b1,o1,rfl,_,c1⟩:=q O9
   replace c1:=c1 k O9
   have HR:=NW (ee (cn a b) k)
   have hx1:(cn a b (k+1)).1=if fv b k+(cn a b k).2≤fv a k then fv a k-(fv b k+(cn a b k).2) else fv a k+1000000-(fv b k+(cn a b k).2):=rfl
   have hx2:(cn a b (k+1)).2=if fv b k+(cn a b k).2≤fv a k then 0 else 1:=rfl
   have hxa:fv a k<1000000:=aw hsa k
   have hxb:fv b k<1000000:=aw hsb k
   have hxc:=(HM.out k).1
   obtain⟨p,hp⟩:∃x,fv a k=x:=⟨_,rfl⟩
   obtain⟨r,hr⟩:∃x,fv b k=x:=⟨_,rfl⟩
   obtain⟨c,hc⟩:∃x,(cn a b k).2=x:=⟨_,rfl⟩
   obtain⟨x,hx⟩:∃x,(cn a b (k+1)).1=x:=⟨_,rfl⟩
   obtain⟨y,hy⟩:∃y,(cn a b (k+1)).2=y:=⟨_,rfl⟩
   rw[hx,hp,hr,hc] at hx1
   rw[hy,hp,hr,hc] at hx2
   rw[hp] at c1 hxa
   rw[hr] at C2 hxb
   rw[hc] at hxc
   rw[hc]
   rw[hx] at HR
   have HY:=NW hy
   have hbase1:w.heap.size≤(wr.alloc (.cells #[.int .i64 (x:Int)] 3)).heap.size:=OB
   have hbase2:∀m,w.heap.size≤((wr.drewN m).alloc (.cells #[.int .i64 (x:Int)] 3)).heap.size:=by intro m;simp;omega
   have HB2:=NW hbase2
   have HOX:=NW (fun m=>bB HO.out ((below_drewN (Below.refl wr.heap.size wr) m).alloc Ow (.cells #[.int .i64 (x:Int)] 3)))
   obtain⟨vs,hvs⟩:∃vs,oo (bK (cn a b) k)=vs:=⟨_,rfl⟩
   rw[hvs] at HO HOX
   have HVS:=NW hvs
   have w1:Oe.wrap ((p:Int)-(r:Int))=(p:Int)-r:=Om _ Ot
   have w2:Oe.wrap ((p:Int)-(r:Int)-(c:Int))=(p:Int)-r-c:=Om _ Ot
   have w3:Oe.wrap ((p:Int)-(r:Int)-(c:Int)+1000000)=(p:Int)-r-c+1000000:=Om _ Ot
   clear hs2 hp hr hc hx hy q hvs hbase2 hbase1
   have HXK:=NW hk
   have HRW:=NW (fun(m j:Nat) (u:N2) (hj:[Value.int .i64 (x:Int)][j]?=N3 u)=>show((wr.drewN m).alloc (.cells #[.int .i64 (x:Int)] 3)).cell? ((⟨wr.heap.size,0,N0⟩:Addr).add j)=N3 u by rw[Addr.add_lit,Nat.zero_add];exact((af.new (wr.drewN m) 3 [.int .i64 (x:Int)]).cell j).trans hj)
   have ARM:=NW (show∀(y':Nat) (v':N2) (m:Nat) (w':NY),(cn a b (k+1)).2=y'→w'.ownsRow w.heap.size 3 1 v' (k+1) (vs++[.int .i64 (x:Int)])→((wr.drewN m).alloc (.cells #[.int .i64 (x:Int)] 3)).grownBy w' u5.ownBlock→Nl w (cn a b) n v' (.int .i64 (y':Int)) (.int .i64 ((k:Int)+1)) w' from fun y' v' m w' hy' hown' hgr'=>by
    refine⟨k+1,Ot,Ow,by rw[hy'],?_,eM (((below_drewN HX.out m)).alloc (by have:=HX.out.size;simp;omega) _) hgr' (fun q hq=>(aE HO.out q hq).1)⟩
    have e:oo (bK (cn a b) (k+1))=vs++[.int .i64 (x:Int)]:=Pq
    rw[e]
    exact hown')
   clear HVS HR
   by_cases hneg:r+c≤p
   ·rw[if_pos hneg] at hx1 hx2
    have t1:¬(p:Int)-r-c<0:=Ot
    have e1:(p:Int)-r-c=(x:Int):=Ot
    have t2:¬(x:Int)<0:=Ot
    clear hx1 hneg
    subst hx2
    go_wp2_with fail
    go_quiet ((go_at_call 305;exact Calls.quiet_of_same (C2.out _)))
    go_wp2_with(at_builtin;(refine wpList_append_own _ rfl _ _ _ rfl w.heap.size 3 i0 _ 1 8 underlying25 I0.out I1.out I2.out I3.out rfl Ot _ _ _ rfl (HOX.out _) ⟨wr.heap.size,0,N0⟩ 1 1 [.int .i64 (x:Int)] rfl OR (HRW.out _) Pj OE Ot (HB2.out _) ?_);intro v' w' hown' hgr' hnil)
    go_round
    case rel=>exact ARM.out 0 _ _ _ HY.out hown' hgr'
    case measure=>simp[Oh];omega
   ·rw[if_neg hneg] at hx1 hx2
    have t1:(p:Int)-r-c<0:=Ot
    have e1:(p:Int)-r-c+1000000=(x:Int):=Ot
    clear hx1 hneg
    subst hx2
    go_wp2_with fail
    go_quiet ((go_at_call 305;exact Calls.quiet_of_same (C2.out _)))
    go_wp2_with(at_builtin;(refine wpList_append_own _ rfl _ _ _ rfl w.heap.size 3 i0 _ 1 8 underlying25 I0.out I1.out I2.out I3.out rfl Ot _ _ _ rfl (HOX.out _) ⟨wr.heap.size,0,N0⟩ 1 1 [.int .i64 (x:Int)] rfl OR (HRW.out _) Pj OE Ot (HB2.out _) ?_);intro v' w' hown' hgr' hnil)
    go_round
    case rel=>exact ARM.out 1 _ _ _ HY.out hown' hgr'
    case measure=>simp[Oh];omega
  ·obtain rfl:k=n:=Ot
   have hlt':¬(k:Int)<(k:Int):=Ot
   have hsn:=dX HO.out (aY (cn a b) k)
   have CT:=NW (dD wr wr.heap.size u5 (bK (cn a b) k) hsn)
   have HS:=NW (show qY (fun l=>l=aj (bK (cn a b) k)) w (.returned (FN u5 (bK (cn a b) k))) wr from⟨_,_,rfl,hsn.trimmed,HC.out,rfl,HX.out,(zM HO.out).tr _⟩)
   clear hsn hs1 hs2
   go_wp2_with(go_at_call 303;go_must(refine CT.out.mono ?_);rintro e W1 ⟨rfl,rfl⟩)
   go_ret
   exact HS.out
end
end Go.Proofs.YtnpihidbkhehjaaGreatDoor
