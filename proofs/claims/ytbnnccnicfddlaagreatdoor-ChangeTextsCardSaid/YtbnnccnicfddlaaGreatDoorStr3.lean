/- integer.read: the walk. Written by mkStr3.py (the orders of one region). -/
import Derived.Test.YtbnnccnicfddlaaGreatDoorInt8
import Derived.Test.YtbnnccnicfddlaaGreatDoorStr2
set_option linter.unusedSimpArgs false
set_option linter.unusedVariables false
namespace Go.Proofs.YtbnnccnicfddlaaGreatDoor
open Go.RowKit Go.Shelf Kp
attribute [local go_sem] Oper.semAt_some

/-- a block of two cells -/
def Bx2 (W : World) (b : Nat) (t : TypeId) (u v : Value) : Prop := W.heap[b]? = some (.cells #[u, v] t (0, 0))
theorem Bx2.cell0 {W : World} {b : Nat} {t : TypeId} {u v : Value} (h : Bx2 W b t u v) : W.cell? ⟨b, 0, none⟩ = some u := by unfold Bx2 at h; simp [World.cell?, h]
theorem Bx2.cell1 {W : World} {b : Nat} {t : TypeId} {u v : Value} (h : Bx2 W b t u v) : W.cell? ⟨b, 1, none⟩ = some v := by unfold Bx2 at h; simp [World.cell?, h]
theorem Bx2.frozen {W : World} {b : Nat} {t : TypeId} {u v : Value} (h : Bx2 W b t u v) (i : Nat) : W.frozen? ⟨b, i, none⟩ = false := by unfold Bx2 at h; simp [World.frozen?, h]
theorem Bx2.stays {n0 : Nat} {W W' : World} {b : Nat} {t : TypeId} {u v : Value} (h : Bx2 W b t u v) (hs : Stays n0 W W') : Bx2 W' b t u v := hs.cells _ _ _ _ h
theorem Bx2.lt {W : World} {b : Nat} {t : TypeId} {u v : Value} (h : Bx2 W b t u v) : b < W.heap.size := (Array.getElem?_eq_some_iff.1 h).1
theorem Bx2.far {W : World} {b : Nat} {t : TypeId} {u v : Value} (h : Bx2 W b t u v) {p : Addr} (hp : b ≠ p.block) (x : Value) : Bx2 (W.setCell p x) b t u v := (Below.heap_setCell W p x b hp).trans h
theorem Bx2.put0 {W : World} {b : Nat} {t : TypeId} {u v : Value} (h : Bx2 W b t u v) (x : Value) : Bx2 (W.setCell ⟨b, 0, none⟩ x) b t x v := by
  unfold Bx2 at h ⊢; simp [World.setCell, Array.getElem?_modify, h]
theorem Bx2.put1 {W : World} {b : Nat} {t : TypeId} {u v : Value} (h : Bx2 W b t u v) (x : Value) : Bx2 (W.setCell ⟨b, 1, none⟩ x) b t u x := by
  unfold Bx2 at h ⊢; simp [World.setCell, Array.getElem?_modify, h]
theorem Bx2.alloc {W : World} {b : Nat} {t : TypeId} {u v : Value} (h : Bx2 W b t u v) (o : Obj) : Bx2 (W.alloc o) b t u v := (Below.heap_alloc W o b h.lt).trans h
theorem Bx2.drew {W : World} {b : Nat} {t : TypeId} {u v : Value} (h : Bx2 W b t u v) : Bx2 W.drew b t u v := h
theorem Bx2.at_ {W : World} {t : TypeId} {u v : Value} {n : Nat} (h : W.heap.size = n) : Bx2 (W.alloc (.cells #[u, v] t)) n t u v := by subst h; exact World.alloc_heap_new W _

/-- what holds behind k rounds of read -/
structure RdI (w : World) (ds : List UInt8) (neg : Bool) (n : Nat) (k : Nat) (lim : List Nat) (u : Nat) (W : World) : Prop where
  res : Bx2 W w.heap.size 147 (.bool false) (.slice none 0 0)
  row : Row W (w.heap.size + 1) n lim
  x : Bx2 W (w.heap.size + 2) 147 (.bool neg) (.slice (some ⟨w.heap.size + 1, 0, none⟩) n n)
  unit : Bx W (w.heap.size + 3) 3 (.int .i64 u)
  it : Bx W (w.heap.size + 4) 9 (.string (tx ds))
  len : lim.length = n
  hu : k % 9 ≠ 0 → u = 10 ^ (k % 9)
  m : RdM ds k lim
  low : Below w.heap.size w W
theorem RdI.stays {w : World} {ds : List UInt8} {neg : Bool} {n k : Nat} {lim : List Nat} {u n0 : Nat} {W W' : World} (h : RdI w ds neg n k lim u W) (hs : Stays n0 W W') (hn : w.heap.size ≤ n0) : RdI w ds neg n k lim u W' :=
  ⟨h.res.stays hs, h.row.stays hs, h.x.stays hs, h.unit.stays hs, h.it.stays hs, h.len, h.hu, h.m, h.low.trans (hs.below.mono hn)⟩
def RdLoop (w : World) (ds : List UInt8) (neg : Bool) (n : Nat) (k : Nat) (W : World) : Prop := ∃ lim u, RdI w ds neg n k lim u W

theorem rd_next {w W : World} {ds : List UInt8} {neg : Bool} {n k : Nat} {lim : List Nat} {u : Nat} (h : RdI w ds neg n k lim u W) (hd : ds.all isD = true) (hk : k / 9 < n) (hu : u = 10 ^ (k % 9)) :
    RdI w ds neg n (k + 1) (lim.set (k / 9) (fv lim (k / 9) + dg ds k * u)) (u * 10) ((W.setCell ⟨w.heap.size + 1, k / 9, none⟩ (.int .i64 ((fv lim (k / 9) : Int) + (dg ds k : Int) * u))).setCell ⟨w.heap.size + 3, 0, none⟩ (.int .i64 ((u : Int) * 10))) := by
  obtain ⟨res, row, x, unit, it, len, _, m, low⟩ := h
  have e1 : ((fv lim (k / 9) : Int) + (dg ds k : Int) * u) = ((fv lim (k / 9) + dg ds k * u : Nat) : Int) := by simp
  have e2 : ((u : Int) * 10) = ((u * 10 : Nat) : Int) := by simp
  rw [e1, e2]
  refine ⟨(res.far (by simp) _).far (by simp) _, (row.set (by omega) _).far (by simp) _, (x.far (by simp) _).far (by simp) _, (unit.far (by simp) _).put _, (it.far (by simp) _).far (by simp) _, by simpa using len, ?_, ?_, ?_⟩
  · intro h9
    rw [hu, ← Nat.pow_succ]
    congr 1; omega
  · refine m.step hd (by omega) (by simp) (fun j hj => by rw [fv_set (by omega), if_neg hj]) ?_
    rw [fv_set (by omega), if_pos rfl, hu]
  · exact (low.setCell (p := ⟨w.heap.size + 1, _, none⟩) (by simp) _).setCell (p := ⟨w.heap.size + 3, 0, none⟩) (by simp) _
theorem rd_one {w W : World} {ds : List UInt8} {neg : Bool} {n k : Nat} {lim : List Nat} {u : Nat} (h : RdI w ds neg n k lim u W) (hk : k % 9 = 0) :
    RdI w ds neg n k lim 1 (W.setCell ⟨w.heap.size + 3, 0, none⟩ (.int .i64 1)) :=
  ⟨h.res.far (by simp) _, h.row.far (by simp) _, h.x.far (by simp) _, h.unit.put _, h.it.far (by simp) _, h.len, fun h => absurd hk h, h.m, h.low.setCell (p := ⟨w.heap.size + 3, 0, none⟩) (by simp) _⟩
theorem RdI.drew {w : World} {ds : List UInt8} {neg : Bool} {n k : Nat} {lim : List Nat} {u : Nat} {W : World} (h : RdI w ds neg n k lim u W) : RdI w ds neg n k lim u W.drew :=
  ⟨h.res, h.row, h.x, h.unit, h.it, h.len, h.hu, h.m, h.low.drew⟩
theorem rd_leafA {w W : World} {ds : List UInt8} {neg : Bool} {n k : Nat} {lim : List Nat} {u g1 o1 g2 o2 : Nat} {v1 v2 : Value}
    (h : RdI w ds neg n k lim u ((W.setCell ⟨g1, o1, none⟩ v1).setCell ⟨g2, o2, none⟩ v2)) :
    KeepsOthers W ((W.setCell ⟨g1, o1, none⟩ v1).setCell ⟨g2, o2, none⟩ v2).drew ∧ RdLoop w ds neg n k ((W.setCell ⟨g1, o1, none⟩ v1).setCell ⟨g2, o2, none⟩ v2).drew :=
  ⟨((KeepsOthers.setCell _ _ _).trans (KeepsOthers.setCell _ _ _)).trans (KeepsOthers.drew _), _, _, h.drew⟩
theorem rd_leafB {w W0 W : World} {ds : List UInt8} {neg : Bool} {n k : Nat} {lim : List Nat} {u g1 o1 g2 o2 : Nat} {v1 v2 : Value} (hk : KeepsOthers W0 W)
    (h : RdI w ds neg n k lim u ((W.setCell ⟨g1, o1, none⟩ v1).setCell ⟨g2, o2, none⟩ v2)) :
    KeepsOthers W0 ((W.setCell ⟨g1, o1, none⟩ v1).setCell ⟨g2, o2, none⟩ v2).drew ∧ RdLoop w ds neg n k ((W.setCell ⟨g1, o1, none⟩ v1).setCell ⟨g2, o2, none⟩ v2).drew :=
  ⟨hk.trans (rd_leafA h).1, (rd_leafA h).2⟩

def RdPost (w : World) (s : List UInt8) (e : Ending) (w' : World) : Prop :=
  ∃ v l, e = .returned (.agg #[.bool (Lib.hasPrefix s [45]), v]) ∧ OwnN w w' v l ∧ Canon l ∧ val l = natOf (own s) ∧ l.length ≤ (own s).length ∧ Below w.heap.size w w'

set_option maxRecDepth 100000 in
set_option maxHeartbeats 2000000 in
theorem iread_any (w : World) (s : List UInt8) (hd : (own s).all isD = true) (hl : s.length ≤ 1000000) :
    Calls Tryz.prog 80 #[.string (tx s)] w (RdPost w s) := by
  obtain ⟨ds, hds⟩ : ∃ ds, own s = ds := ⟨_, rfl⟩
  obtain ⟨neg, hneg⟩ : ∃ neg, Lib.hasPrefix s [45] = neg := ⟨_, rfl⟩
  have hdl : ds.length ≤ s.length := by rw [← hds]; unfold own Lib.trimPrefix; split <;> simp
  have hds' : Lib.trimPrefix s [45] = ds := hds
  have hcut : ∀ W, Calls Tryz.prog 73 #[.string (tx s), .string ⟨#[45]⟩] W fun e w' => e = .returned (.tuple #[.string (tx ds), .bool neg]) ∧ w' = W := fun W => by
    have := Tryz.strings_CutPrefix (tx s) (tx [45]) W
    rw [tx_list, tx_list, hds', hneg] at this
    exact this
  rw [hds] at hd
  have HDS := Lib.hid hds
  have HNEG := Lib.hid hneg
  have HD := Lib.hid hd
  have HCUT := Lib.hid hcut
  clear hds hds' hneg hcut hd
  have w1 : ((ds.length : Int) + 9 - 1) / 9 = (((ds.length + 8) / 9 : Nat) : Int) := by omega
  obtain ⟨n, hn⟩ : ∃ n, (ds.length + 8) / 9 = n := ⟨_, rfl⟩
  rw [hn] at w1
  have HN0 := Lib.hid hn
  have hn1 : n ≤ 1000000 := by omega
  have hn2 : ds.length ≤ n * 9 := by omega
  clear hn
  have hmk := run_make_ints n (by omega)
  refine (callsIn_wide (n := 9)).1 (callsIn_of_wp_marks Tryz.func80 rfl trivial ?_)
  simp only [Tryz.ntmps80, List.size_toArray, List.length_cons, List.length_nil, Nat.reduceAdd, Nat.reduceSub, Array.replicate_succ, Array.replicate_zero, List.push_toArray, List.append_toArray, List.nil_append, List.cons_append]
  gi_wp2_with (refine ⟨trivial, ?_⟩; first | (gi_at_call 73; refine (callsIn_wide.2 (HCUT.out _)).mono ?_; rintro e w' ⟨rfl, rfl⟩) | (gi_at_call 97; refine (callsIn_wide.2 (digits_any _ _)).mono ?_; rintro e w' ⟨rfl, rfl⟩))
  refine wpIn_rangeAt (gf := 112) (lb := #[.pointer (some ⟨w.heap.size + 4, 0, none⟩)]) rfl (enters_of Tryz.func112 (by kernel_rfl) rfl)
    (digits1_seq (w.heap.size + 4) ds (by omega) HD.out) (fun k x e => by rw [e]; rfl)
    (RdLoop w ds neg n) (fun _ _ _ => False) (fun k W W' ⟨q, r, h⟩ hs => ⟨q, r, h.stays hs (by simp; omega)⟩) (fun c k W W' h hs => h) (fun k W ⟨q, r, h⟩ => h.it.cell) ?start ?round ?done ?stop
  case start =>
    have hB : Below w.heap.size w (((((w.alloc (.cells #[.bool false, .slice none 0 0] 147)).alloc (.cells (zerosA n) 3)).alloc (.cells #[.bool neg, .slice (some ⟨w.heap.size + 1, 0, none⟩) n n] 147)).alloc (.cells #[.int .i64 1] 3)).alloc (.cells #[.string (tx ds)] 9)) :=
      (below3 w _ _ _).trans ((((Below.refl _ _).alloc (by simp; omega) _).alloc (by simp; omega) _))
    refine ⟨List.replicate n 0, 1, ((((Bx2.at_ rfl).alloc _).alloc _).alloc _).alloc _, ?_, ((Bx2.at_ (by simp)).alloc _).alloc _, (Bx.at_ (by simp)).alloc _, Bx.at_ (by simp), by simp, fun h => absurd rfl h, RdM.start ds n, hB⟩
    have := row_zeros (w.alloc (.cells #[.bool false, .slice none 0 0] 147)) n (by omega)
    simp only [World.size_alloc] at this
    exact ((this.alloc _).alloc _).alloc _
  case round =>
    intro l k x W K hk hx hi hK
    unfold DigX at hx
    subst hx
    have HK := Lib.hid hK
    clear hK
    gi_wp2
    refine HK.out _ (fun W2 hi2 _ => ?_)
    clear HK hi
    obtain ⟨lim, u, h⟩ := hi2
    have hkn : k / 9 < n := by omega
    have hdg := dg_lt HD.out k
    have hfv : fv lim (k / 9) < 1000000000 := fv_small h.m.small _
    have hq : ((k : Int) / 9).toNat = k / 9 := by omega
    have i0 : 0 ≤ (k : Int) / 9 := by omega
    have i1 : (k : Int) / 9 < n := by omega
    by_cases h9 : k % 9 = 0
    · have h1 := rd_one h h9
      obtain ⟨W3, hW3⟩ : ∃ W3, W2.setCell ⟨w.heap.size + 3, 0, none⟩ (.int .i64 1) = W3 := ⟨_, rfl⟩
      have hk3 := Lib.hid (show KeepsOthers W2 W3 by rw [← hW3]; exact KeepsOthers.setCell _ _ _)
      rw [hW3] at h1
      obtain ⟨u1, hu1⟩ : ∃ u1 : Nat, u1 = 1 := ⟨_, rfl⟩
      rw [← hu1] at h1
      have hu : u1 = 10 ^ (k % 9) := by rw [h9, hu1]
      clear hu1
      have HN := Lib.hid (rd_next h1 HD.out hkn hu)
      have f2 := h.unit.frozen
      have b2 := h.unit.cell
      have hub : u1 ≤ 100000000 := by
        rw [hu]
        calc 10 ^ (k % 9) ≤ 10 ^ 8 := Nat.pow_le_pow_right (by decide) (by omega)
          _ = 100000000 := rfl
      have hmul : dg ds k * u1 ≤ 900000000 := by
        calc dg ds k * u1 ≤ 9 * 100000000 := Nat.mul_le_mul (by omega) hub
          _ = 900000000 := rfl
      have hmul' : (dg ds k : Int) * (u1 : Int) ≤ 900000000 := by rw [← Int.natCast_mul]; omega
      have hmul0 : 0 ≤ (dg ds k : Int) * (u1 : Int) := by rw [← Int.natCast_mul]; omega
      have b0 := h1.x.cell1
      have b1 := h1.unit.cell
      have f1 := h1.unit.frozen
      have f3 := h1.row.frozen (k / 9)
      have b3 := h1.row.cell (j := k / 9) (by rw [h1.len]; omega)
      have wq : IntKind.i64.wrap ((k : Int) / 9) = (k : Int) / 9 := wr64 (by omega) (by omega)
      have w5 : IntKind.i64.wrap ((dg ds k : Int) * (u1 : Int)) = dg ds k * u1 := wr64 (by omega) (by omega)
      have w6 : IntKind.i64.wrap ((fv lim (k / 9) : Int) + (dg ds k : Int) * (u1 : Int)) = fv lim (k / 9) + dg ds k * u1 := wr64 (by omega) (by omega)
      have w7 : IntKind.i64.wrap ((u1 : Int) * 10) = u1 * 10 := wr64 (by omega) (by omega)
      have ht : ((k : Int) % 9 == 0) = true := by rw [beq_iff_eq]; omega
      have HW3 := Lib.hid hW3
      clear h h1 h9 hW3 hu hmul
      gi_wp2
      rw [HW3.out]
      refine wpIn_region_any (by kernel_rfl) (wpAny_round (by kernel_rfl) (by rintro ⟨_, _, h⟩; exact h) _ _ _ _ ?_)
      try (change wpAny _ _ _ _ _ _ _ (World.drew _))
      refine wpAny_take (i := 0) (v := ?vc1) rfl (by kernel_rfl) (by kernel_rfl) (by kernel_rfl) (fun _ _ _ h => h) (Or.inl ⟨by rfl, ?hyc1⟩) ?_
      case hyc1 => (intro w; go_simp; try with_reducible rfl)
      refine wpAny_take (i := 2) (v := ?vc2) rfl (by kernel_rfl) (by kernel_rfl) (by kernel_rfl) (fun _ _ _ h => h) (Or.inl ⟨by rfl, ?hyc2⟩) ?_
      case hyc2 => (intro w; go_simp; try with_reducible rfl)
      refine wpAny_take (i := 3) (v := ?vc3) rfl (by kernel_rfl) (by kernel_rfl) (by kernel_rfl) (fun _ _ _ h => h) (Or.inl ⟨by rfl, ?hyc3⟩) ?_
      case hyc3 => (intro w; go_simp; try with_reducible rfl)
      refine wpAny_take (i := 6) (v := ?vc4) rfl (by kernel_rfl) (by kernel_rfl) (by kernel_rfl) (fun _ _ _ h => h) (Or.inl ⟨by rfl, ?hyc4⟩) ?_
      case hyc4 => (intro w; go_simp; try with_reducible rfl)
      refine wpAny_ready (rs := [1, 7]) (by kernel_rfl) (by simp) ?_
      refine AllReady.cons rfl (fun K hK => ?_) ?_
      · go_simp
        refine hK _ _ ?_
        clear hK K
        refine wpAny_take (i := 4) (v := ?vc5) rfl (by kernel_rfl) (by kernel_rfl) (by kernel_rfl) (fun _ _ _ h => h) (Or.inl ⟨by rfl, ?hyc5⟩) ?_
        case hyc5 => (intro w; go_simp; try with_reducible rfl)
        refine wpAny_ready (rs := [5, 7]) (by kernel_rfl) (by simp) ?_
        refine AllReady.cons rfl (fun K hK => ?_) ?_
        · go_simp
          refine hK _ _ ?_
          clear hK K
          refine wpAny_ready (rs := [7]) (by kernel_rfl) (by simp) ?_
          refine AllReady.cons rfl (fun K hK => ?_) ?_
          · go_simp
            refine hK _ _ ?_
            clear hK K
            refine wpAny_take (i := 8) (v := ?vc6) rfl (by kernel_rfl) (by kernel_rfl) (by kernel_rfl) (fun _ _ _ h => h) (Or.inl ⟨by rfl, ?hyc6⟩) ?_
            case hyc6 => (intro w; go_simp; try with_reducible rfl)
            refine wpAny_take (i := 9) (v := ?vc7) rfl (by kernel_rfl) (by kernel_rfl) (by kernel_rfl) (fun _ _ _ h => h) (Or.inl ⟨by rfl, ?hyc7⟩) ?_
            case hyc7 => (intro w; go_simp; try with_reducible rfl)
            refine wpAny_take (i := 10) (v := ?vc8) rfl (by kernel_rfl) (by kernel_rfl) (by kernel_rfl) (fun _ _ _ h => h) (Or.inl ⟨by rfl, ?hyc8⟩) ?_
            case hyc8 => (intro w; go_simp; try with_reducible rfl)
            refine wpAny_ready (rs := [11]) (by kernel_rfl) (by simp) ?_
            refine AllReady.cons rfl (fun K hK => ?_) ?_
            · go_simp
              refine hK _ _ ?_
              clear hK K
              refine wpAny_done (by kernel_rfl) ?_ _
              gi_wp2
              exact rd_leafB hk3.out HN.out
            exact AllReady.nil
          exact AllReady.nil
        refine AllReady.cons rfl (fun K hK => ?_) ?_
        · go_simp
          refine hK _ _ ?_
          clear hK K
          refine wpAny_take (i := 8) (v := ?vc9) rfl (by kernel_rfl) (by kernel_rfl) (by kernel_rfl) (fun _ _ _ h => h) (Or.inl ⟨by rfl, ?hyc9⟩) ?_
          case hyc9 => (intro w; go_simp; try with_reducible rfl)
          refine wpAny_ready (rs := [5]) (by kernel_rfl) (by simp) ?_
          refine AllReady.cons rfl (fun K hK => ?_) ?_
          · go_simp
            refine hK _ _ ?_
            clear hK K
            refine wpAny_take (i := 9) (v := ?vc10) rfl (by kernel_rfl) (by kernel_rfl) (by kernel_rfl) (fun _ _ _ h => h) (Or.inl ⟨by rfl, ?hyc10⟩) ?_
            case hyc10 => (intro w; go_simp; try with_reducible rfl)
            refine wpAny_take (i := 10) (v := ?vc11) rfl (by kernel_rfl) (by kernel_rfl) (by kernel_rfl) (fun _ _ _ h => h) (Or.inl ⟨by rfl, ?hyc11⟩) ?_
            case hyc11 => (intro w; go_simp; try with_reducible rfl)
            refine wpAny_ready (rs := [11]) (by kernel_rfl) (by simp) ?_
            refine AllReady.cons rfl (fun K hK => ?_) ?_
            · go_simp
              refine hK _ _ ?_
              clear hK K
              refine wpAny_done (by kernel_rfl) ?_ _
              gi_wp2
              exact rd_leafB hk3.out HN.out
            exact AllReady.nil
          exact AllReady.nil
        exact AllReady.nil
      refine AllReady.cons rfl (fun K hK => ?_) ?_
      · go_simp
        refine hK _ _ ?_
        clear hK K
        refine wpAny_take (i := 8) (v := ?vc12) rfl (by kernel_rfl) (by kernel_rfl) (by kernel_rfl) (fun _ _ _ h => h) (Or.inl ⟨by rfl, ?hyc12⟩) ?_
        case hyc12 => (intro w; go_simp; try with_reducible rfl)
        refine wpAny_ready (rs := [1]) (by kernel_rfl) (by simp) ?_
        refine AllReady.cons rfl (fun K hK => ?_) ?_
        · go_simp
          refine hK _ _ ?_
          clear hK K
          refine wpAny_take (i := 4) (v := ?vc13) rfl (by kernel_rfl) (by kernel_rfl) (by kernel_rfl) (fun _ _ _ h => h) (Or.inl ⟨by rfl, ?hyc13⟩) ?_
          case hyc13 => (intro w; go_simp; try with_reducible rfl)
          refine wpAny_ready (rs := [5]) (by kernel_rfl) (by simp) ?_
          refine AllReady.cons rfl (fun K hK => ?_) ?_
          · go_simp
            refine hK _ _ ?_
            clear hK K
            refine wpAny_take (i := 9) (v := ?vc14) rfl (by kernel_rfl) (by kernel_rfl) (by kernel_rfl) (fun _ _ _ h => h) (Or.inl ⟨by rfl, ?hyc14⟩) ?_
            case hyc14 => (intro w; go_simp; try with_reducible rfl)
            refine wpAny_take (i := 10) (v := ?vc15) rfl (by kernel_rfl) (by kernel_rfl) (by kernel_rfl) (fun _ _ _ h => h) (Or.inl ⟨by rfl, ?hyc15⟩) ?_
            case hyc15 => (intro w; go_simp; try with_reducible rfl)
            refine wpAny_ready (rs := [11]) (by kernel_rfl) (by simp) ?_
            refine AllReady.cons rfl (fun K hK => ?_) ?_
            · go_simp
              refine hK _ _ ?_
              clear hK K
              refine wpAny_done (by kernel_rfl) ?_ _
              gi_wp2
              exact rd_leafB hk3.out HN.out
            exact AllReady.nil
          exact AllReady.nil
        exact AllReady.nil
      exact AllReady.nil
    · have hu := h.hu h9
      have HN := Lib.hid (rd_next h HD.out hkn hu)
      have hub : u ≤ 100000000 := by
        rw [hu]
        calc 10 ^ (k % 9) ≤ 10 ^ 8 := Nat.pow_le_pow_right (by decide) (by omega)
          _ = 100000000 := rfl
      have hmul : dg ds k * u ≤ 900000000 := by
        calc dg ds k * u ≤ 9 * 100000000 := Nat.mul_le_mul (by omega) hub
          _ = 900000000 := rfl
      have hmul' : (dg ds k : Int) * (u : Int) ≤ 900000000 := by rw [← Int.natCast_mul]; omega
      have hmul0 : 0 ≤ (dg ds k : Int) * (u : Int) := by rw [← Int.natCast_mul]; omega
      have b0 := h.x.cell1
      have b1 := h.unit.cell
      have f1 := h.unit.frozen
      have f3 := h.row.frozen (k / 9)
      have b3 := h.row.cell (j := k / 9) (by rw [h.len]; omega)
      have wq : IntKind.i64.wrap ((k : Int) / 9) = (k : Int) / 9 := wr64 (by omega) (by omega)
      have w5 : IntKind.i64.wrap ((dg ds k : Int) * (u : Int)) = dg ds k * u := wr64 (by omega) (by omega)
      have w6 : IntKind.i64.wrap ((fv lim (k / 9) : Int) + (dg ds k : Int) * (u : Int)) = fv lim (k / 9) + dg ds k * u := wr64 (by omega) (by omega)
      have w7 : IntKind.i64.wrap ((u : Int) * 10) = u * 10 := wr64 (by omega) (by omega)
      have ht : ((k : Int) % 9 == 0) = false := by rw [beq_eq_false_iff_ne]; omega
      clear h h9 hu hmul
      gi_wp2
      refine wpIn_region_any (by kernel_rfl) (wpAny_round (by kernel_rfl) (by rintro ⟨_, _, h⟩; exact h) _ _ _ _ ?_)
      try (change wpAny _ _ _ _ _ _ _ (World.drew _))
      refine wpAny_take (i := 0) (v := ?vb1) rfl (by kernel_rfl) (by kernel_rfl) (by kernel_rfl) (fun _ _ _ h => h) (Or.inl ⟨by rfl, ?hyb1⟩) ?_
      case hyb1 => (intro w; go_simp; try with_reducible rfl)
      refine wpAny_take (i := 2) (v := ?vb2) rfl (by kernel_rfl) (by kernel_rfl) (by kernel_rfl) (fun _ _ _ h => h) (Or.inl ⟨by rfl, ?hyb2⟩) ?_
      case hyb2 => (intro w; go_simp; try with_reducible rfl)
      refine wpAny_take (i := 3) (v := ?vb3) rfl (by kernel_rfl) (by kernel_rfl) (by kernel_rfl) (fun _ _ _ h => h) (Or.inl ⟨by rfl, ?hyb3⟩) ?_
      case hyb3 => (intro w; go_simp; try with_reducible rfl)
      refine wpAny_take (i := 6) (v := ?vb4) rfl (by kernel_rfl) (by kernel_rfl) (by kernel_rfl) (fun _ _ _ h => h) (Or.inl ⟨by rfl, ?hyb4⟩) ?_
      case hyb4 => (intro w; go_simp; try with_reducible rfl)
      refine wpAny_ready (rs := [1, 7]) (by kernel_rfl) (by simp) ?_
      refine AllReady.cons rfl (fun K hK => ?_) ?_
      · go_simp
        refine hK _ _ ?_
        clear hK K
        refine wpAny_take (i := 4) (v := ?vb5) rfl (by kernel_rfl) (by kernel_rfl) (by kernel_rfl) (fun _ _ _ h => h) (Or.inl ⟨by rfl, ?hyb5⟩) ?_
        case hyb5 => (intro w; go_simp; try with_reducible rfl)
        refine wpAny_ready (rs := [5, 7]) (by kernel_rfl) (by simp) ?_
        refine AllReady.cons rfl (fun K hK => ?_) ?_
        · go_simp
          refine hK _ _ ?_
          clear hK K
          refine wpAny_ready (rs := [7]) (by kernel_rfl) (by simp) ?_
          refine AllReady.cons rfl (fun K hK => ?_) ?_
          · go_simp
            refine hK _ _ ?_
            clear hK K
            refine wpAny_take (i := 8) (v := ?vb6) rfl (by kernel_rfl) (by kernel_rfl) (by kernel_rfl) (fun _ _ _ h => h) (Or.inl ⟨by rfl, ?hyb6⟩) ?_
            case hyb6 => (intro w; go_simp; try with_reducible rfl)
            refine wpAny_take (i := 9) (v := ?vb7) rfl (by kernel_rfl) (by kernel_rfl) (by kernel_rfl) (fun _ _ _ h => h) (Or.inl ⟨by rfl, ?hyb7⟩) ?_
            case hyb7 => (intro w; go_simp; try with_reducible rfl)
            refine wpAny_take (i := 10) (v := ?vb8) rfl (by kernel_rfl) (by kernel_rfl) (by kernel_rfl) (fun _ _ _ h => h) (Or.inl ⟨by rfl, ?hyb8⟩) ?_
            case hyb8 => (intro w; go_simp; try with_reducible rfl)
            refine wpAny_ready (rs := [11]) (by kernel_rfl) (by simp) ?_
            refine AllReady.cons rfl (fun K hK => ?_) ?_
            · go_simp
              refine hK _ _ ?_
              clear hK K
              refine wpAny_done (by kernel_rfl) ?_ _
              gi_wp2
              exact rd_leafA HN.out
            exact AllReady.nil
          exact AllReady.nil
        refine AllReady.cons rfl (fun K hK => ?_) ?_
        · go_simp
          refine hK _ _ ?_
          clear hK K
          refine wpAny_take (i := 8) (v := ?vb9) rfl (by kernel_rfl) (by kernel_rfl) (by kernel_rfl) (fun _ _ _ h => h) (Or.inl ⟨by rfl, ?hyb9⟩) ?_
          case hyb9 => (intro w; go_simp; try with_reducible rfl)
          refine wpAny_ready (rs := [5]) (by kernel_rfl) (by simp) ?_
          refine AllReady.cons rfl (fun K hK => ?_) ?_
          · go_simp
            refine hK _ _ ?_
            clear hK K
            refine wpAny_take (i := 9) (v := ?vb10) rfl (by kernel_rfl) (by kernel_rfl) (by kernel_rfl) (fun _ _ _ h => h) (Or.inl ⟨by rfl, ?hyb10⟩) ?_
            case hyb10 => (intro w; go_simp; try with_reducible rfl)
            refine wpAny_take (i := 10) (v := ?vb11) rfl (by kernel_rfl) (by kernel_rfl) (by kernel_rfl) (fun _ _ _ h => h) (Or.inl ⟨by rfl, ?hyb11⟩) ?_
            case hyb11 => (intro w; go_simp; try with_reducible rfl)
            refine wpAny_ready (rs := [11]) (by kernel_rfl) (by simp) ?_
            refine AllReady.cons rfl (fun K hK => ?_) ?_
            · go_simp
              refine hK _ _ ?_
              clear hK K
              refine wpAny_done (by kernel_rfl) ?_ _
              gi_wp2
              exact rd_leafA HN.out
            exact AllReady.nil
          exact AllReady.nil
        exact AllReady.nil
      refine AllReady.cons rfl (fun K hK => ?_) ?_
      · go_simp
        refine hK _ _ ?_
        clear hK K
        refine wpAny_take (i := 8) (v := ?vb12) rfl (by kernel_rfl) (by kernel_rfl) (by kernel_rfl) (fun _ _ _ h => h) (Or.inl ⟨by rfl, ?hyb12⟩) ?_
        case hyb12 => (intro w; go_simp; try with_reducible rfl)
        refine wpAny_ready (rs := [1]) (by kernel_rfl) (by simp) ?_
        refine AllReady.cons rfl (fun K hK => ?_) ?_
        · go_simp
          refine hK _ _ ?_
          clear hK K
          refine wpAny_take (i := 4) (v := ?vb13) rfl (by kernel_rfl) (by kernel_rfl) (by kernel_rfl) (fun _ _ _ h => h) (Or.inl ⟨by rfl, ?hyb13⟩) ?_
          case hyb13 => (intro w; go_simp; try with_reducible rfl)
          refine wpAny_ready (rs := [5]) (by kernel_rfl) (by simp) ?_
          refine AllReady.cons rfl (fun K hK => ?_) ?_
          · go_simp
            refine hK _ _ ?_
            clear hK K
            refine wpAny_take (i := 9) (v := ?vb14) rfl (by kernel_rfl) (by kernel_rfl) (by kernel_rfl) (fun _ _ _ h => h) (Or.inl ⟨by rfl, ?hyb14⟩) ?_
            case hyb14 => (intro w; go_simp; try with_reducible rfl)
            refine wpAny_take (i := 10) (v := ?vb15) rfl (by kernel_rfl) (by kernel_rfl) (by kernel_rfl) (fun _ _ _ h => h) (Or.inl ⟨by rfl, ?hyb15⟩) ?_
            case hyb15 => (intro w; go_simp; try with_reducible rfl)
            refine wpAny_ready (rs := [11]) (by kernel_rfl) (by simp) ?_
            refine AllReady.cons rfl (fun K hK => ?_) ?_
            · go_simp
              refine hK _ _ ?_
              clear hK K
              refine wpAny_done (by kernel_rfl) ?_ _
              gi_wp2
              exact rd_leafA HN.out
            exact AllReady.nil
          exact AllReady.nil
        exact AllReady.nil
      exact AllReady.nil
  case done =>
    rintro D W hD ⟨lim, u, h⟩ hK
    have c1 := h.x.cell1
    have c0 := h.x.cell0
    have f1 := h.x.frozen 1
    have d0 := h.res.cell0
    have d1 := h.res.cell1
    have g0 := h.res.frozen 0
    have g1 := h.res.frozen 1
    have hw1 := h.row
    have HI := Lib.hid h
    clear h
    gi_wp2_with (refine ⟨trivial, ?_⟩; gi_at_call 98; refine (callsIn_wide.2 (trim_row hw1 HI.out.len)).mono ?_; rintro e w' ⟨rfl, rfl⟩)
    have hh := HI.out
    obtain ⟨X, hX⟩ : ∃ X, ((W.setCell ⟨w.heap.size + 2, 1, none⟩ (.slice (some ⟨w.heap.size + 1, 0, none⟩) (trimL lim).length n)).setCell ⟨w.heap.size, 0, none⟩ (.bool neg)).setCell ⟨w.heap.size, 1, none⟩ (.slice (some ⟨w.heap.size + 1, 0, none⟩) (trimL lim).length n) = X := ⟨_, rfl⟩
    have k1 : X.heap[D]? = some (.deferred (some [])) := by
      rw [← hX]; exact (((KeepsOthers.setCell _ _ _).trans (KeepsOthers.setCell _ _ _)).trans (KeepsOthers.setCell _ _ _)).same D _ hK rfl
    have k2 : Bx2 X w.heap.size 147 (.bool neg) (.slice (some ⟨w.heap.size + 1, 0, none⟩) (trimL lim).length n) := by
      rw [← hX]; exact ((hh.res.far (by simp) _).put0 _).put1 _
    have k3 : Row X (w.heap.size + 1) n lim := by rw [← hX]; exact ((hh.row.far (by simp) _).far (by simp) _).far (by simp) _
    have k5 : Below w.heap.size w X := by
      rw [← hX]; exact ((hh.low.setCell (p := ⟨w.heap.size + 2, 1, none⟩) (by simp) _).setCell (p := ⟨w.heap.size, 0, none⟩) (by simp) _).setCell (p := ⟨w.heap.size, 1, none⟩) (by simp) _
    rw [hX]
    refine ⟨by simp, .inl ⟨_, _, rfl, run_takeDeferred k1, ?_⟩⟩
    have hs := Stays.putObj (n0 := w.heap.size) (.deferred none) k1 rfl (by simp at hD; omega)
    have q0 := (k2.stays hs).cell0
    have q1 := (k2.stays hs).cell1
    have hm := hh.m
    refine ⟨.agg #[.bool neg, .slice (some ⟨w.heap.size + 1, 0, none⟩) (trimL lim).length n], by simp [results, Tryz.results80, go_sem, q0, q1], _, trimL lim, by rw [HNEG.out], ⟨_, _, rfl, by omega, (k3.stays hs).trimmed⟩, trimL_canon hm.small, ?_, ?_, k5.trans hs.below⟩
    · rw [val_trimL, HDS.out, ← low_all]; exact hm.eq
    · have := trimL_length lim
      have := hh.len
      have := HN0.out
      rw [HDS.out]; omega
  case stop => intro D c k W hD hk h; exact h.elim
end Go.Proofs.YtbnnccnicfddlaaGreatDoor
