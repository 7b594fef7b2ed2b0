/- integer.divideShort: the walk. -/
import Derived.Test.YtbnnccnicfddlaaGreatDoorInt7
import Derived.BigRegionIn
import Derived.Deep.RegionWith
import Derived.Test.YtbnnccnicfddlaaGreatDoorRound
set_option linter.unusedSimpArgs false
set_option linter.unusedVariables false
namespace Go.Proofs.YtbnnccnicfddlaaGreatDoor
open Go.RowKit Go.Shelf Kp
attribute [local go_sem] Oper.semAt_some

/-- a box: a block of one cell -/
def Bx (W : World) (b : Nat) (t : TypeId) (v : Value) : Prop := W.heap[b]? = some (.cells #[v] t (0, 0))
theorem Bx.cell {W : World} {b : Nat} {t : TypeId} {v : Value} (h : Bx W b t v) : W.cell? ⟨b, 0, none⟩ = some v := cell_of_heap h
theorem Bx.frozen {W : World} {b : Nat} {t : TypeId} {v : Value} (h : Bx W b t v) : W.frozen? ⟨b, 0, none⟩ = false := frozen_of_heap h
theorem Bx.stays {n0 : Nat} {W W' : World} {b : Nat} {t : TypeId} {v : Value} (h : Bx W b t v) (hs : Stays n0 W W') : Bx W' b t v := hs.cells _ _ _ _ h
theorem Bx.lt {W : World} {b : Nat} {t : TypeId} {v : Value} (h : Bx W b t v) : b < W.heap.size := (Array.getElem?_eq_some_iff.1 h).1
theorem Bx.far {W : World} {b : Nat} {t : TypeId} {v : Value} (h : Bx W b t v) {p : Addr} (hp : b ≠ p.block) (u : Value) : Bx (W.setCell p u) b t v := (Below.heap_setCell W p u b hp).trans h
theorem Bx.put {W : World} {b : Nat} {t : TypeId} {v : Value} (h : Bx W b t v) (u : Value) : Bx (W.setCell ⟨b, 0, none⟩ u) b t u := by
  unfold Bx at h ⊢
  simp [World.setCell, Array.getElem?_modify, h]
theorem Bx.alloc {W : World} {b : Nat} {t : TypeId} {v : Value} (h : Bx W b t v) (o : Obj) : Bx (W.alloc o) b t v := (Below.heap_alloc W o b h.lt).trans h
theorem Bx.drew {W : World} {b : Nat} {t : TypeId} {v : Value} (h : Bx W b t v) : Bx W.drew b t v := h
theorem Bx.drewN {W : World} {b : Nat} {t : TypeId} {v : Value} (h : Bx W b t v) (n : Nat) : Bx (W.drewN n) b t v := h
theorem Bx.below {B0 : Nat} {W W' : World} {b : Nat} {t : TypeId} {v : Value} (h : Bx W b t v) (hb : Below B0 W W') (hlt : b < B0) : Bx W' b t v := (hb.block b hlt).trans h
theorem Bx.new (W : World) (t : TypeId) (v : Value) : Bx (W.alloc (.cells #[v] t)) W.heap.size t v := World.alloc_heap_new W _
theorem Bx.at_ {W : World} {t : TypeId} {v : Value} {n : Nat} (h : W.heap.size = n) : Bx (W.alloc (.cells #[v] t)) n t v := by subst h; exact Bx.new W t v
theorem Row.stays {n0 : Nat} {W W' : World} {g cap : Nat} {l : List Nat} (h : Row W g cap l) (hs : Stays n0 W W') : Row W' g cap l := by
  obtain ⟨cur, hh, r⟩ := h
  exact ⟨cur, hs.cells _ _ _ _ hh, r⟩
theorem Row.far {W : World} {g cap : Nat} {l : List Nat} (h : Row W g cap l) {p : Addr} (hp : g ≠ p.block) (u : Value) : Row (W.setCell p u) g cap l := h.keep (Below.heap_setCell W p u g hp)
theorem Row.alloc {W : World} {g cap : Nat} {l : List Nat} (h : Row W g cap l) (o : Obj) : Row (W.alloc o) g cap l := h.keep (Below.heap_alloc W o g h.lt)
theorem Row.below {B0 : Nat} {W W' : World} {g cap : Nat} {l : List Nat} (h : Row W g cap l) (hb : Below B0 W W') (hlt : g < B0) : Row W' g cap l := h.keep (hb.block g hlt)

/-- what holds behind k rounds of divideShort -/
structure DsI (w : World) (a : List Nat) (d : Nat) (A : Option Addr) (ca : Nat) (k : Nat) (q : List Nat) (r : Nat) (W : World) : Prop where
  bd : Bx W w.heap.size 3 (.int .i64 d)
  bq : Bx W (w.heap.size + 1) 97 (.slice (some ⟨w.heap.size + 2, 0, none⟩) a.length a.length)
  row : Row W (w.heap.size + 2) a.length q
  br : Bx W (w.heap.size + 3) 3 (.int .i64 r)
  it : Bx W (w.heap.size + 4) 97 (.slice A a.length ca)
  sa : SlN W w.heap.size (.slice A a.length ca) a
  len : q.length = a.length
  small : Small q
  lt : r < d
  eq : S (sh (fv a) (a.length - k)) k = d * S (sh (fv q) (a.length - k)) k + r
  low : Below w.heap.size w W
theorem DsI.stays {w : World} {a : List Nat} {d : Nat} {A : Option Addr} {ca k : Nat} {q : List Nat} {r n0 : Nat} {W W' : World} (h : DsI w a d A ca k q r W) (hs : Stays n0 W W') (hn : w.heap.size ≤ n0) : DsI w a d A ca k q r W' :=
  ⟨h.bd.stays hs, h.bq.stays hs, h.row.stays hs, h.br.stays hs, h.it.stays hs, h.sa.stays hs, h.len, h.small, h.lt, h.eq, h.low.trans (hs.below.mono hn)⟩
def DsLoop (w : World) (a : List Nat) (d : Nat) (A : Option Addr) (ca : Nat) (k : Nat) (W : World) : Prop := ∃ q r, DsI w a d A ca k q r W
theorem backM_of {W : World} {Bs : Nat} {A : Option Addr} {ca b0 : Nat} {a : List Nat} (hb : Bx W Bs 97 (.slice A a.length ca)) (hs : SlN W b0 (.slice A a.length ca) a) :
    BackM Bs A a.length ca (fun j x => x = fv a j) W := by
  refine ⟨hb.cell, fun hn => ?_⟩
  obtain ⟨_, _, e, _, _, hc⟩ := hs
  injection e with e1 e2 e3
  subst e1 e3
  obtain ⟨b, off, e, _, hcell⟩ := hc hn
  exact ⟨b, off, e, fun j hj => ⟨_, hcell j hj, rfl⟩⟩

/-- one round -/
theorem ds_next {w W : World} {a : List Nat} {d : Nat} {A : Option Addr} {ca k : Nat} {q : List Nat} {r : Nat} (h : DsI w a d A ca k q r W) (hk : k < a.length) (ha : Small a) :
    (fv a (a.length - 1 - k) + r * 1000000000) / d < 1000000000 ∧
    DsI w a d A ca (k + 1) (q.set (a.length - 1 - k) ((fv a (a.length - 1 - k) + r * 1000000000) / d)) ((fv a (a.length - 1 - k) + r * 1000000000) % d)
      ((W.setCell ⟨w.heap.size + 2, a.length - 1 - k, none⟩ (.int .i64 ((fv a (a.length - 1 - k) + r * 1000000000) / d : Nat))).setCell ⟨w.heap.size + 3, 0, none⟩ (.int .i64 ((fv a (a.length - 1 - k) + r * 1000000000) % d : Nat))) := by
  obtain ⟨bd, bq, row, br, it, sa, len, small, lt, eq, low⟩ := h
  have hb := fv_small ha (a.length - 1 - k)
  have hs := short_lt lt hb rfl
  have e1 : a.length - (k + 1) = a.length - 1 - k := by omega
  have e2 : a.length - k = (a.length - 1 - k) + 1 := by omega
  refine ⟨hs.1, (bd.far (by simp) _).far (by simp) _, (bq.far (by simp) _).far (by simp) _, (row.set (by omega) _).far (by simp) _, (br.far (by simp) _).put _, (it.far (by simp) _).far (by simp) _, ?_, by simpa using len, Small.set small hs.1, hs.2, ?_, ?_⟩
  · exact sa.keep fun p hp => (World.cell?_setCell_other _ _ _ _ (fun e => by subst e; simp at hp; omega)).trans (World.cell?_setCell_other _ _ _ _ (fun e => by subst e; simp at hp; omega))
  · rw [e1, S_sh, S_sh, ← e2]
    have e3 : fv (q.set (a.length - 1 - k) ((fv a (a.length - 1 - k) + r * 1000000000) / d)) (a.length - 1 - k) = (fv a (a.length - 1 - k) + r * 1000000000) / d := by rw [fv_set (by omega), if_pos rfl]
    have e4 : S (sh (fv (q.set (a.length - 1 - k) ((fv a (a.length - 1 - k) + r * 1000000000) / d))) (a.length - k)) k = S (sh (fv q) (a.length - k)) k := S_congr (fun i _ => by unfold sh; rw [fv_set (by omega), if_neg (by omega)])
    rw [e3, e4]
    exact short_step eq rfl
  · exact (low.setCell (p := ⟨w.heap.size + 2, _, none⟩) (by simp) _).setCell (p := ⟨w.heap.size + 3, 0, none⟩) (by simp) _

theorem ds_leaf {w W : World} {a : List Nat} {d : Nat} {A : Option Addr} {ca k : Nat} {q : List Nat} {r g1 o1 g2 o2 : Nat} {v1 v2 : Value}
    (h : DsI w a d A ca (k + 1) q r ((W.setCell ⟨g1, o1, none⟩ v1).setCell ⟨g2, o2, none⟩ v2)) :
    KeepsOthers W ((W.setCell ⟨g1, o1, none⟩ v1).setCell ⟨g2, o2, none⟩ v2).drew ∧ DsLoop w a d A ca (k + 1) ((W.setCell ⟨g1, o1, none⟩ v1).setCell ⟨g2, o2, none⟩ v2).drew :=
  ⟨((KeepsOthers.setCell _ _ _).trans (KeepsOthers.setCell _ _ _)).trans (KeepsOthers.drew _), q, r, h.bd, h.bq, h.row, h.br, h.it, h.sa, h.len, h.small, h.lt, h.eq, ⟨h.low.os, h.low.tape, h.low.output, h.low.size, h.low.block⟩⟩

/-- the cells of make([]int, n) -/
def zerosA (n : Nat) : Array Value := madeCells (Value.int .i64 0).cells n
theorem run_make_ints (n : Nat) (hn : n ≤ 1000000000) (W : World) :
    (Instr.makeSlice 97 (.int .i64 (n : Int)) (.int .i64 (n : Int))).run Tryz.prog W = .ok (.slice (some ⟨W.heap.size, 0, none⟩) n n) (W.alloc (.cells (zerosA n) 3)) := by
  obtain ⟨i0, hi, hz0, hz1, hz2⟩ := info_parts int_info
  have hr := run_make (P := Tryz.prog) W 97 3 i0 _ Tryz.underlying97 hi hz0 .i64 .i64 n n (by omega) (by omega) (by rw [hz2]; omega) (by omega)
  simp only [Int.toNat_natCast, hz1, Nat.mul_one] at hr
  exact hr
theorem row_zeros (W : World) (n : Nat) (hn : n ≤ 1000000000) : Row (W.alloc (.cells (zerosA n) 3)) W.heap.size n (List.replicate n 0) := by
  refine ⟨zerosA n, World.alloc_heap_new W _, by simp [zerosA, size_madeCells], by simp, by unfold maxLen; omega, fun j hj => ?_⟩
  simp at hj
  rw [fv_zeros]
  simp [zerosA, madeCells, Value.cells, hj, Nat.mod_one]

theorem quo_short {a r d : Nat} (h1 : a < 1000000000) (h2 : r < 1000000000) (h3 : 1 ≤ d) :
    IntKind.i64.wrap (((a : Int) + (r : Int) * 1000000000).tdiv d) = (((a + r * 1000000000) / d : Nat) : Int) := by
  rw [IntWalk.i64_quo _ _ ⟨by omega, by omega, by omega⟩]; simp
theorem rem_short {a r d : Nat} : ((a : Int) + (r : Int) * 1000000000).tmod d = (((a + r * 1000000000) % d : Nat) : Int) := by
  rw [IntWalk.rem_in _ _ (by omega)]; simp

theorem row_one (X : World) (r : Nat) : Row (X.alloc (.cells #[.int .i64 r] 3)) X.heap.size 1 [r] := by
  refine ⟨#[.int .i64 r], World.alloc_heap_new X _, rfl, by simp, by unfold maxLen; omega, fun j hj => ?_⟩
  have : j = 0 := by simpa using hj
  subst this; rfl

def DsPost (w : World) (a : List Nat) (d : Nat) (e : Ending) (w' : World) : Prop :=
  ∃ vq vr ql rl, e = .returned (.tuple #[vq, vr]) ∧ OwnN w w' vq ql ∧ Canon ql ∧ val ql = val a / d ∧ OwnN w w' vr rl ∧ Canon rl ∧ val rl = val a % d ∧ Below w.heap.size w w'

theorem ds_vals {a q : List Nat} {d r : Nat} (hl : q.length = a.length) (hr : r < d) (he : S (sh (fv a) (a.length - a.length)) a.length = d * S (sh (fv q) (a.length - a.length)) a.length + r) :
    val q = val a / d ∧ r = val a % d := by
  have e1 : S (sh (fv a) (a.length - a.length)) a.length = val a := S_congr (fun k _ => by unfold sh; congr 1; omega)
  have e2 : S (sh (fv q) (a.length - a.length)) a.length = val q := by unfold val; rw [hl]; exact S_congr (fun k _ => by unfold sh; congr 1; omega)
  rw [e1, e2] at he
  rw [he]
  constructor
  · rw [Nat.mul_add_div (by omega), Nat.div_eq_of_lt hr, Nat.add_zero]
  · rw [Nat.mul_add_mod, Nat.mod_eq_of_lt hr]
theorem val_one (r : Nat) : val [r] = r := by simp [val, S, fv]

theorem ds_end {w W : World} {a : List Nat} {d : Nat} {A : Option Addr} {ca : Nat} {q : List Nat} {r D : Nat} (h : DsI w a d A ca a.length q r W) (hd1 : d < 1000000000) (hD : w.heap.size ≤ D) (hK : W.heap[D]? = some (.deferred (some []))) :
    ((W.alloc (.cells #[.int .i64 r] 3)).setCell ⟨w.heap.size + 1, 0, none⟩ (.slice (some ⟨w.heap.size + 2, 0, none⟩) (trimL q).length a.length)).drew.heap[D]? = some (.deferred (some [])) ∧
    (((W.alloc (.cells #[.int .i64 r] 3)).setCell ⟨w.heap.size + 1, 0, none⟩ (.slice (some ⟨w.heap.size + 2, 0, none⟩) (trimL q).length a.length)).drew.putObj D (.deferred none)).cell? ⟨w.heap.size + 1, 0, none⟩ = some (.slice (some ⟨w.heap.size + 2, 0, none⟩) (trimL q).length a.length) ∧
    DsPost w a d (.returned (.tuple #[.slice (some ⟨w.heap.size + 2, 0, none⟩) (trimL q).length a.length, .slice (some ⟨W.heap.size, 0, none⟩) (trimL [r]).length 1])) (((W.alloc (.cells #[.int .i64 r] 3)).setCell ⟨w.heap.size + 1, 0, none⟩ (.slice (some ⟨w.heap.size + 2, 0, none⟩) (trimL q).length a.length)).drew.putObj D (.deferred none)) := by
  obtain ⟨X, hX⟩ : ∃ X, ((W.alloc (.cells #[.int .i64 r] 3)).setCell ⟨w.heap.size + 1, 0, none⟩ (.slice (some ⟨w.heap.size + 2, 0, none⟩) (trimL q).length a.length)).drew = X := ⟨_, rfl⟩
  have hwW : w.heap.size < W.heap.size := h.bd.lt
  have k1 : X.heap[D]? = some (.deferred (some [])) := by
    rw [← hX]; exact (((KeepsOthers.alloc _ _).trans (KeepsOthers.setCell _ _ _)).trans (KeepsOthers.drew _)).same D _ hK rfl
  have k2 : Bx X (w.heap.size + 1) 97 (.slice (some ⟨w.heap.size + 2, 0, none⟩) (trimL q).length a.length) := by rw [← hX]; exact ((h.bq.alloc _).put _).drew
  have k3 : Row X (w.heap.size + 2) a.length q := by rw [← hX]; exact ((h.row.alloc _).far (by simp) _).drew
  have k4 : Row X W.heap.size 1 [r] := by
    rw [← hX]; exact ((row_one W r).far (by have := h.bq.lt; simp; omega) _).drew
  have k5 : Below w.heap.size w X := by
    rw [← hX]; exact (((h.low.alloc (by omega) _).setCell (p := ⟨w.heap.size + 1, 0, none⟩) (by simp) _)).drew
  rw [hX]
  have hs := Stays.putObj (n0 := w.heap.size) (.deferred none) k1 rfl hD
  obtain ⟨v1, v2⟩ := ds_vals h.len h.lt h.eq
  have hr1 : Small [r] := by
    intro x hx
    have e : x = r := by simpa using hx
    have := h.lt
    rw [e]; show r < 1000000000; omega
  refine ⟨k1, hs.cell k2.cell, _, _, trimL q, trimL [r], rfl, ⟨_, _, rfl, by omega, (k3.stays hs).trimmed⟩, trimL_canon h.small, by rw [val_trimL]; exact v1, ⟨_, _, rfl, by omega, (k4.stays hs).trimmed⟩, trimL_canon hr1, by rw [val_trimL, val_one]; exact v2, k5.trans hs.below⟩

set_option maxRecDepth 100000 in
set_option maxHeartbeats 2000000 in
theorem dshort_any (w : World) (a : List Nat) (va : Value) (d : Nat) (ha : SlN w w.heap.size va a) (hsa : Small a) (hd0 : 1 ≤ d) (hd1 : d < 1000000000) (hlen : a.length ≤ 2000000) :
    Calls Tryz.prog 100 #[va, .int .i64 d] w (DsPost w a d) := by
  obtain ⟨A, ca, rfl, ha1, ha2, hac⟩ := id ha
  clear hac
  unfold maxLen at ha2
  refine (callsIn_wide (n := 9)).1 (callsIn_of_wp_marks Tryz.func100 rfl trivial ?_)
  simp only [Tryz.ntmps100, List.size_toArray, List.length_cons, List.length_nil, Nat.reduceAdd, Nat.reduceSub, Array.replicate_succ, Array.replicate_zero, List.push_toArray, List.append_toArray, List.nil_append, List.cons_append]
  have hmk := run_make_ints a.length (by omega)
  gi_wp2_with (refine ⟨trivial, ?_⟩; gi_at_call 102; refine (callsIn_wide.2 (backward_any _ _ _ _)).mono ?_; rintro e w' ⟨rfl, rfl⟩)
  refine wpIn_rangeAt (gf := 114) (lb := #[.pointer (some ⟨w.heap.size + 4, 0, none⟩)]) rfl (enters_of Tryz.func114 (by kernel_rfl) rfl)
    (backward1_seq (w.heap.size + 4) A a.length ca (fun j x => x = fv a j) (by omega)) (fun k x ⟨_, _, e⟩ => by rw [e]; rfl)
    (DsLoop w a d A ca) (fun _ _ _ => False) (fun k W W' ⟨q, r, h⟩ hs => ⟨q, r, h.stays hs (by simp; omega)⟩) (fun c k W W' h hs => h) (fun k W ⟨q, r, h⟩ => backM_of h.it h.sa) ?start ?round ?done ?stop
  case start =>
    have hB : Below w.heap.size w (((((w.alloc (.cells #[.int .i64 d] 3)).alloc (.cells #[.slice (some ⟨w.heap.size + 1 + 1, 0, none⟩) a.length a.length] 97)).alloc (.cells (zerosA a.length) 3)).alloc (.cells #[.int .i64 0] 3)).alloc (.cells #[.slice A a.length ca] 97)) :=
      (below3 w _ _ _).trans ((((Below.refl _ _).alloc (by simp; omega) _).alloc (by simp; omega) _))
    refine ⟨List.replicate a.length 0, 0, ((((Bx.new w _ _).alloc _).alloc _).alloc _).alloc _, (((Bx.at_ (by simp)).alloc _).alloc _).alloc _, ?_, (Bx.at_ (by simp)).alloc _, Bx.at_ (by simp), ha.below hB, by simp, small_zeros _, by omega, by simp [S], hB⟩
    have := row_zeros ((w.alloc (.cells #[.int .i64 d] 3)).alloc (.cells #[.slice (some ⟨w.heap.size + 1 + 1, 0, none⟩) a.length a.length] 97)) a.length (by omega)
    simp only [World.size_alloc] at this
    exact (this.alloc _).alloc _
  case round =>
    intro l k x W K hk hx hi hK
    obtain ⟨v, rfl, rfl⟩ := hx
    have HK := Lib.hid hK
    clear hK
    gi_wp2
    refine HK.out _ (fun W2 hi2 _ => ?_)
    clear HK hi
    obtain ⟨q, r, h⟩ := hi2
    have hn := ds_next h hk hsa
    have b0 := h.bd.cell
    have b1 := h.bq.cell
    have b2 := h.br.cell
    have f2 := h.br.frozen
    have f3 := h.row.frozen (a.length - 1 - k)
    have b3 := h.row.cell (j := a.length - 1 - k) (by rw [h.len]; omega)
    have ba : fv a (a.length - 1 - k) < 1000000000 := fv_small hsa _
    have hr : r < d := h.lt
    have i1 : ((a.length - 1 - k : Nat) : Int) < a.length := by omega
    have HN := Lib.hid hn.2
    have hq := hn.1
    clear hn
    have hd2 : ¬ d = 0 := by omega
    have hrb : r < 1000000000 := by omega
    have hrd : r * 1000000000 < 1000000000000000000 := by omega
    have w6 := quo_short (a := fv a (a.length - 1 - k)) ba hrb hd0
    have w7 := rem_short (a := fv a (a.length - 1 - k)) (r := r) (d := d)
    gi_wp2
    refine wpIn_region_any (by kernel_rfl) (wpAny_round (by kernel_rfl) (by rintro ⟨_, _, h⟩; exact h) _ _ _ _ ?_)
    try (change wpAny _ _ _ _ _ _ _ (World.drew _))
    refine wpAny_take (i := 1) (v := ?va1) rfl (by kernel_rfl) (by kernel_rfl) (by kernel_rfl) (fun _ _ _ h => h) (Or.inl ⟨by rfl, ?hya1⟩) ?_
    case hya1 => (intro w; go_simp; try with_reducible rfl)
    refine wpAny_take (i := 2) (v := ?va2) rfl (by kernel_rfl) (by kernel_rfl) (by kernel_rfl) (fun _ _ _ h => h) (Or.inl ⟨by rfl, ?hya2⟩) ?_
    case hya2 => (intro w; go_simp; try with_reducible rfl)
    refine wpAny_take (i := 5) (v := ?va3) rfl (by kernel_rfl) (by kernel_rfl) (by kernel_rfl) (fun _ _ _ h => h) (Or.inl ⟨by rfl, ?hya3⟩) ?_
    case hya3 => (intro w; go_simp; try with_reducible rfl)
    refine wpAny_ready (rs := [0, 3, 6]) (by kernel_rfl) (by simp) ?_
    refine AllReady.cons rfl (fun K hK => ?_) ?_
    · go_simp
      refine hK _ _ ?_
      clear hK K
      refine wpAny_ready (rs := [3, 6]) (by kernel_rfl) (by simp) ?_
      refine AllReady.cons rfl (fun K hK => ?_) ?_
      · go_simp
        refine hK _ _ ?_
        clear hK K
        refine wpAny_take (i := 4) (v := ?va4) rfl (by kernel_rfl) (by kernel_rfl) (by kernel_rfl) (fun _ _ _ h => h) (Or.inl ⟨by rfl, ?hya4⟩) ?_
        case hya4 => (intro w; go_simp; try with_reducible rfl)
        refine wpAny_take (i := 8) (v := ?va5) rfl (by kernel_rfl) (by kernel_rfl) (by kernel_rfl) (fun _ _ _ h => h) (Or.inl ⟨by rfl, ?hya5⟩) ?_
        case hya5 => (intro w; go_simp; try with_reducible rfl)
        refine wpAny_ready (rs := [6, 9]) (by kernel_rfl) (by simp) ?_
        refine AllReady.cons rfl (fun K hK => ?_) ?_
        · go_simp
          refine hK _ _ ?_
          clear hK K
          refine wpAny_take (i := 7) (v := ?va6) rfl (by kernel_rfl) (by kernel_rfl) (by kernel_rfl) (fun _ _ _ h => h) (Or.inl ⟨by rfl, ?hya6⟩) ?_
          case hya6 => (intro w; go_simp; try with_reducible rfl)
          refine wpAny_ready (rs := [9]) (by kernel_rfl) (by simp) ?_
          refine AllReady.cons rfl (fun K hK => ?_) ?_
          · go_simp
            refine hK _ _ ?_
            clear hK K
            refine wpAny_ready (rs := [10]) (by kernel_rfl) (by simp) ?_
            refine AllReady.cons rfl (fun K hK => ?_) ?_
            · go_simp
              refine hK _ _ ?_
              clear hK K
              refine wpAny_done (by kernel_rfl) ?_ _
              gi_wp2
              exact ds_leaf HN.out
            exact AllReady.nil
          exact AllReady.nil
        refine AllReady.cons rfl (fun K hK => ?_) ?_
        · go_simp
          refine hK _ _ ?_
          clear hK K
          refine wpAny_ready (rs := [6]) (by kernel_rfl) (by simp) ?_
          refine AllReady.cons rfl (fun K hK => ?_) ?_
          · go_simp
            refine hK _ _ ?_
            clear hK K
            refine wpAny_take (i := 7) (v := ?va7) rfl (by kernel_rfl) (by kernel_rfl) (by kernel_rfl) (fun _ _ _ h => h) (Or.inl ⟨by rfl, ?hya7⟩) ?_
            case hya7 => (intro w; go_simp; try with_reducible rfl)
            refine wpAny_ready (rs := [10]) (by kernel_rfl) (by simp) ?_
            refine AllReady.cons rfl (fun K hK => ?_) ?_
            · go_simp
              refine hK _ _ ?_
              clear hK K
              refine wpAny_done (by kernel_rfl) ?_ _
              gi_wp2
              exact ds_leaf HN.out
            exact AllReady.nil
          exact AllReady.nil
        exact AllReady.nil
      refine AllReady.cons rfl (fun K hK => ?_) ?_
      · go_simp
        refine hK _ _ ?_
        clear hK K
        refine wpAny_take (i := 7) (v := ?va8) rfl (by kernel_rfl) (by kernel_rfl) (by kernel_rfl) (fun _ _ _ h => h) (Or.inl ⟨by rfl, ?hya8⟩) ?_
        case hya8 => (intro w; go_simp; try with_reducible rfl)
        refine wpAny_ready (rs := [3]) (by kernel_rfl) (by simp) ?_
        refine AllReady.cons rfl (fun K hK => ?_) ?_
        · go_simp
          refine hK _ _ ?_
          clear hK K
          refine wpAny_take (i := 4) (v := ?va9) rfl (by kernel_rfl) (by kernel_rfl) (by kernel_rfl) (fun _ _ _ h => h) (Or.inl ⟨by rfl, ?hya9⟩) ?_
          case hya9 => (intro w; go_simp; try with_reducible rfl)
          refine wpAny_take (i := 8) (v := ?va10) rfl (by kernel_rfl) (by kernel_rfl) (by kernel_rfl) (fun _ _ _ h => h) (Or.inl ⟨by rfl, ?hya10⟩) ?_
          case hya10 => (intro w; go_simp; try with_reducible rfl)
          refine wpAny_ready (rs := [9]) (by kernel_rfl) (by simp) ?_
          refine AllReady.cons rfl (fun K hK => ?_) ?_
          · go_simp
            refine hK _ _ ?_
            clear hK K
            refine wpAny_ready (rs := [10]) (by kernel_rfl) (by simp) ?_
            refine AllReady.cons rfl (fun K hK => ?_) ?_
            · go_simp
              refine hK _ _ ?_
              clear hK K
              refine wpAny_done (by kernel_rfl) ?_ _
              gi_wp2
              exact ds_leaf HN.out
            exact AllReady.nil
          exact AllReady.nil
        exact AllReady.nil
      exact AllReady.nil
    refine AllReady.cons rfl (fun K hK => ?_) ?_
    · go_simp
      refine hK _ _ ?_
      clear hK K
      refine wpAny_take (i := 4) (v := ?va11) rfl (by kernel_rfl) (by kernel_rfl) (by kernel_rfl) (fun _ _ _ h => h) (Or.inl ⟨by rfl, ?hya11⟩) ?_
      case hya11 => (intro w; go_simp; try with_reducible rfl)
      refine wpAny_ready (rs := [0, 6]) (by kernel_rfl) (by simp) ?_
      refine AllReady.cons rfl (fun K hK => ?_) ?_
      · go_simp
        refine hK _ _ ?_
        clear hK K
        refine wpAny_take (i := 8) (v := ?va12) rfl (by kernel_rfl) (by kernel_rfl) (by kernel_rfl) (fun _ _ _ h => h) (Or.inl ⟨by rfl, ?hya12⟩) ?_
        case hya12 => (intro w; go_simp; try with_reducible rfl)
        refine wpAny_ready (rs := [6, 9]) (by kernel_rfl) (by simp) ?_
        refine AllReady.cons rfl (fun K hK => ?_) ?_
        · go_simp
          refine hK _ _ ?_
          clear hK K
          refine wpAny_take (i := 7) (v := ?va13) rfl (by kernel_rfl) (by kernel_rfl) (by kernel_rfl) (fun _ _ _ h => h) (Or.inl ⟨by rfl, ?hya13⟩) ?_
          case hya13 => (intro w; go_simp; try with_reducible rfl)
          refine wpAny_ready (rs := [9]) (by kernel_rfl) (by simp) ?_
          refine AllReady.cons rfl (fun K hK => ?_) ?_
          · go_simp
            refine hK _ _ ?_
            clear hK K
            refine wpAny_ready (rs := [10]) (by kernel_rfl) (by simp) ?_
            refine AllReady.cons rfl (fun K hK => ?_) ?_
            · go_simp
              refine hK _ _ ?_
              clear hK K
              refine wpAny_done (by kernel_rfl) ?_ _
              gi_wp2
              exact ds_leaf HN.out
            exact AllReady.nil
          exact AllReady.nil
        refine AllReady.cons rfl (fun K hK => ?_) ?_
        · go_simp
          refine hK _ _ ?_
          clear hK K
          refine wpAny_ready (rs := [6]) (by kernel_rfl) (by simp) ?_
          refine AllReady.cons rfl (fun K hK => ?_) ?_
          · go_simp
            refine hK _ _ ?_
            clear hK K
            refine wpAny_take (i := 7) (v := ?va14) rfl (by kernel_rfl) (by kernel_rfl) (by kernel_rfl) (fun _ _ _ h => h) (Or.inl ⟨by rfl, ?hya14⟩) ?_
            case hya14 => (intro w; go_simp; try with_reducible rfl)
            refine wpAny_ready (rs := [10]) (by kernel_rfl) (by simp) ?_
            refine AllReady.cons rfl (fun K hK => ?_) ?_
            · go_simp
              refine hK _ _ ?_
              clear hK K
              refine wpAny_done (by kernel_rfl) ?_ _
              gi_wp2
              exact ds_leaf HN.out
            exact AllReady.nil
          exact AllReady.nil
        exact AllReady.nil
      refine AllReady.cons rfl (fun K hK => ?_) ?_
      · go_simp
        refine hK _ _ ?_
        clear hK K
        refine wpAny_take (i := 7) (v := ?va15) rfl (by kernel_rfl) (by kernel_rfl) (by kernel_rfl) (fun _ _ _ h => h) (Or.inl ⟨by rfl, ?hya15⟩) ?_
        case hya15 => (intro w; go_simp; try with_reducible rfl)
        refine wpAny_ready (rs := [0]) (by kernel_rfl) (by simp) ?_
        refine AllReady.cons rfl (fun K hK => ?_) ?_
        · go_simp
          refine hK _ _ ?_
          clear hK K
          refine wpAny_take (i := 8) (v := ?va16) rfl (by kernel_rfl) (by kernel_rfl) (by kernel_rfl) (fun _ _ _ h => h) (Or.inl ⟨by rfl, ?hya16⟩) ?_
          case hya16 => (intro w; go_simp; try with_reducible rfl)
          refine wpAny_ready (rs := [9]) (by kernel_rfl) (by simp) ?_
          refine AllReady.cons rfl (fun K hK => ?_) ?_
          · go_simp
            refine hK _ _ ?_
            clear hK K
            refine wpAny_ready (rs := [10]) (by kernel_rfl) (by simp) ?_
            refine AllReady.cons rfl (fun K hK => ?_) ?_
            · go_simp
              refine hK _ _ ?_
              clear hK K
              refine wpAny_done (by kernel_rfl) ?_ _
              gi_wp2
              exact ds_leaf HN.out
            exact AllReady.nil
          exact AllReady.nil
        exact AllReady.nil
      exact AllReady.nil
    refine AllReady.cons rfl (fun K hK => ?_) ?_
    · go_simp
      refine hK _ _ ?_
      clear hK K
      refine wpAny_take (i := 7) (v := ?va17) rfl (by kernel_rfl) (by kernel_rfl) (by kernel_rfl) (fun _ _ _ h => h) (Or.inl ⟨by rfl, ?hya17⟩) ?_
      case hya17 => (intro w; go_simp; try with_reducible rfl)
      refine wpAny_ready (rs := [0, 3]) (by kernel_rfl) (by simp) ?_
      refine AllReady.cons rfl (fun K hK => ?_) ?_
      · go_simp
        refine hK _ _ ?_
        clear hK K
        refine wpAny_ready (rs := [3]) (by kernel_rfl) (by simp) ?_
        refine AllReady.cons rfl (fun K hK => ?_) ?_
        · go_simp
          refine hK _ _ ?_
          clear hK K
          refine wpAny_take (i := 4) (v := ?va18) rfl (by kernel_rfl) (by kernel_rfl) (by kernel_rfl) (fun _ _ _ h => h) (Or.inl ⟨by rfl, ?hya18⟩) ?_
          case hya18 => (intro w; go_simp; try with_reducible rfl)
          refine wpAny_take (i := 8) (v := ?va19) rfl (by kernel_rfl) (by kernel_rfl) (by kernel_rfl) (fun _ _ _ h => h) (Or.inl ⟨by rfl, ?hya19⟩) ?_
          case hya19 => (intro w; go_simp; try with_reducible rfl)
          refine wpAny_ready (rs := [9]) (by kernel_rfl) (by simp) ?_
          refine AllReady.cons rfl (fun K hK => ?_) ?_
          · go_simp
            refine hK _ _ ?_
            clear hK K
            refine wpAny_ready (rs := [10]) (by kernel_rfl) (by simp) ?_
            refine AllReady.cons rfl (fun K hK => ?_) ?_
            · go_simp
              refine hK _ _ ?_
              clear hK K
              refine wpAny_done (by kernel_rfl) ?_ _
              gi_wp2
              exact ds_leaf HN.out
            exact AllReady.nil
          exact AllReady.nil
        exact AllReady.nil
      refine AllReady.cons rfl (fun K hK => ?_) ?_
      · go_simp
        refine hK _ _ ?_
        clear hK K
        refine wpAny_take (i := 4) (v := ?va20) rfl (by kernel_rfl) (by kernel_rfl) (by kernel_rfl) (fun _ _ _ h => h) (Or.inl ⟨by rfl, ?hya20⟩) ?_
        case hya20 => (intro w; go_simp; try with_reducible rfl)
        refine wpAny_ready (rs := [0]) (by kernel_rfl) (by simp) ?_
        refine AllReady.cons rfl (fun K hK => ?_) ?_
        · go_simp
          refine hK _ _ ?_
          clear hK K
          refine wpAny_take (i := 8) (v := ?va21) rfl (by kernel_rfl) (by kernel_rfl) (by kernel_rfl) (fun _ _ _ h => h) (Or.inl ⟨by rfl, ?hya21⟩) ?_
          case hya21 => (intro w; go_simp; try with_reducible rfl)
          refine wpAny_ready (rs := [9]) (by kernel_rfl) (by simp) ?_
          refine AllReady.cons rfl (fun K hK => ?_) ?_
          · go_simp
            refine hK _ _ ?_
            clear hK K
            refine wpAny_ready (rs := [10]) (by kernel_rfl) (by simp) ?_
            refine AllReady.cons rfl (fun K hK => ?_) ?_
            · go_simp
              refine hK _ _ ?_
              clear hK K
              refine wpAny_done (by kernel_rfl) ?_ _
              gi_wp2
              exact ds_leaf HN.out
            exact AllReady.nil
          exact AllReady.nil
        exact AllReady.nil
      exact AllReady.nil
    exact AllReady.nil
  case done =>
    rintro D W hD ⟨q, r, h⟩ hK
    have hrow := h.row
    have hq := h.len
    have b1 := h.bq.cell
    have f1 := h.bq.frozen
    have b2 := h.br.cell
    have hrb : r < 1000000000 := by have := h.lt; omega
    have b1' : ∀ o, (W.alloc o).cell? ⟨w.heap.size + 1, 0, none⟩ = some (.slice (some ⟨w.heap.size + 2, 0, none⟩) a.length a.length) := fun o => (h.bq.alloc o).cell
    have f1' : ∀ o, (W.alloc o).frozen? ⟨w.heap.size + 1, 0, none⟩ = false := fun o => (h.bq.alloc o).frozen
    have b2' : ∀ o, (W.alloc o).cell? ⟨w.heap.size + 3, 0, none⟩ = some (.int .i64 r) := fun o => (h.br.alloc o).cell
    have hone : ∀ X : World, Row (X.alloc (.cells #[.int .i64 r] 3)) X.heap.size 1 [r] := fun X => row_one X r
    have HO := Lib.hid hone
    have HR := Lib.hid hrow
    have HQ := Lib.hid hq
    have HE := Lib.hid (ds_end h hd1 (by simp at hD; omega) hK)
    clear hone hrow hq hmk
    gi_wp2
    refine wpIn_plain ?_
    go_region_with (go_at_call 98; first | ((with_reducible refine (trim_row (g := w.heap.size + 2) (l := q) (Row.drew HR.out) HQ.out).mono ?_); rintro e w' ⟨rfl, rfl⟩) | ((with_reducible refine (trim_row (g := w.heap.size + 2) (l := q) (Row.drew (HR.out.alloc _)) HQ.out).mono ?_); rintro e w' ⟨rfl, rfl⟩) | ((with_reducible refine (trim_row (l := [r]) (n := 1) (Row.drew (HO.out W)) (List.length_singleton)).mono ?_); rintro e w' ⟨rfl, rfl⟩))
    all_goals
      refine onlyNormal_intro ?_
      gi_wp2
      refine ⟨by simp, .inl ⟨_, _, rfl, run_takeDeferred HE.out.1, ?_⟩⟩
      exact ⟨.tuple #[.slice (some ⟨w.heap.size + 2, 0, none⟩) (trimL q).length a.length, .slice (some ⟨W.heap.size, 0, none⟩) (trimL [r]).length 1], by simp [results, Tryz.results100, go_sem, HE.out.2.1], HE.out.2.2⟩
  case stop =>
    rintro D c k W hD hk h
    exact h.elim
end Go.Proofs.YtbnnccnicfddlaaGreatDoor
