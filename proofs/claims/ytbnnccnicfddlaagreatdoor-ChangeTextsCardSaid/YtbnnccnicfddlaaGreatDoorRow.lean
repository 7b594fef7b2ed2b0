/- PROVED: 'kingpostlaw58.ChangeTexts' returns true for every edit and every string, and the arguments read behind the call as they read before (the row's statement, and the tied card).
   CONDITIONS: the listed package variables hold what the program's text lays (the card ties them); nothing else. -/
import Derived.Test.YtbnnccnicfddlaaGreatDoorCards
import Derived.Test.YtbnnccnicfddlaaGreatDoorTie
import Derived.Test.YtbnnccnicfddlaaGreatDoorOpn
import Derived.ProofKit
import Derived.OpenShut
import Derived.ChangeMaps5
import Derived.Deep.DeepHandedRow
import Derived.Lib.LaidU8
import Derived.Lay
import Derived.Carry
import Derived.Shelf.Vars
import Derived.MakeChecks
import Derived.SevenTiedAt
import Derived.Stop.Joined
set_option linter.unusedSimpArgs false
set_option linter.unusedVariables false
namespace Go.Proofs.YtbnnccnicfddlaaGreatDoor
open Go.ChangeShapes Go.WideShapes Go.ChangeAt Go.RowKit Kp

theorem own : ownKnob Tryz.prog.godebug = none := by kernel_rfl
theorem laidOutP : laidOutB Tryz.prog = true := by kernel_rfl
theorem iface_of_trod {H : Type} {enc : TypeId × Value → H} {P : Program} {w : World} {base : Nat} {sp : Nat → Bool} {fuel : Nat} {t : TypeId} {cs : List Value} {name : String} {d : DataW H} {p : List MemPlace}
    {ms : _} (ht : P.underlying t = some (.interface ms)) (h : DataW.trod enc P w base sp false fuel t cs = some (.iface name d, p)) : ∃ u v, cs = [.iface u v] := by
  cases fuel with
  | zero => simp [DataW.trod] at h
  | succ n =>
    unfold DataW.trod at h
    rw [ht] at h
    split at h <;> simp_all
theorem gPow : Tryz.prog.globalNamed "internal/strconv.uint64pow10" = some 6 := by kernel_rfl
theorem gSyn : Tryz.prog.globalNamed "strconv.ErrSyntax" = some 4 := by kernel_rfl
theorem gRng : Tryz.prog.globalNamed "strconv.ErrRange" = some 5 := by kernel_rfl
theorem gWrd : Tryz.prog.globalNamed "kingpost/timber.words" = some 0 := by kernel_rfl
theorem tSyn : (Tryz.prog.globals[4]?).map (·.type) = some 93 := by kernel_rfl
theorem tRng : (Tryz.prog.globals[5]?).map (·.type) = some 93 := by kernel_rfl
theorem tPow : (Tryz.prog.globals[6]?).map (·.type) = some 166 := by kernel_rfl
theorem tWrd : (Tryz.prog.globals[0]?).map (·.type) = some 76 := by kernel_rfl
theorem cellsU : Tryz.prog.cellsOf 132 = 1 := by kernel_rfl
theorem cellsP : Tryz.prog.cellsOf 166 = 20 := by kernel_rfl
/-- the words of the kinds of members, as the row lists them -/
def wrdL : List (DataW Unit) := .lit (.string []) :: kindWs.map fun s => .lit (.string s)
theorem wrd_at (j : Nat) (hj : j < 12) : wrdL[1 + j]? = some (.lit (.string (kindWs.getD j []))) := by
  have hl : j < kindWs.length := hj
  unfold wrdL
  rw [Nat.add_comm, List.getElem?_cons_succ, List.getElem?_map, List.getElem?_eq_getElem hl]
  simp [List.getD, List.getElem?_eq_getElem hl]
set_option maxRecDepth 100000 in
theorem gl_of {W : World} (hL : laidMetH Tryz.prog Rows.changeTextsRow.laid W) (hS : W.ShapedOpen Tryz.prog) : Gl W := by
  rw [MakeChecks.laidMetH_plain _ _ _ (by kernel_rfl)] at hL
  refine ⟨?_, ?_, ?_, ?_, ?_⟩
  · obtain ⟨g, t, cs, fuel, p, h1, h2, h3, h4⟩ := Lib.laidMet.reads hL (n := "internal/strconv.uint64pow10") (d := Lib.tabData .u64 Lib.pow10Tab) (List.mem_of_getElem? (i := 2) (by kernel_rfl))
    obtain rfl := Option.some.inj (gPow.symm.trans h1)
    obtain rfl := Option.some.inj (tPow.symm.trans h2)
    have := Lib.cells_of_tab Tryz.underlying166 Tryz.underlying132 cellsU cellsP h4
    show W.var? Tryz.prog _ = some _
    rw [h3, ← this]
  · exact Go.Proofs.cell_of_shapedOpen_int (zero := #[.int .i64 0]) (t := 3) hS (of_decide_eq_true (by kernel_rfl)) (by kernel_rfl) rfl (by kernel_rfl) (by kernel_rfl) Tryz.underlying3
  · obtain ⟨g, t, cs, fuel, p, h1, h2, h3, h4⟩ := Lib.laidMet.reads hL (n := "strconv.ErrSyntax") (d := Rows.laid_strconv_ErrSyntax) (List.mem_of_getElem? (i := 5) (by kernel_rfl))
    obtain rfl := Option.some.inj (gSyn.symm.trans h1)
    obtain rfl := Option.some.inj (tSyn.symm.trans h2)
    obtain ⟨u, v, hc⟩ := iface_of_trod Tryz.underlying93 h4
    exact ⟨u, v, by rw [h3]; cases cs; simp_all⟩
  · obtain ⟨g, t, cs, fuel, p, h1, h2, h3, h4⟩ := Lib.laidMet.reads hL (n := "strconv.ErrRange") (d := Rows.laid_strconv_ErrRange) (List.mem_of_getElem? (i := 4) (by kernel_rfl))
    obtain rfl := Option.some.inj (gRng.symm.trans h1)
    obtain rfl := Option.some.inj (tRng.symm.trans h2)
    obtain ⟨u, v, hc⟩ := iface_of_trod Tryz.underlying93 h4
    exact ⟨u, v, by rw [h3]; cases cs; simp_all⟩
  · obtain ⟨g, t, cs, fuel, p, h1, h2, h3, h4⟩ := Lib.laidMet.reads hL (n := "kingpost/timber.words") (d := .agg wrdL) (List.mem_of_getElem? (i := 6) (by kernel_rfl))
    obtain rfl := Option.some.inj (gWrd.symm.trans h1)
    obtain rfl := Option.some.inj (tWrd.symm.trans h2)
    intro j hj
    obtain ⟨f2, d, q, hd, ht⟩ := Lib.array_elem Tryz.underlying76 h4 (1 + j) (by omega)
    rw [wrd_at j hj] at hd
    obtain ⟨s, hc, hx, _⟩ := DataW.trod_string Tryz.underlying9 ht
    have hds : (DataW.lit (.string (kindWs.getD j [])) : DataW Unit) = .lit (.string s.data.toList) := (Option.some.inj hd).trans (Prod.mk.inj hx).1
    have hs : kindWs.getD j [] = s.data.toList := by
      injection hds with h; injection h
    rw [cellsO_9, Nat.mul_one] at hc
    rw [World.var?_cell gWrd h3 (1 + j), hs, tx_self]
    have h0 : ((cs.toList.drop (1 + j)).take 1)[0]? = some (.string s) := by rw [hc]; rfl
    simpa [List.getElem?_take, List.getElem?_drop] using h0
set_option maxRecDepth 100000 in
theorem size_of {W : World} (hS : W.ShapedOpen Tryz.prog) : 9 ≤ W.heap.size := by
  obtain ⟨⟨z, t⟩, hz⟩ := Option.isSome_iff_exists.1 (show ((((begin Tryz.prog (fun _ _ => 0) default).world.heap[8]?).bind Obj.row?).isSome = true) from by kernel_rfl)
  obtain ⟨cs, hc, _⟩ := hS.1 8 z t (of_decide_eq_true (by kernel_rfl)) hz
  have := (Array.getElem?_eq_some_iff.1 hc).1
  omega

set_option maxRecDepth 100000 in
theorem contract (H : Type) (enc : TypeId × Value → H) (W : World) (base : Nat) (args : Array Value) (ds gs : List (DataW H)) (before : List MemPlace)
    (hval : ∀ (j : Nat) t v, Tryz.f3.params[j]? = some t → args[j]? = some v → Value.okWide Tryz.prog W .any base t v)
    (hW : DataW.Whole enc Tryz.prog Tryz.f3.params.toList Rows.changeTextsSpec.vars false W args.toList ds gs before) (hL : laidMetH Tryz.prog Rows.changeTextsRow.laid W) (hS : W.ShapedOpen Tryz.prog) :
    Calls Tryz.prog 3 args W fun e W' => ∃ v, e = .returned v ∧ Rows.changeTextsSpec.post enc Tryz.prog Tryz.f3 false true false false W args v W' := by
  have hW' := hW
  obtain ⟨p, q, hA0, hV, rfl, hfz, hnd⟩ := hW
  have hA : DataW.TrodAll enc Tryz.prog W 0 (fun _ => true) true Tryz.f3.params.toList args.toList ds p := hA0
  rw [Tryz.params3] at hA hval
  obtain ⟨v0, vs0, d0, ds0, p0, q0, hargs, rfl, rfl, h0, r0⟩ := trodAll_cons hA
  obtain ⟨v1, vs1, d1, ds1, p1, q1, rfl, rfl, rfl, h1, r1⟩ := trodAll_cons r0
  obtain ⟨rfl, rfl, rfl⟩ := trodAll_nil r1
  obtain rfl : args = #[v0, v1] := by cases args; simp_all
  obtain ⟨rfl, rfl⟩ := trodVars_none hV
  obtain ⟨e, ga, gc, he, hgap, hin⟩ := open_edit (hval 0 39 v0 rfl rfl) h0
  obtain ⟨s, hs, hd1, hp1, _⟩ := Go.ChangeMaps.open_string Tryz.underlying9 (hval 1 9 v1 rfl rfl) h1
  have walk := law_any W e ga gc s.data.toList hgap hin (gl_of hL hS) (size_of hS)
  rw [tx_self, ← he, ← hs] at walk
  clear hA0
  have hlt : ∀ x ∈ p0 ++ (p1 ++ []) ++ [], x.block < W.heap.size := fun x hx => hW'.lt x hx
  refine walk.mono fun r W' ⟨hr, hb⟩ => ?_
  subst hr
  refine ⟨_, rfl, ?_⟩
  have hread : ∀ sp : Nat → Bool, (∀ x ∈ p0 ++ (p1 ++ []) ++ [], sp x.block = true) → DataW.TrodAll enc Tryz.prog W' 0 sp true Tryz.f3.params.toList #[v0, v1].toList [d0, d1] (p0 ++ (p1 ++ [])) := fun sp hsp => by
    rw [Tryz.params3]
    exact trodAll_cons_mk (WideElems.Trod_stays laidOutP (by kernel_rfl) (of_decide_eq_true (by kernel_rfl)) h0 (fun x hx => hb.same (hlt x (by simp [hx]))) (fun x hx => hsp x (by simp [hx])))
      (trodAll_cons_mk (WideElems.Trod_stays laidOutP (by kernel_rfl) (of_decide_eq_true (by kernel_rfl)) h1 (fun x hx => hb.same (hlt x (by simp [hx]))) (fun x hx => hsp x (by simp [hx]))) trodAll_mk0)
  have hold : ∀ x ∈ p0 ++ (p1 ++ []) ++ [], (fun b => decide (b < W.heap.size)) x.block = true := fun x hx => by simpa using hlt x hx
  refine ⟨[d0, d1], [], p0 ++ (p1 ++ []) ++ [], [], p0 ++ (p1 ++ []), [], hW', trodAll_cons_mk (shut_bool Tryz.underlying4 _) trodAll_mk0, hread _ hold, rfl, World.keptBut_mono (fun x hx => ⟨hx, ?_⟩) (hb.frame (· ∈ p0 ++ (p1 ++ []) ++ [])), fun _ => ?_⟩
  · exact Or.inr (by simpa using hx)
  · refine ⟨ok_one (by kernel_rfl) rfl (okWide_bool_mk Tryz.underlying4 _), _, [], ([] ++ (p0 ++ (p1 ++ []))) ++ [], ⟨[] ++ (p0 ++ (p1 ++ [])), [], trodAll_append (hread _ (fun _ _ => rfl)) (trodAll_cons_mk (shut_bool Tryz.underlying4 _) trodAll_mk0), rfl, rfl, ?_, ?_⟩, ?_⟩
    · intro b off hx
      have hin2 : MemPlace.cell b off ∈ p0 ++ (p1 ++ []) ++ [] := by simpa using hx
      rw [hb.frozen (hlt _ hin2)]
      exact hfz b off hin2
    · intro ha; cases ha
    · intro x hx _
      simpa using hx

/-- an input that fits: the edit of noughts and the empty string -/
theorem reads0 (os : Os) {H : Type} (enc : TypeId × Value → H) : ∃ x, DataW.whole enc Tryz.prog ((World.laidAll Tryz.prog os Rows.changeTextsRow.laid).forCall (fun _ _ => 0) ⟨#[], #[.agg (edC ed0 nilS), .string ⟨#[]⟩], []⟩).memory Tryz.f3.params.toList Rows.changeTextsSpec.vars false #[.agg (edC ed0 nilS), .string ⟨#[]⟩].toList 8 = some x :=
  Option.isSome_iff_exists.1 (by kernel_rfl)
set_option maxRecDepth 100000 in
theorem lifted (os : Os) (started : os.Started) (H : Type) (enc : TypeId × Value → H) (F : Stop.Interp) :
    ReturnsInHanded {} Tryz.checked os 3 .any ((OpenSpec.ofChange Rows.changeTextsSpec).preRow enc Tryz.prog Tryz.f3 Rows.changeTextsRow.domain false Rows.changeTextsRow.laid) (((OpenSpec.ofChange Rows.changeTextsSpec).at F).post enc Tryz.prog Tryz.f3 false true false false) := by
  obtain ⟨x, hx⟩ := reads0 os enc
  have hok : Input.okWideB Tryz.prog ((World.laidAll Tryz.prog os Rows.changeTextsRow.laid).forCall (fun _ _ => 0) ⟨#[], #[.agg (edC ed0 nilS), .string ⟨#[]⟩], []⟩) 3 ⟨#[], #[.agg (edC ed0 nilS), .string ⟨#[]⟩], []⟩ = true := by kernel_rfl
  refine returnsInHanded_of_row (C := Tryz.checked) (s := OpenSpec.ofChange Rows.changeTextsSpec) own started (by kernel_rfl) Tryz.func3
    ⟨World.laidAll Tryz.prog os Rows.changeTextsRow.laid, fun _ _ => 0, ⟨#[], #[.agg (edC ed0 nilS), .string ⟨#[]⟩], []⟩, World.laidAll_os _ _ _, World.shaped_of_ZipB (by kernel_rfl) (by kernel_rfl), (Input.okWide_of_okWideB (base := 0) hok).1, (Input.okWide_of_okWideB hok).2,
      OpenSpec.preRow_of_cond 8 hx rfl (fun k hk => by cases hk) (by kernel_rfl) (by rw [MakeChecks.laidMetH_plain _ _ _ (by kernel_rfl)]; exact laidMet_laidAll _ (by kernel_rfl) (by kernel_rfl)), by
      simp only [Assume.holds]
      exact ⟨by simp, by simp, fun _ => Modest.zero, by simp, by simp⟩⟩ ?_
  intro W base args ds gs before hval hW _ _ _ hL hS _
  exact contract H enc W base args ds gs before hval hW hL hS

theorem said : Rows.ChangeTextsSaid :=
  OpenClaim.holds_of_cond 3 Tryz.f3 rfl rfl rfl rfl rfl rfl rfl ⟨rfl, rfl, rfl, rfl, rfl⟩ rfl rfl rfl rfl rfl (by kernel_rfl) Tryz.func3 (by kernel_rfl)
    (of_decide_eq_true (by kernel_rfl)) (by unfold Func.isWrapper; first | (rw [if_pos (by decide +kernel)]; kernel_rfl) | (rw [if_neg (by decide +kernel)]; exact ⟨rfl, rfl⟩))
    (fun os started H enc _ F => by rw [OpenClaim.pre_eq_preRow]; exact lifted os started H enc F)
theorem plainP (f : FuncId) (fn : Func) (hf : Tryz.pinned.checked.prog.funcNamed "kingpost/kingpostlaw58.ChangeTexts" = some f) (hfn : Tryz.pinned.checked.prog.funcs[f]? = some fn) :
    true = Tryz.pinned.checked.prog.looks [] ∧ ∀ (j : Nat) t, fn.params[j]? = some t → Tryz.pinned.checked.prog.wantsStandIn t = false := by
  obtain rfl : f = 3 := Option.some.inj ((show Tryz.prog.funcNamed "kingpost/kingpostlaw58.ChangeTexts" = some 3 by kernel_rfl).symm.trans hf) |>.symm
  obtain rfl : fn = Tryz.f3 := (Option.some.inj (Tryz.func3.symm.trans hfn)).symm
  refine ⟨by kernel_rfl, fun j t ht => ?_⟩
  rw [Tryz.params3] at ht
  have hm : t = 39 ∨ t = 9 := by simpa using Array.mem_of_getElem? ht
  rcases hm with rfl | rfl
  · exact (show Tryz.prog.wantsStandIn 39 = false by kernel_rfl)
  · exact (show Tryz.prog.wantsStandIn 9 = false by kernel_rfl)
/-- THE TIED CARD. -/
theorem changeTexts_card : Rows.ChangeTextsCardSaid :=
  Claim7.holds_tied_plain_at .later [] _ _ _ _ said (fun _ h => by cases h) (by kernel_rfl) (fun _ h => by cases h) changeTexts_row_tie rfl ⟨rfl, rfl⟩ (by kernel_rfl) rfl plainP (by kernel_rfl)
#print axioms changeTexts_card
end Go.Proofs.YtbnnccnicfddlaaGreatDoor
