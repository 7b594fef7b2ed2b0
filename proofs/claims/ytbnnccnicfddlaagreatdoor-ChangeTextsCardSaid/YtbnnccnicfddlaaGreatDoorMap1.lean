/- change.removed, change.kinds: the maps, and looking up in them. -/
import Derived.Test.YtbnnccnicfddlaaGreatDoorChgB
import Derived.WideMake
import Derived.MapKept
import Derived.Laws.StructEq
set_option linter.unusedSimpArgs false
set_option linter.unusedVariables false
namespace Go.Proofs.YtbnnccnicfddlaaGreatDoor
open Go.RowKit Go.Shelf Kp

set_option maxRecDepth 100000 in
theorem upd_new {T kt et : TypeId} {d : TypeDesc} (hm : Tryz.prog.underlying T = some (.map kt et)) (hk : Tryz.prog.underlying kt = some d) (w : World) (es es' : Array MapEntry) (c : Nat) (k v : Value) (hi : MapKept.IsKey d k)
    (hf : Instr.findNow d k es.toList 0 = some none) (he : es.push { key := k, val := v, born := c } = es') :
    (Instr.mapUpdate T (.map (some w.heap.size)) k v).run Tryz.prog (w.alloc (.map es c)) = .ok () (w.alloc (.map es' (c + 1))) := by
  have hb : (w.alloc (.map es c)).heap[w.heap.size]? = some (.map es c) := World.alloc_heap_new w _
  have hc : (Instr.checkKey false 10000 kt k).run Tryz.prog (w.alloc (.map es c)) = .ok () (w.alloc (.map es c)) := MapKept.run_checkKey hk hi false 9999
  subst he
  simp [Instr.mapUpdate, run_underlying hm, MapKept.run_getObj_map hb, hc, MapKept.run_findKey hk hf, MapKept.run_setObj_map _ hb, Result.andThen]
  unfold World.alloc
  congr 1
  apply Array.ext_getElem?
  intro k
  simp only [Array.getElem?_setIfInBounds, Array.getElem?_push, Array.size_push]
  by_cases hk : k = w.heap.size
  · subst hk; simp
  · simp [hk, Ne.symm hk]
set_option maxRecDepth 100000 in
theorem look_map {T kt et : TypeId} {d : TypeDesc} (hm : Tryz.prog.underlying T = some (.map kt et)) (hk : Tryz.prog.underlying kt = some d) (w : World) (b c : Nat) (es : Array MapEntry) (hb : w.heap[b]? = some (.map es c)) (k : Value) (hi : MapKept.IsKey d k) (com : Bool)
    {r : Option (Nat × Value)} (hf : Instr.findNow d k es.toList 0 = some r) {z : Value} (hz : (zeroValue et).run Tryz.prog w = .ok z w) :
    (Instr.lookup T (.map (some b)) k com).run Tryz.prog w = .ok (if com then .tuple #[(r.map (·.2)).getD z, .bool r.isSome] else (r.map (·.2)).getD z) w := by
  have hc : (Instr.checkKey es.isEmpty 10000 kt k).run Tryz.prog w = .ok () w := MapKept.run_checkKey hk hi es.isEmpty 9999
  cases r with
  | none => simp [Instr.lookup, run_underlying hm, MapKept.run_getObj_map hb, hc, MapKept.run_findKey hk hf, hz, Result.andThen]
  | some p => simp [Instr.lookup, run_underlying hm, MapKept.run_getObj_map hb, hc, MapKept.run_findKey hk hf, Result.andThen]
abbrev rem0 : Array MapEntry := #[]
abbrev rem1 : Array MapEntry := #[{ key := .int .i64 4, val := .string ⟨#[112, 117, 114, 108, 105, 110]⟩, born := 0 }]
abbrev rem2 : Array MapEntry := #[{ key := .int .i64 4, val := .string ⟨#[112, 117, 114, 108, 105, 110]⟩, born := 0 }, { key := .int .i64 5, val := .string ⟨#[111, 112, 101, 110, 105, 110, 103]⟩, born := 1 }]
abbrev rem3 : Array MapEntry := #[{ key := .int .i64 4, val := .string ⟨#[112, 117, 114, 108, 105, 110]⟩, born := 0 }, { key := .int .i64 5, val := .string ⟨#[111, 112, 101, 110, 105, 110, 103]⟩, born := 1 }, { key := .int .i64 6, val := .string ⟨#[115, 105, 122, 101]⟩, born := 2 }]
abbrev rem4 : Array MapEntry := #[{ key := .int .i64 4, val := .string ⟨#[112, 117, 114, 108, 105, 110]⟩, born := 0 }, { key := .int .i64 5, val := .string ⟨#[111, 112, 101, 110, 105, 110, 103]⟩, born := 1 }, { key := .int .i64 6, val := .string ⟨#[115, 105, 122, 101]⟩, born := 2 }, { key := .int .i64 7, val := .string ⟨#[98, 97, 114]⟩, born := 3 }]
abbrev rem5 : Array MapEntry := #[{ key := .int .i64 4, val := .string ⟨#[112, 117, 114, 108, 105, 110]⟩, born := 0 }, { key := .int .i64 5, val := .string ⟨#[111, 112, 101, 110, 105, 110, 103]⟩, born := 1 }, { key := .int .i64 6, val := .string ⟨#[115, 105, 122, 101]⟩, born := 2 }, { key := .int .i64 7, val := .string ⟨#[98, 97, 114]⟩, born := 3 }, { key := .int .i64 10, val := .string ⟨#[108, 111, 97, 100]⟩, born := 4 }]
abbrev rem6 : Array MapEntry := #[{ key := .int .i64 4, val := .string ⟨#[112, 117, 114, 108, 105, 110]⟩, born := 0 }, { key := .int .i64 5, val := .string ⟨#[111, 112, 101, 110, 105, 110, 103]⟩, born := 1 }, { key := .int .i64 6, val := .string ⟨#[115, 105, 122, 101]⟩, born := 2 }, { key := .int .i64 7, val := .string ⟨#[98, 97, 114]⟩, born := 3 }, { key := .int .i64 10, val := .string ⟨#[108, 111, 97, 100]⟩, born := 4 }, { key := .int .i64 11, val := .string ⟨#[115, 112, 97, 110]⟩, born := 5 }]
abbrev knd0 : Array MapEntry := #[]
abbrev knd1 : Array MapEntry := #[{ key := .string ⟨#[110, 97, 109, 101]⟩, val := .int .i64 1, born := 0 }]
abbrev knd2 : Array MapEntry := #[{ key := .string ⟨#[110, 97, 109, 101]⟩, val := .int .i64 1, born := 0 }, { key := .string ⟨#[115, 105, 100, 101]⟩, val := .int .i64 2, born := 1 }]
abbrev knd3 : Array MapEntry := #[{ key := .string ⟨#[110, 97, 109, 101]⟩, val := .int .i64 1, born := 0 }, { key := .string ⟨#[115, 105, 100, 101]⟩, val := .int .i64 2, born := 1 }, { key := .string ⟨#[115, 112, 97, 99, 105, 110, 103]⟩, val := .int .i64 3, born := 2 }]
abbrev knd4 : Array MapEntry := #[{ key := .string ⟨#[110, 97, 109, 101]⟩, val := .int .i64 1, born := 0 }, { key := .string ⟨#[115, 105, 100, 101]⟩, val := .int .i64 2, born := 1 }, { key := .string ⟨#[115, 112, 97, 99, 105, 110, 103]⟩, val := .int .i64 3, born := 2 }, { key := .string ⟨#[112, 117, 114, 108, 105, 110]⟩, val := .int .i64 4, born := 3 }]
abbrev knd5 : Array MapEntry := #[{ key := .string ⟨#[110, 97, 109, 101]⟩, val := .int .i64 1, born := 0 }, { key := .string ⟨#[115, 105, 100, 101]⟩, val := .int .i64 2, born := 1 }, { key := .string ⟨#[115, 112, 97, 99, 105, 110, 103]⟩, val := .int .i64 3, born := 2 }, { key := .string ⟨#[112, 117, 114, 108, 105, 110]⟩, val := .int .i64 4, born := 3 }, { key := .string ⟨#[111, 112, 101, 110, 105, 110, 103]⟩, val := .int .i64 5, born := 4 }]
abbrev knd6 : Array MapEntry := #[{ key := .string ⟨#[110, 97, 109, 101]⟩, val := .int .i64 1, born := 0 }, { key := .string ⟨#[115, 105, 100, 101]⟩, val := .int .i64 2, born := 1 }, { key := .string ⟨#[115, 112, 97, 99, 105, 110, 103]⟩, val := .int .i64 3, born := 2 }, { key := .string ⟨#[112, 117, 114, 108, 105, 110]⟩, val := .int .i64 4, born := 3 }, { key := .string ⟨#[111, 112, 101, 110, 105, 110, 103]⟩, val := .int .i64 5, born := 4 }, { key := .string ⟨#[115, 105, 122, 101]⟩, val := .int .i64 6, born := 5 }]
abbrev knd7 : Array MapEntry := #[{ key := .string ⟨#[110, 97, 109, 101]⟩, val := .int .i64 1, born := 0 }, { key := .string ⟨#[115, 105, 100, 101]⟩, val := .int .i64 2, born := 1 }, { key := .string ⟨#[115, 112, 97, 99, 105, 110, 103]⟩, val := .int .i64 3, born := 2 }, { key := .string ⟨#[112, 117, 114, 108, 105, 110]⟩, val := .int .i64 4, born := 3 }, { key := .string ⟨#[111, 112, 101, 110, 105, 110, 103]⟩, val := .int .i64 5, born := 4 }, { key := .string ⟨#[115, 105, 122, 101]⟩, val := .int .i64 6, born := 5 }, { key := .string ⟨#[98, 97, 114]⟩, val := .int .i64 7, born := 6 }]
abbrev knd8 : Array MapEntry := #[{ key := .string ⟨#[110, 97, 109, 101]⟩, val := .int .i64 1, born := 0 }, { key := .string ⟨#[115, 105, 100, 101]⟩, val := .int .i64 2, born := 1 }, { key := .string ⟨#[115, 112, 97, 99, 105, 110, 103]⟩, val := .int .i64 3, born := 2 }, { key := .string ⟨#[112, 117, 114, 108, 105, 110]⟩, val := .int .i64 4, born := 3 }, { key := .string ⟨#[111, 112, 101, 110, 105, 110, 103]⟩, val := .int .i64 5, born := 4 }, { key := .string ⟨#[115, 105, 122, 101]⟩, val := .int .i64 6, born := 5 }, { key := .string ⟨#[98, 97, 114]⟩, val := .int .i64 7, born := 6 }, { key := .string ⟨#[107, 101, 114, 102]⟩, val := .int .i64 8, born := 7 }]
abbrev knd9 : Array MapEntry := #[{ key := .string ⟨#[110, 97, 109, 101]⟩, val := .int .i64 1, born := 0 }, { key := .string ⟨#[115, 105, 100, 101]⟩, val := .int .i64 2, born := 1 }, { key := .string ⟨#[115, 112, 97, 99, 105, 110, 103]⟩, val := .int .i64 3, born := 2 }, { key := .string ⟨#[112, 117, 114, 108, 105, 110]⟩, val := .int .i64 4, born := 3 }, { key := .string ⟨#[111, 112, 101, 110, 105, 110, 103]⟩, val := .int .i64 5, born := 4 }, { key := .string ⟨#[115, 105, 122, 101]⟩, val := .int .i64 6, born := 5 }, { key := .string ⟨#[98, 97, 114]⟩, val := .int .i64 7, born := 6 }, { key := .string ⟨#[107, 101, 114, 102]⟩, val := .int .i64 8, born := 7 }, { key := .string ⟨#[116, 105, 108, 101]⟩, val := .int .i64 9, born := 8 }]
abbrev knd10 : Array MapEntry := #[{ key := .string ⟨#[110, 97, 109, 101]⟩, val := .int .i64 1, born := 0 }, { key := .string ⟨#[115, 105, 100, 101]⟩, val := .int .i64 2, born := 1 }, { key := .string ⟨#[115, 112, 97, 99, 105, 110, 103]⟩, val := .int .i64 3, born := 2 }, { key := .string ⟨#[112, 117, 114, 108, 105, 110]⟩, val := .int .i64 4, born := 3 }, { key := .string ⟨#[111, 112, 101, 110, 105, 110, 103]⟩, val := .int .i64 5, born := 4 }, { key := .string ⟨#[115, 105, 122, 101]⟩, val := .int .i64 6, born := 5 }, { key := .string ⟨#[98, 97, 114]⟩, val := .int .i64 7, born := 6 }, { key := .string ⟨#[107, 101, 114, 102]⟩, val := .int .i64 8, born := 7 }, { key := .string ⟨#[116, 105, 108, 101]⟩, val := .int .i64 9, born := 8 }, { key := .string ⟨#[108, 111, 97, 100]⟩, val := .int .i64 10, born := 9 }]
abbrev knd11 : Array MapEntry := #[{ key := .string ⟨#[110, 97, 109, 101]⟩, val := .int .i64 1, born := 0 }, { key := .string ⟨#[115, 105, 100, 101]⟩, val := .int .i64 2, born := 1 }, { key := .string ⟨#[115, 112, 97, 99, 105, 110, 103]⟩, val := .int .i64 3, born := 2 }, { key := .string ⟨#[112, 117, 114, 108, 105, 110]⟩, val := .int .i64 4, born := 3 }, { key := .string ⟨#[111, 112, 101, 110, 105, 110, 103]⟩, val := .int .i64 5, born := 4 }, { key := .string ⟨#[115, 105, 122, 101]⟩, val := .int .i64 6, born := 5 }, { key := .string ⟨#[98, 97, 114]⟩, val := .int .i64 7, born := 6 }, { key := .string ⟨#[107, 101, 114, 102]⟩, val := .int .i64 8, born := 7 }, { key := .string ⟨#[116, 105, 108, 101]⟩, val := .int .i64 9, born := 8 }, { key := .string ⟨#[108, 111, 97, 100]⟩, val := .int .i64 10, born := 9 }, { key := .string ⟨#[115, 112, 97, 110]⟩, val := .int .i64 11, born := 10 }]
abbrev knd12 : Array MapEntry := #[{ key := .string ⟨#[110, 97, 109, 101]⟩, val := .int .i64 1, born := 0 }, { key := .string ⟨#[115, 105, 100, 101]⟩, val := .int .i64 2, born := 1 }, { key := .string ⟨#[115, 112, 97, 99, 105, 110, 103]⟩, val := .int .i64 3, born := 2 }, { key := .string ⟨#[112, 117, 114, 108, 105, 110]⟩, val := .int .i64 4, born := 3 }, { key := .string ⟨#[111, 112, 101, 110, 105, 110, 103]⟩, val := .int .i64 5, born := 4 }, { key := .string ⟨#[115, 105, 122, 101]⟩, val := .int .i64 6, born := 5 }, { key := .string ⟨#[98, 97, 114]⟩, val := .int .i64 7, born := 6 }, { key := .string ⟨#[107, 101, 114, 102]⟩, val := .int .i64 8, born := 7 }, { key := .string ⟨#[116, 105, 108, 101]⟩, val := .int .i64 9, born := 8 }, { key := .string ⟨#[108, 111, 97, 100]⟩, val := .int .i64 10, born := 9 }, { key := .string ⟨#[115, 112, 97, 110]⟩, val := .int .i64 11, born := 10 }, { key := .string ⟨#[114, 101, 109, 111, 118, 101]⟩, val := .int .i64 12, born := 11 }]

set_option maxRecDepth 100000 in
set_option maxHeartbeats 1000000 in
theorem removed_any (w : World) : Calls Tryz.prog 12 #[] w fun e w' => e = .returned (.map (some w.heap.size)) ∧ w' = w.alloc (.map rem6 6) := by
  have hmm := @run_makeMap Tryz.prog
  have u0 := upd_new (T := 55) Tryz.underlying55 Tryz.underlying3 w rem0 rem1 0 (.int .i64 4) (.string ⟨#[112, 117, 114, 108, 105, 110]⟩) (by simp [MapKept.IsKey]) rfl rfl
  have u1 := upd_new (T := 55) Tryz.underlying55 Tryz.underlying3 w rem1 rem2 1 (.int .i64 5) (.string ⟨#[111, 112, 101, 110, 105, 110, 103]⟩) (by simp [MapKept.IsKey]) rfl rfl
  have u2 := upd_new (T := 55) Tryz.underlying55 Tryz.underlying3 w rem2 rem3 2 (.int .i64 6) (.string ⟨#[115, 105, 122, 101]⟩) (by simp [MapKept.IsKey]) rfl rfl
  have u3 := upd_new (T := 55) Tryz.underlying55 Tryz.underlying3 w rem3 rem4 3 (.int .i64 7) (.string ⟨#[98, 97, 114]⟩) (by simp [MapKept.IsKey]) rfl rfl
  have u4 := upd_new (T := 55) Tryz.underlying55 Tryz.underlying3 w rem4 rem5 4 (.int .i64 10) (.string ⟨#[108, 111, 97, 100]⟩) (by simp [MapKept.IsKey]) rfl rfl
  have u5 := upd_new (T := 55) Tryz.underlying55 Tryz.underlying3 w rem5 rem6 5 (.int .i64 11) (.string ⟨#[115, 112, 97, 110]⟩) (by simp [MapKept.IsKey]) rfl rfl
  go_enter Tryz.func12, Tryz.ntmps12
  go_wp2
  go_ret
  exact ⟨rfl, rfl⟩

set_option maxRecDepth 100000 in
set_option maxHeartbeats 1000000 in
theorem ckinds_any (w : World) : Calls Tryz.prog 28 #[] w fun e w' => e = .returned (.map (some w.heap.size)) ∧ w' = w.alloc (.map knd12 12) := by
  have hmm := @run_makeMap Tryz.prog
  have u0 := upd_new (T := 86) Tryz.underlying86 Tryz.underlying9 w knd0 knd1 0 (.string ⟨#[110, 97, 109, 101]⟩) (.int .i64 1) (by simp [MapKept.IsKey]) (by kernel_rfl) rfl
  have u1 := upd_new (T := 86) Tryz.underlying86 Tryz.underlying9 w knd1 knd2 1 (.string ⟨#[115, 105, 100, 101]⟩) (.int .i64 2) (by simp [MapKept.IsKey]) (by kernel_rfl) rfl
  have u2 := upd_new (T := 86) Tryz.underlying86 Tryz.underlying9 w knd2 knd3 2 (.string ⟨#[115, 112, 97, 99, 105, 110, 103]⟩) (.int .i64 3) (by simp [MapKept.IsKey]) (by kernel_rfl) rfl
  have u3 := upd_new (T := 86) Tryz.underlying86 Tryz.underlying9 w knd3 knd4 3 (.string ⟨#[112, 117, 114, 108, 105, 110]⟩) (.int .i64 4) (by simp [MapKept.IsKey]) (by kernel_rfl) rfl
  have u4 := upd_new (T := 86) Tryz.underlying86 Tryz.underlying9 w knd4 knd5 4 (.string ⟨#[111, 112, 101, 110, 105, 110, 103]⟩) (.int .i64 5) (by simp [MapKept.IsKey]) (by kernel_rfl) rfl
  have u5 := upd_new (T := 86) Tryz.underlying86 Tryz.underlying9 w knd5 knd6 5 (.string ⟨#[115, 105, 122, 101]⟩) (.int .i64 6) (by simp [MapKept.IsKey]) (by kernel_rfl) rfl
  have u6 := upd_new (T := 86) Tryz.underlying86 Tryz.underlying9 w knd6 knd7 6 (.string ⟨#[98, 97, 114]⟩) (.int .i64 7) (by simp [MapKept.IsKey]) (by kernel_rfl) rfl
  have u7 := upd_new (T := 86) Tryz.underlying86 Tryz.underlying9 w knd7 knd8 7 (.string ⟨#[107, 101, 114, 102]⟩) (.int .i64 8) (by simp [MapKept.IsKey]) (by kernel_rfl) rfl
  have u8 := upd_new (T := 86) Tryz.underlying86 Tryz.underlying9 w knd8 knd9 8 (.string ⟨#[116, 105, 108, 101]⟩) (.int .i64 9) (by simp [MapKept.IsKey]) (by kernel_rfl) rfl
  have u9 := upd_new (T := 86) Tryz.underlying86 Tryz.underlying9 w knd9 knd10 9 (.string ⟨#[108, 111, 97, 100]⟩) (.int .i64 10) (by simp [MapKept.IsKey]) (by kernel_rfl) rfl
  have u10 := upd_new (T := 86) Tryz.underlying86 Tryz.underlying9 w knd10 knd11 10 (.string ⟨#[115, 112, 97, 110]⟩) (.int .i64 11) (by simp [MapKept.IsKey]) (by kernel_rfl) rfl
  have u11 := upd_new (T := 86) Tryz.underlying86 Tryz.underlying9 w knd11 knd12 11 (.string ⟨#[114, 101, 109, 111, 118, 101]⟩) (.int .i64 12) (by simp [MapKept.IsKey]) (by kernel_rfl) rfl
  go_enter Tryz.func28, Tryz.ntmps28
  go_wp2
  go_ret
  exact ⟨rfl, rfl⟩

theorem rem_find (n : Int) : Instr.findNow (.int .i64) (.int .i64 n) rem6.toList 0 = some (if n = 4 then some (0, .string (tx wPurlin)) else if n = 5 then some (1, .string (tx wOpening)) else if n = 6 then some (2, .string (tx wSize)) else if n = 7 then some (3, .string (tx wBar)) else if n = 10 then some (4, .string (tx wLoad)) else if n = 11 then some (5, .string (tx wSpan)) else none) := by
  simp only [Instr.findNow, Instr.sameNow, if_true]
  by_cases h4 : n = 4
  · subst h4; rfl
  by_cases h5 : n = 5
  · subst h5; rfl
  by_cases h6 : n = 6
  · subst h6; rfl
  by_cases h7 : n = 7
  · subst h7; rfl
  by_cases h10 : n = 10
  · subst h10; rfl
  by_cases h11 : n = 11
  · subst h11; rfl
  have b4 : (n == 4) = false := by simpa using h4
  have b5 : (n == 5) = false := by simpa using h5
  have b6 : (n == 6) = false := by simpa using h6
  have b7 : (n == 7) = false := by simpa using h7
  have b10 : (n == 10) = false := by simpa using h10
  have b11 : (n == 11) = false := by simpa using h11
  simp [b4, b5, b6, b7, b10, b11, h4, h5, h6, h7, h10, h11]
set_option maxRecDepth 100000 in
theorem rem_look (w : World) (b c : Nat) (hb : w.heap[b]? = some (.map rem6 c)) (n : Int) (com : Bool) :
    (Instr.lookup 55 (.map (some b)) (.int .i64 n) com).run Tryz.prog w = .ok (if com then .tuple #[.string (tx (remW n)), .bool (remIs n)] else .string (tx (remW n))) w := by
  have hz : (zeroValue 9).run Tryz.prog w = .ok (.string ⟨#[]⟩) w := by kernel_rfl
  rw [look_map Tryz.underlying55 Tryz.underlying3 w b c rem6 hb (.int .i64 n) (by simp [MapKept.IsKey]) com (rem_find n) hz]
  unfold remW remIs
  congr 1
  by_cases h4 : n = 4
  · subst h4; rfl
  by_cases h5 : n = 5
  · subst h5; rfl
  by_cases h6 : n = 6
  · subst h6; rfl
  by_cases h7 : n = 7
  · subst h7; rfl
  by_cases h10 : n = 10
  · subst h10; rfl
  by_cases h11 : n = 11
  · subst h11; rfl
  have hb : (n == 4 || n == 5 || n == 6 || n == 7 || n == 10 || n == 11) = false := by simp [h4, h5, h6, h7, h10, h11]
  rw [hb]
  simp only [h4, h5, h6, h7, h10, h11, if_false]
  rfl
theorem tx_beq (a b : By) : (tx a == tx b) = decide (a = b) := by
  rw [beq_toListBytes, ByteArray.toList_eq, ByteArray.toList_eq, tx_list, tx_list, Bool.eq_iff_iff]
  simp
theorem knd_find (s : By) : Instr.findNow .string (.string (tx s)) knd12.toList 0 = some (if s = wName then some (0, .int .i64 1) else if s = wSide then some (1, .int .i64 2) else if s = wSpacing then some (2, .int .i64 3) else if s = wPurlin then some (3, .int .i64 4) else if s = wOpening then some (4, .int .i64 5) else if s = wSize then some (5, .int .i64 6) else if s = wBar then some (6, .int .i64 7) else if s = wKerf then some (7, .int .i64 8) else if s = wTile then some (8, .int .i64 9) else if s = wLoad then some (9, .int .i64 10) else if s = wSpan then some (10, .int .i64 11) else if s = wRemove then some (11, .int .i64 12) else none) := by
  have bname : (tx s == ⟨#[110, 97, 109, 101]⟩) = decide (s = wName) := tx_beq s wName
  have bside : (tx s == ⟨#[115, 105, 100, 101]⟩) = decide (s = wSide) := tx_beq s wSide
  have bspacing : (tx s == ⟨#[115, 112, 97, 99, 105, 110, 103]⟩) = decide (s = wSpacing) := tx_beq s wSpacing
  have bpurlin : (tx s == ⟨#[112, 117, 114, 108, 105, 110]⟩) = decide (s = wPurlin) := tx_beq s wPurlin
  have bopening : (tx s == ⟨#[111, 112, 101, 110, 105, 110, 103]⟩) = decide (s = wOpening) := tx_beq s wOpening
  have bsize : (tx s == ⟨#[115, 105, 122, 101]⟩) = decide (s = wSize) := tx_beq s wSize
  have bbar : (tx s == ⟨#[98, 97, 114]⟩) = decide (s = wBar) := tx_beq s wBar
  have bkerf : (tx s == ⟨#[107, 101, 114, 102]⟩) = decide (s = wKerf) := tx_beq s wKerf
  have btile : (tx s == ⟨#[116, 105, 108, 101]⟩) = decide (s = wTile) := tx_beq s wTile
  have bload : (tx s == ⟨#[108, 111, 97, 100]⟩) = decide (s = wLoad) := tx_beq s wLoad
  have bspan : (tx s == ⟨#[115, 112, 97, 110]⟩) = decide (s = wSpan) := tx_beq s wSpan
  have bremove : (tx s == ⟨#[114, 101, 109, 111, 118, 101]⟩) = decide (s = wRemove) := tx_beq s wRemove
  simp only [Instr.findNow, Instr.sameNow, bname, bside, bspacing, bpurlin, bopening, bsize, bbar, bkerf, btile, bload, bspan, bremove]
  by_cases hname : s = wName
  · rw [if_pos hname]; simp only [decide_eq_true hname]
  rw [if_neg hname]; simp only [decide_eq_false hname]
  by_cases hside : s = wSide
  · rw [if_pos hside]; simp only [decide_eq_true hside]
  rw [if_neg hside]; simp only [decide_eq_false hside]
  by_cases hspacing : s = wSpacing
  · rw [if_pos hspacing]; simp only [decide_eq_true hspacing]
  rw [if_neg hspacing]; simp only [decide_eq_false hspacing]
  by_cases hpurlin : s = wPurlin
  · rw [if_pos hpurlin]; simp only [decide_eq_true hpurlin]
  rw [if_neg hpurlin]; simp only [decide_eq_false hpurlin]
  by_cases hopening : s = wOpening
  · rw [if_pos hopening]; simp only [decide_eq_true hopening]
  rw [if_neg hopening]; simp only [decide_eq_false hopening]
  by_cases hsize : s = wSize
  · rw [if_pos hsize]; simp only [decide_eq_true hsize]
  rw [if_neg hsize]; simp only [decide_eq_false hsize]
  by_cases hbar : s = wBar
  · rw [if_pos hbar]; simp only [decide_eq_true hbar]
  rw [if_neg hbar]; simp only [decide_eq_false hbar]
  by_cases hkerf : s = wKerf
  · rw [if_pos hkerf]; simp only [decide_eq_true hkerf]
  rw [if_neg hkerf]; simp only [decide_eq_false hkerf]
  by_cases htile : s = wTile
  · rw [if_pos htile]; simp only [decide_eq_true htile]
  rw [if_neg htile]; simp only [decide_eq_false htile]
  by_cases hload : s = wLoad
  · rw [if_pos hload]; simp only [decide_eq_true hload]
  rw [if_neg hload]; simp only [decide_eq_false hload]
  by_cases hspan : s = wSpan
  · rw [if_pos hspan]; simp only [decide_eq_true hspan]
  rw [if_neg hspan]; simp only [decide_eq_false hspan]
  by_cases hremove : s = wRemove
  · rw [if_pos hremove]; simp only [decide_eq_true hremove]
  rw [if_neg hremove]; simp only [decide_eq_false hremove]
set_option maxRecDepth 100000 in
theorem knd_look (w : World) (b c : Nat) (hb : w.heap[b]? = some (.map knd12 c)) (s : By) :
    (Instr.lookup 86 (.map (some b)) (.string (tx s)) false).run Tryz.prog w = .ok (.int .i64 (kindOf s)) w := by
  have hz : (zeroValue 3).run Tryz.prog w = .ok (.int .i64 0) w := by kernel_rfl
  rw [look_map Tryz.underlying86 Tryz.underlying9 w b c knd12 hb (.string (tx s)) (by simp [MapKept.IsKey]) false (knd_find s) hz]
  unfold kindOf
  congr 1
  by_cases hname : s = wName
  · rw [if_pos hname, if_pos hname]; rfl
  rw [if_neg hname, if_neg hname]
  by_cases hside : s = wSide
  · rw [if_pos hside, if_pos hside]; rfl
  rw [if_neg hside, if_neg hside]
  by_cases hspacing : s = wSpacing
  · rw [if_pos hspacing, if_pos hspacing]; rfl
  rw [if_neg hspacing, if_neg hspacing]
  by_cases hpurlin : s = wPurlin
  · rw [if_pos hpurlin, if_pos hpurlin]; rfl
  rw [if_neg hpurlin, if_neg hpurlin]
  by_cases hopening : s = wOpening
  · rw [if_pos hopening, if_pos hopening]; rfl
  rw [if_neg hopening, if_neg hopening]
  by_cases hsize : s = wSize
  · rw [if_pos hsize, if_pos hsize]; rfl
  rw [if_neg hsize, if_neg hsize]
  by_cases hbar : s = wBar
  · rw [if_pos hbar, if_pos hbar]; rfl
  rw [if_neg hbar, if_neg hbar]
  by_cases hkerf : s = wKerf
  · rw [if_pos hkerf, if_pos hkerf]; rfl
  rw [if_neg hkerf, if_neg hkerf]
  by_cases htile : s = wTile
  · rw [if_pos htile, if_pos htile]; rfl
  rw [if_neg htile, if_neg htile]
  by_cases hload : s = wLoad
  · rw [if_pos hload, if_pos hload]; rfl
  rw [if_neg hload, if_neg hload]
  by_cases hspan : s = wSpan
  · rw [if_pos hspan, if_pos hspan]; rfl
  rw [if_neg hspan, if_neg hspan]
  by_cases hremove : s = wRemove
  · rw [if_pos hremove, if_pos hremove]; rfl
  rw [if_neg hremove, if_neg hremove]
  rfl
end Go.Proofs.YtbnnccnicfddlaaGreatDoor
