/- Steps through functions of the program. -/
import Derived.Test.YtejbklahkkjmhaaJP6
set_option linter.unusedVariables false
set_option linter.unusedSimpArgs false
set_option maxRecDepth 100000
set_option maxHeartbeats 400000
namespace Go.Proofs.Ytejbklahkkjmhaa
open Go.K Go.K.Rep

namespace F8
noncomputable def c0 : Code := bodyOf Try.f8
noncomputable def c1 : Code := cl c0
noncomputable def o0 : Array Oper := rops c1
noncomputable def c2 : Code := cr c0
noncomputable def c3 : Code := cl c2
noncomputable def o1 : Array Oper := rops c3
noncomputable def c4 : Code := cr c2
noncomputable def c5 : Code := cl c4
noncomputable def o2 : Array Oper := rops c5
noncomputable def c6 : Code := cr c4
noncomputable def c7 : Code := cl c6
noncomputable def o3 : Array Oper := rops c7
noncomputable def c8 : Code := cr c6
noncomputable def c9 : Code := cl c8
noncomputable def o4 : Array Oper := rops c9
noncomputable def c10 : Code := cr c8
noncomputable def c11 : Code := cl c10
noncomputable def o5 : Array Oper := rops c11
noncomputable def c12 : Code := cr c10
noncomputable def c13 : Code := cl c12
noncomputable def o6 : Array Oper := rops c13
noncomputable def c14 : Code := cr c12
end F8
/-- The sanity check. -/
theorem awake_ok {w₀ : World} {C : Nat → Nat} (hF : Lim w₀ C) : Calls Try.prog 8 #[] w₀ (Ret fun v w' => v = .bool true ∧ Stp [] w₀ C w' C) := by
  have hF0 := hF
  have hT := Stp.refl [2, 3, 4, 5, 6, 7, 8, 9] w₀ (col1 C)
  replace hF := hF.col1
  refine calls_start (c := F8.c0) (N := 76) [] Try.func8 (by kernel_rfl) (by kernel_rfl) (by kernel_rfl) ?_
  show Run _ _ _ _ [] _ _
  refine run_seq (x := F8.c1) (y := F8.c2) (by kernel_rfl) ?_
  refine run_plain (id := 0) (ops := F8.o0) [(0, true)] (by kernel_rfl) (by kernel_rfl) ?_
  refine yS (by kernel_rfl : opAt F8.o0 0 = some (some 0, .assign (.const (.bool false)), none)) rfl rfl (fun w' hS => val_assign rfl) ?_
  refine Sch.nil ?_
  refine run_seq (x := F8.c3) (y := F8.c4) (by kernel_rfl) ?_
  refine run_plain (id := 1) (ops := F8.o1) [(0, false), (1, true), (2, false), (3, true), (4, false), (5, true)] (by kernel_rfl) (by kernel_rfl) ?_
  refine aS (by kernel_rfl : opAt F8.o1 0 = some (some 9, .buildSlice 22 2 #[(0, (.const (.int .i64 1))), (1, (.const (.int .i64 2)))], none)) rfl rfl (a_buildSlice (ys := ([1, 2] : List Int)) (e := 3) (bytes := 8) hF (by kernel_rfl) rfl (by decide) (by decide) ⟨rfl, ⟨_, rfl, rv_int.2 rfl⟩, rfl, ⟨_, rfl, rv_int.2 rfl⟩, trivial⟩) ?_
  rintro v9 w1 ⟨hs, g9, hF⟩
  refine ⟨trivial, ?_⟩
  replace hT := hT.trans hs (by simp)
  refine yS (by kernel_rfl : opAt F8.o1 1 = some (some 10, .build 44 #[(0, (.const (.int .u64 5))), (1, (.tmp 9))], none)) rfl rfl (fun w' hS => val_build (zs := [.int .u64 0, .slice none 0 0]) (ps := [(0, 1), (1, 1)]) (qs := [(0, [.int .u64 5]), (1, [v9])]) (cs := [.int .u64 5, v9]) (by kernel_rfl) (by kernel_rfl) (by exact ⟨rfl, ⟨_, rfl, rfl⟩, rfl, ⟨_, rfl, (g9.one rfl).1⟩, trivial⟩) rfl) ?_
  refine aS (by kernel_rfl : opAt F8.o1 2 = some (some 11, .buildSlice 22 1 #[(0, (.const (.int .i64 3)))], none)) rfl rfl (a_buildSlice (ys := ([3] : List Int)) (e := 3) (bytes := 8) hF (by kernel_rfl) rfl (by decide) (by decide) ⟨rfl, ⟨_, rfl, rv_int.2 rfl⟩, trivial⟩) ?_
  rintro v11 w2 ⟨hs, g11, hF⟩
  refine ⟨trivial, ?_⟩
  replace hT := hT.trans hs (by simp)
  replace g9 := g9.st hs (by first | decide | (simp <;> omega))
  refine yS (by kernel_rfl : opAt F8.o1 3 = some (some 12, .build 44 #[(0, (.const (.int .u64 7))), (1, (.tmp 11))], none)) rfl rfl (fun w' hS => val_build (zs := [.int .u64 0, .slice none 0 0]) (ps := [(0, 1), (1, 1)]) (qs := [(0, [.int .u64 7]), (1, [v11])]) (cs := [.int .u64 7, v11]) (by kernel_rfl) (by kernel_rfl) (by exact ⟨rfl, ⟨_, rfl, rfl⟩, rfl, ⟨_, rfl, (g11.one rfl).1⟩, trivial⟩) rfl) ?_
  refine aS (by kernel_rfl : opAt F8.o1 4 = some (some 13, .buildSlice 39 2 #[(0, (.tmp 10)), (1, (.tmp 12))], none)) rfl rfl (a_buildSlice (ys := (awA : List Block)) (e := 44) (bytes := 32) hF (by kernel_rfl) rfl (by decide) (by decide) ⟨rfl, ⟨_, rfl, rv_block g9⟩, rfl, ⟨_, rfl, rv_block g11⟩, trivial⟩) ?_
  rintro v13 w3 ⟨hs, ha, hF⟩
  refine ⟨trivial, ?_⟩
  replace hT := hT.trans hs (by simp)
  replace g9 := g9.st hs (by first | decide | (simp <;> omega))
  replace g11 := g11.st hs (by first | decide | (simp <;> omega))
  refine yS (by kernel_rfl : opAt F8.o1 5 = some (some 1, .assign (.tmp 13), none)) rfl rfl (fun w' hS => val_assign rfl) ?_
  refine Sch.nil ?_
  refine run_seq (x := F8.c5) (y := F8.c6) (by kernel_rfl) ?_
  refine run_plain (id := 2) (ops := F8.o2) [(0, false), (1, true), (2, false), (3, true), (4, false), (5, true)] (by kernel_rfl) (by kernel_rfl) ?_
  refine aS (by kernel_rfl : opAt F8.o2 0 = some (some 14, .buildSlice 22 3 #[(0, (.const (.int .i64 1))), (1, (.const (.int .i64 2))), (2, (.const (.int .i64 9)))], none)) rfl rfl (a_buildSlice (ys := ([1, 2, 9] : List Int)) (e := 3) (bytes := 8) hF (by kernel_rfl) rfl (by decide) (by decide) ⟨rfl, ⟨_, rfl, rv_int.2 rfl⟩, rfl, ⟨_, rfl, rv_int.2 rfl⟩, rfl, ⟨_, rfl, rv_int.2 rfl⟩, trivial⟩) ?_
  rintro v14 w4 ⟨hs, g14, hF⟩
  refine ⟨trivial, ?_⟩
  replace hT := hT.trans hs (by simp)
  replace g9 := g9.st hs (by first | decide | (simp <;> omega))
  replace g11 := g11.st hs (by first | decide | (simp <;> omega))
  replace ha := ha.st hs (by first | decide | (simp <;> omega))
  refine yS (by kernel_rfl : opAt F8.o2 1 = some (some 15, .build 44 #[(0, (.const (.int .u64 5))), (1, (.tmp 14))], none)) rfl rfl (fun w' hS => val_build (zs := [.int .u64 0, .slice none 0 0]) (ps := [(0, 1), (1, 1)]) (qs := [(0, [.int .u64 5]), (1, [v14])]) (cs := [.int .u64 5, v14]) (by kernel_rfl) (by kernel_rfl) (by exact ⟨rfl, ⟨_, rfl, rfl⟩, rfl, ⟨_, rfl, (g14.one rfl).1⟩, trivial⟩) rfl) ?_
  refine aS (by kernel_rfl : opAt F8.o2 2 = some (some 16, .buildSlice 22 1 #[(0, (.const (.int .i64 4)))], none)) rfl rfl (a_buildSlice (ys := ([4] : List Int)) (e := 3) (bytes := 8) hF (by kernel_rfl) rfl (by decide) (by decide) ⟨rfl, ⟨_, rfl, rv_int.2 rfl⟩, trivial⟩) ?_
  rintro v16 w5 ⟨hs, g16, hF⟩
  refine ⟨trivial, ?_⟩
  replace hT := hT.trans hs (by simp)
  replace g9 := g9.st hs (by first | decide | (simp <;> omega))
  replace g11 := g11.st hs (by first | decide | (simp <;> omega))
  replace ha := ha.st hs (by first | decide | (simp <;> omega))
  replace g14 := g14.st hs (by first | decide | (simp <;> omega))
  refine yS (by kernel_rfl : opAt F8.o2 3 = some (some 17, .build 44 #[(0, (.const (.int .u64 8))), (1, (.tmp 16))], none)) rfl rfl (fun w' hS => val_build (zs := [.int .u64 0, .slice none 0 0]) (ps := [(0, 1), (1, 1)]) (qs := [(0, [.int .u64 8]), (1, [v16])]) (cs := [.int .u64 8, v16]) (by kernel_rfl) (by kernel_rfl) (by exact ⟨rfl, ⟨_, rfl, rfl⟩, rfl, ⟨_, rfl, (g16.one rfl).1⟩, trivial⟩) rfl) ?_
  refine aS (by kernel_rfl : opAt F8.o2 4 = some (some 18, .buildSlice 39 2 #[(0, (.tmp 15)), (1, (.tmp 17))], none)) rfl rfl (a_buildSlice (ys := (awB : List Block)) (e := 44) (bytes := 32) hF (by kernel_rfl) rfl (by decide) (by decide) ⟨rfl, ⟨_, rfl, rv_block g14⟩, rfl, ⟨_, rfl, rv_block g16⟩, trivial⟩) ?_
  rintro v18 w6 ⟨hs, hb, hF⟩
  refine ⟨trivial, ?_⟩
  replace hT := hT.trans hs (by simp)
  replace g9 := g9.st hs (by first | decide | (simp <;> omega))
  replace g11 := g11.st hs (by first | decide | (simp <;> omega))
  replace ha := ha.st hs (by first | decide | (simp <;> omega))
  replace g14 := g14.st hs (by first | decide | (simp <;> omega))
  replace g16 := g16.st hs (by first | decide | (simp <;> omega))
  refine yS (by kernel_rfl : opAt F8.o2 5 = some (some 2, .assign (.tmp 18), none)) rfl rfl (fun w' hS => val_assign rfl) ?_
  refine Sch.nil ?_
  refine run_seq (x := F8.c7) (y := F8.c8) (by kernel_rfl) ?_
  refine run_plain (id := 3) (ops := F8.o3) [(0, true), (1, true), (2, false), (3, true), (4, true), (5, true), (6, true), (7, true)] (by kernel_rfl) (by kernel_rfl) ?_
  refine yS (by kernel_rfl : opAt F8.o3 0 = some (some 20, .move (.tmp 1), none)) rfl rfl (fun w' hS => val_move rfl) ?_
  refine yS (by kernel_rfl : opAt F8.o3 1 = some (some 21, .move (.tmp 2), none)) rfl rfl (fun w' hS => val_move rfl) ?_
  refine cS (by kernel_rfl : opAt F8.o3 2 = some (some 22, .call { callee := .value (.func 18), args := #[(.tmp 20), (.tmp 21)], argTypes := #[39, 39] }, none)) rfl rfl (ent Try.call18 rfl) (count_ok hF ha hb (by decide) (by decide)) ?_
  rintro vw7 w7 ⟨hv, hs⟩
  refine ⟨trivial, ?_⟩
  replace hF := hF.st hs
  replace hT := hT.trans hs (by simp)
  replace g9 := g9.st hs (by first | decide | (simp <;> omega))
  replace g11 := g11.st hs (by first | decide | (simp <;> omega))
  replace ha := ha.st hs (by first | decide | (simp <;> omega))
  replace g14 := g14.st hs (by first | decide | (simp <;> omega))
  replace g16 := g16.st hs (by first | decide | (simp <;> omega))
  replace hb := hb.st hs (by first | decide | (simp <;> omega))
  rw [if_neg (by rw [aw_countE]; decide), aw_count, aw_countE] at hv
  subst hv
  refine yS (by kernel_rfl : opAt F8.o3 3 = some (some 19, .move (.tmp 22), none)) rfl rfl (fun w' hS => val_move rfl) ?_
  refine yS (by kernel_rfl : opAt F8.o3 4 = some (some 23, .extract (.tmp 19) 0, none)) rfl rfl (fun w' hS => val_extract rfl rfl) ?_
  refine yS (by kernel_rfl : opAt F8.o3 5 = some (some 24, .extract (.tmp 19) 1, none)) rfl rfl (fun w' hS => val_extract rfl rfl) ?_
  refine yS (by kernel_rfl : opAt F8.o3 6 = some (some 3, .assign (.tmp 23), none)) rfl rfl (fun w' hS => val_assign rfl) ?_
  refine yS (by kernel_rfl : opAt F8.o3 7 = some (some 4, .assign (.tmp 24), none)) rfl rfl (fun w' hS => val_assign rfl) ?_
  refine Sch.nil ?_
  refine run_seq (x := F8.c9) (y := F8.c10) (by kernel_rfl) ?_
  refine run_plain (id := 4) (ops := F8.o4) [(0, true), (1, false), (2, true), (3, false), (4, false), (5, true), (6, true), (7, true), (8, true), (9, true)] (by kernel_rfl) (by kernel_rfl) ?_
  refine yS (by kernel_rfl : opAt F8.o4 0 = some (some 26, .move (.tmp 1), none)) rfl rfl (fun w' hS => val_move rfl) ?_
  refine aS (by kernel_rfl : opAt F8.o4 1 = some (some 27, .buildSlice 28 1 #[(0, (.tmp 26))], none)) rfl rfl (a_buildSlice (ys := ([awA] : List (List Block))) (e := 39) (bytes := 24) hF (by kernel_rfl) rfl (by decide) (by decide) ⟨rfl, ⟨_, rfl, ha⟩, trivial⟩) ?_
  rintro v27 w8 ⟨hs, g27, hF⟩
  refine ⟨trivial, ?_⟩
  replace hT := hT.trans hs (by simp)
  replace g9 := g9.st hs (by first | decide | (simp <;> omega))
  replace g11 := g11.st hs (by first | decide | (simp <;> omega))
  replace ha := ha.st hs (by first | decide | (simp <;> omega))
  replace g14 := g14.st hs (by first | decide | (simp <;> omega))
  replace g16 := g16.st hs (by first | decide | (simp <;> omega))
  replace hb := hb.st hs (by first | decide | (simp <;> omega))
  refine yS (by kernel_rfl : opAt F8.o4 2 = some (some 28, .move (.tmp 2), none)) rfl rfl (fun w' hS => val_move rfl) ?_
  refine aS (by kernel_rfl : opAt F8.o4 3 = some (some 29, .buildSlice 28 1 #[(0, (.tmp 28))], none)) rfl rfl (a_buildSlice (ys := ([awB] : List (List Block))) (e := 39) (bytes := 24) hF (by kernel_rfl) rfl (by decide) (by decide) ⟨rfl, ⟨_, rfl, hb⟩, trivial⟩) ?_
  rintro v29 w9 ⟨hs, g29, hF⟩
  refine ⟨trivial, ?_⟩
  replace hT := hT.trans hs (by simp)
  replace g9 := g9.st hs (by first | decide | (simp <;> omega))
  replace g11 := g11.st hs (by first | decide | (simp <;> omega))
  replace ha := ha.st hs (by first | decide | (simp <;> omega))
  replace g14 := g14.st hs (by first | decide | (simp <;> omega))
  replace g16 := g16.st hs (by first | decide | (simp <;> omega))
  replace hb := hb.st hs (by first | decide | (simp <;> omega))
  replace g27 := g27.st hs (by first | decide | (simp <;> omega))
  refine cS (by kernel_rfl : opAt F8.o4 4 = some (some 30, .call { callee := .value (.func 13), args := #[(.tmp 27), (.tmp 29), (.const (.int .i64 1))], argTypes := #[28, 28, 3] }, none)) rfl rfl (ent Try.call13 rfl) (list_ok (a := [awA]) (b := [awB]) hF g27 g29 (by intro x hx; rw [List.mem_singleton] at hx; subst hx; decide) (by intro x hx; rw [List.mem_singleton] at hx; subst hx; decide)) ?_
  rintro vw10 w10 ⟨ul, hv, hs, hl⟩
  refine ⟨trivial, ?_⟩
  replace hF := hF.st hs
  replace hT := hT.trans hs (by simp)
  replace g9 := g9.st hs (by first | decide | (simp <;> omega))
  replace g11 := g11.st hs (by first | decide | (simp <;> omega))
  replace ha := ha.st hs (by first | decide | (simp <;> omega))
  replace g14 := g14.st hs (by first | decide | (simp <;> omega))
  replace g16 := g16.st hs (by first | decide | (simp <;> omega))
  replace hb := hb.st hs (by first | decide | (simp <;> omega))
  replace g27 := g27.st hs (by first | decide | (simp <;> omega))
  replace g29 := g29.st hs (by first | decide | (simp <;> omega))
  rw [if_neg (by rw [aw_checkM]; decide), show (1 : Int).toNat = 1 from rfl, aw_list] at hl
  rw [aw_checkM] at hv
  subst hv
  refine yS (by kernel_rfl : opAt F8.o4 5 = some (some 25, .move (.tmp 30), none)) rfl rfl (fun w' hS => val_move rfl) ?_
  refine yS (by kernel_rfl : opAt F8.o4 6 = some (some 31, .extract (.tmp 25) 0, none)) rfl rfl (fun w' hS => val_extract rfl rfl) ?_
  refine yS (by kernel_rfl : opAt F8.o4 7 = some (some 32, .extract (.tmp 25) 1, none)) rfl rfl (fun w' hS => val_extract rfl rfl) ?_
  refine yS (by kernel_rfl : opAt F8.o4 8 = some (some 5, .assign (.tmp 31), none)) rfl rfl (fun w' hS => val_assign rfl) ?_
  refine yS (by kernel_rfl : opAt F8.o4 9 = some (some 6, .assign (.tmp 32), none)) rfl rfl (fun w' hS => val_assign rfl) ?_
  refine Sch.nil ?_
  refine run_seq (x := F8.c11) (y := F8.c12) (by kernel_rfl) ?_
  refine run_plain (id := 5) (ops := F8.o5) [(0, true), (1, false), (2, true), (3, false), (4, false), (5, true), (6, true), (7, true), (8, true), (9, true)] (by kernel_rfl) (by kernel_rfl) ?_
  refine yS (by kernel_rfl : opAt F8.o5 0 = some (some 34, .move (.tmp 1), none)) rfl rfl (fun w' hS => val_move rfl) ?_
  refine aS (by kernel_rfl : opAt F8.o5 1 = some (some 35, .buildSlice 28 1 #[(0, (.tmp 34))], none)) rfl rfl (a_buildSlice (ys := ([awA] : List (List Block))) (e := 39) (bytes := 24) hF (by kernel_rfl) rfl (by decide) (by decide) ⟨rfl, ⟨_, rfl, ha⟩, trivial⟩) ?_
  rintro v35 w11 ⟨hs, g35, hF⟩
  refine ⟨trivial, ?_⟩
  replace hT := hT.trans hs (by simp)
  replace g9 := g9.st hs (by first | decide | (simp <;> omega))
  replace g11 := g11.st hs (by first | decide | (simp <;> omega))
  replace ha := ha.st hs (by first | decide | (simp <;> omega))
  replace g14 := g14.st hs (by first | decide | (simp <;> omega))
  replace g16 := g16.st hs (by first | decide | (simp <;> omega))
  replace hb := hb.st hs (by first | decide | (simp <;> omega))
  replace g27 := g27.st hs (by first | decide | (simp <;> omega))
  replace g29 := g29.st hs (by first | decide | (simp <;> omega))
  replace hl := hl.st hs (by first | decide | (simp <;> omega))
  refine yS (by kernel_rfl : opAt F8.o5 2 = some (some 36, .move (.tmp 2), none)) rfl rfl (fun w' hS => val_move rfl) ?_
  refine aS (by kernel_rfl : opAt F8.o5 3 = some (some 37, .buildSlice 28 1 #[(0, (.tmp 36))], none)) rfl rfl (a_buildSlice (ys := ([awB] : List (List Block))) (e := 39) (bytes := 24) hF (by kernel_rfl) rfl (by decide) (by decide) ⟨rfl, ⟨_, rfl, hb⟩, trivial⟩) ?_
  rintro v37 w12 ⟨hs, g37, hF⟩
  refine ⟨trivial, ?_⟩
  replace hT := hT.trans hs (by simp)
  replace g9 := g9.st hs (by first | decide | (simp <;> omega))
  replace g11 := g11.st hs (by first | decide | (simp <;> omega))
  replace ha := ha.st hs (by first | decide | (simp <;> omega))
  replace g14 := g14.st hs (by first | decide | (simp <;> omega))
  replace g16 := g16.st hs (by first | decide | (simp <;> omega))
  replace hb := hb.st hs (by first | decide | (simp <;> omega))
  replace g27 := g27.st hs (by first | decide | (simp <;> omega))
  replace g29 := g29.st hs (by first | decide | (simp <;> omega))
  replace hl := hl.st hs (by first | decide | (simp <;> omega))
  replace g35 := g35.st hs (by first | decide | (simp <;> omega))
  refine cS (by kernel_rfl : opAt F8.o5 4 = some (some 38, .call { callee := .value (.func 14), args := #[(.tmp 35), (.tmp 37), (.const (.int .i64 1))], argTypes := #[28, 28, 3] }, none)) rfl rfl (ent Try.call14 rfl) (union_ok (a := [awA]) (b := [awB]) hF g35 g37 (by intro x hx; rw [List.mem_singleton] at hx; subst hx; decide) (by intro x hx; rw [List.mem_singleton] at hx; subst hx; decide)) ?_
  rintro vw13 w13 ⟨hv, hs⟩
  refine ⟨trivial, ?_⟩
  replace hF := hF.st hs
  replace hT := hT.trans hs (by simp)
  replace g9 := g9.st hs (by first | decide | (simp <;> omega))
  replace g11 := g11.st hs (by first | decide | (simp <;> omega))
  replace ha := ha.st hs (by first | decide | (simp <;> omega))
  replace g14 := g14.st hs (by first | decide | (simp <;> omega))
  replace g16 := g16.st hs (by first | decide | (simp <;> omega))
  replace hb := hb.st hs (by first | decide | (simp <;> omega))
  replace g27 := g27.st hs (by first | decide | (simp <;> omega))
  replace g29 := g29.st hs (by first | decide | (simp <;> omega))
  replace hl := hl.st hs (by first | decide | (simp <;> omega))
  replace g35 := g35.st hs (by first | decide | (simp <;> omega))
  replace g37 := g37.st hs (by first | decide | (simp <;> omega))
  rw [aw_checkM, if_neg (by decide), show (1 : Int).toNat = 1 from rfl, aw_list] at hv
  subst hv
  refine yS (by kernel_rfl : opAt F8.o5 5 = some (some 33, .move (.tmp 38), none)) rfl rfl (fun w' hS => val_move rfl) ?_
  refine yS (by kernel_rfl : opAt F8.o5 6 = some (some 39, .extract (.tmp 33) 0, none)) rfl rfl (fun w' hS => val_extract rfl rfl) ?_
  refine yS (by kernel_rfl : opAt F8.o5 7 = some (some 40, .extract (.tmp 33) 1, none)) rfl rfl (fun w' hS => val_extract rfl rfl) ?_
  refine yS (by kernel_rfl : opAt F8.o5 8 = some (some 7, .assign (.tmp 39), none)) rfl rfl (fun w' hS => val_assign rfl) ?_
  refine yS (by kernel_rfl : opAt F8.o5 9 = some (some 8, .assign (.tmp 40), none)) rfl rfl (fun w' hS => val_assign rfl) ?_
  refine Sch.nil ?_
  refine run_seq (x := F8.c13) (y := F8.c14) (by kernel_rfl) ?_
  refine run_plain (id := 6) (ops := F8.o6) [(0, true), (1, true), (2, true), (3, true), (4, true), (5, true), (6, true), (7, true), (8, true), (9, true), (10, true), (11, true), (12, true), (13, true), (14, true), (15, true), (16, true), (17, true), (18, true), (19, true), (20, true), (21, true), (22, true), (23, true), (24, true), (25, true), (26, false), (27, true), (28, true), (29, true), (30, true), (31, true), (32, false), (33, true), (34, true), (35, true)] (by kernel_rfl) (by kernel_rfl) ?_
  refine yS (by kernel_rfl : opAt F8.o6 0 = some (some 41, .move (.tmp 4), none)) rfl rfl (fun w' hS => val_move rfl) ?_
  refine yS (by kernel_rfl : opAt F8.o6 1 = some (some 42, .binOp .eql 31 (.tmp 41) (.const (.int .i64 0)) 31, none)) rfl rfl (fun w' hS => val_T (val_eql rfl rfl) rfl) ?_
  refine yS (by kernel_rfl : opAt F8.o6 2 = some (some 43, .move (.tmp 42), none)) rfl rfl (fun w' hS => val_move rfl) ?_
  refine yS (by kernel_rfl : opAt F8.o6 3 = some (some 44, .move (.tmp 6), (some (2, true)))) rfl rfl (fun w' hS => val_move rfl) ?_
  refine yS (by kernel_rfl : opAt F8.o6 4 = some (some 45, .binOp .eql 31 (.tmp 44) (.const (.int .i64 0)) 31, (some (2, true)))) rfl rfl (fun w' hS => val_T (val_eql rfl rfl) rfl) ?_
  refine yS (by kernel_rfl : opAt F8.o6 5 = some (some 46, .pick (.tmp 43) (.tmp 45) (.const (.bool false)), none)) rfl rfl (fun w' hS => val_pick_t rfl rfl) ?_
  refine yS (by kernel_rfl : opAt F8.o6 6 = some (some 47, .move (.tmp 46), none)) rfl rfl (fun w' hS => val_move rfl) ?_
  refine yS (by kernel_rfl : opAt F8.o6 7 = some (some 48, .move (.tmp 8), (some (6, true)))) rfl rfl (fun w' hS => val_move rfl) ?_
  refine yS (by kernel_rfl : opAt F8.o6 8 = some (some 49, .binOp .eql 31 (.tmp 48) (.const (.int .i64 0)) 31, (some (6, true)))) rfl rfl (fun w' hS => val_T (val_eql rfl rfl) rfl) ?_
  refine yS (by kernel_rfl : opAt F8.o6 9 = some (some 50, .pick (.tmp 47) (.tmp 49) (.const (.bool false)), none)) rfl rfl (fun w' hS => val_pick_t rfl rfl) ?_
  refine yS (by kernel_rfl : opAt F8.o6 10 = some (some 51, .move (.tmp 50), none)) rfl rfl (fun w' hS => val_move rfl) ?_
  refine yS (by kernel_rfl : opAt F8.o6 11 = some (some 52, .move (.tmp 3), (some (10, true)))) rfl rfl (fun w' hS => val_move rfl) ?_
  refine yS (by kernel_rfl : opAt F8.o6 12 = some (some 53, .binOp .eql 3 (.tmp 52) (.const (.int .i64 6)) 3, (some (10, true)))) rfl rfl (fun w' hS => val_T (val_eql rfl rfl) rfl) ?_
  refine yS (by kernel_rfl : opAt F8.o6 13 = some (some 54, .pick (.tmp 51) (.tmp 53) (.const (.bool false)), none)) rfl rfl (fun w' hS => val_pick_t rfl rfl) ?_
  refine yS (by kernel_rfl : opAt F8.o6 14 = some (some 55, .move (.tmp 54), none)) rfl rfl (fun w' hS => val_move rfl) ?_
  refine yS (by kernel_rfl : opAt F8.o6 15 = some (some 56, .move (.tmp 7), (some (14, true)))) rfl rfl (fun w' hS => val_move rfl) ?_
  refine yS (by kernel_rfl : opAt F8.o6 16 = some (some 57, .binOp .eql 3 (.tmp 56) (.const (.int .i64 6)) 3, (some (14, true)))) rfl rfl (fun w' hS => val_T (val_eql rfl rfl) rfl) ?_
  refine yS (by kernel_rfl : opAt F8.o6 17 = some (some 58, .pick (.tmp 55) (.tmp 57) (.const (.bool false)), none)) rfl rfl (fun w' hS => val_pick_t rfl rfl) ?_
  refine yS (by kernel_rfl : opAt F8.o6 18 = some (some 59, .move (.tmp 58), none)) rfl rfl (fun w' hS => val_move rfl) ?_
  refine yS (by kernel_rfl : opAt F8.o6 19 = some (some 60, .move (.tmp 5), (some (18, true)))) rfl rfl (fun w' hS => val_move rfl) ?_
  refine yS (by kernel_rfl : opAt F8.o6 20 = some (some 61, .call { callee := .builtin .len, args := #[(.tmp 60)], argTypes := #[30] }, (some (18, true)))) rfl rfl (fun w' hS => hl.lenV rfl Try.underlying30 w' ) ?_
  refine yS (by kernel_rfl : opAt F8.o6 21 = some (some 62, .binOp .eql 3 (.tmp 61) (.const (.int .i64 6)) 3, (some (18, true)))) rfl rfl (fun w' hS => val_T (val_eql rfl rfl) rfl) ?_
  refine yS (by kernel_rfl : opAt F8.o6 22 = some (some 63, .pick (.tmp 59) (.tmp 62) (.const (.bool false)), none)) rfl rfl (fun w' hS => val_pick_t rfl rfl) ?_
  refine yS (by kernel_rfl : opAt F8.o6 23 = some (some 64, .move (.tmp 63), none)) rfl rfl (fun w' hS => val_move rfl) ?_
  refine yS (by kernel_rfl : opAt F8.o6 24 = some (some 65, .move (.tmp 5), (some (23, true)))) rfl rfl (fun w' hS => val_move rfl) ?_
  have h6l : ([⟨1, 1⟩, ⟨1, 2⟩, ⟨1, 9⟩, ⟨2, 1⟩, ⟨2, 2⟩, ⟨2, 9⟩] : List Couple).length = 6 := rfl
  refine iS (e := 37) (by kernel_rfl : opAt F8.o6 25 = some (some 66, .indexAddr 30 (.tmp 65) (.const (.int .i64 5)), (some (23, true)))) rfl rfl hl rfl (by kernel_rfl) rfl (by omega) (by omega) ?_
  intro b66 o66 h66
  try simp only [Int.toNat_natCast] at h66
  refine lNA (by kernel_rfl : opAt F8.o6 26 = some (some 67, .load 37 (.tmp 66), (some (23, true)))) rfl rfl trivial h66 (by kernel_rfl) (by kernel_rfl) rfl rfl ?_
  intro v67 g67
  obtain rfl := rv_couple.1 g67
  refine yS (by kernel_rfl : opAt F8.o6 27 = some (some 68, .build 37 #[(0, (.const (.int .i64 2))), (1, (.const (.int .i64 9)))], (some (23, true)))) rfl rfl (fun w' hS => val_build (zs := [.int .i64 0, .int .i64 0]) (ps := [(0, 1), (1, 1)]) (qs := [(0, [.int .i64 2]), (1, [.int .i64 9])]) (cs := [.int .i64 2, .int .i64 9]) (by kernel_rfl) (by kernel_rfl) (by exact ⟨rfl, ⟨_, rfl, rfl⟩, rfl, ⟨_, rfl, rfl⟩, trivial⟩) rfl) ?_
  refine yS (by kernel_rfl : opAt F8.o6 28 = some (some 69, .binOp .eql 37 (.tmp 67) (.tmp 68) 37, (some (23, true)))) rfl rfl (fun w' hS => val_T (val_eqC (a := ⟨2, 9⟩) (b := ⟨2, 9⟩) Try.underlying37 (by decide) (by decide) (by kernel_rfl) Try.underlying3 rfl rfl) rfl) ?_
  refine yS (by kernel_rfl : opAt F8.o6 29 = some (some 70, .pick (.tmp 64) (.tmp 69) (.const (.bool false)), none)) rfl rfl (fun w' hS => val_pick_t rfl rfl) ?_
  refine yS (by kernel_rfl : opAt F8.o6 30 = some (some 71, .move (.tmp 70), none)) rfl rfl (fun w' hS => val_move rfl) ?_
  refine yS (by kernel_rfl : opAt F8.o6 31 = some (some 72, .move (.tmp 1), (some (30, true)))) rfl rfl (fun w' hS => val_move rfl) ?_
  refine cS (by kernel_rfl : opAt F8.o6 32 = some (some 73, .call { callee := .value (.func 21), args := #[(.tmp 72)], argTypes := #[39] }, (some (30, true)))) rfl rfl (ent Try.call21 rfl) (check_ok hF ha (by decide)) ?_
  rintro vw14 w14 ⟨hv, hs⟩
  refine ⟨trivial, ?_⟩
  replace hF := hF.st hs
  replace hT := hT.trans hs (by simp)
  replace g9 := g9.st hs (by first | decide | (simp <;> omega))
  replace g11 := g11.st hs (by first | decide | (simp <;> omega))
  replace ha := ha.st hs (by first | decide | (simp <;> omega))
  replace g14 := g14.st hs (by first | decide | (simp <;> omega))
  replace g16 := g16.st hs (by first | decide | (simp <;> omega))
  replace hb := hb.st hs (by first | decide | (simp <;> omega))
  replace g27 := g27.st hs (by first | decide | (simp <;> omega))
  replace g29 := g29.st hs (by first | decide | (simp <;> omega))
  replace hl := hl.st hs (by first | decide | (simp <;> omega))
  replace g35 := g35.st hs (by first | decide | (simp <;> omega))
  replace g37 := g37.st hs (by first | decide | (simp <;> omega))
  replace h66 := h66.st hs (by first | decide | (simp <;> omega))
  rw [awA_check] at hv
  subst hv
  refine yS (by kernel_rfl : opAt F8.o6 33 = some (some 74, .binOp .eql 31 (.tmp 73) (.const (.int .i64 0)) 31, (some (30, true)))) rfl rfl (fun w' hS => val_T (val_eql rfl rfl) rfl) ?_
  refine yS (by kernel_rfl : opAt F8.o6 34 = some (some 75, .pick (.tmp 71) (.tmp 74) (.const (.bool false)), none)) rfl rfl (fun w' hS => val_pick_t rfl rfl) ?_
  refine yS (by kernel_rfl : opAt F8.o6 35 = some (some 0, .assign (.tmp 75), none)) rfl rfl (fun w' hS => val_assign rfl) ?_
  refine Sch.nil ?_
  refine run_ret1 (by kernel_rfl) Try.func8 Try.results8 rfl ?_
  exact ⟨rfl, hT.out1 (by decide)⟩
end Go.Proofs.Ytejbklahkkjmhaa
