/- Steps through functions of the program. -/
import Derived.Test.YtpmokjccfaakfaaKQD
set_option linter.unusedVariables false
set_option linter.unusedSimpArgs false
set_option maxRecDepth 100000
set_option maxHeartbeats 400000
namespace Go.Proofs.Ytpmokjccfaakfaa
open Go.K Go.K.Rep

namespace F9
noncomputable def c0 : Code := bodyOf Try.f9
noncomputable def c1 : Code := cl c0
noncomputable def o0 : Array Oper := rops c1
noncomputable def c2 : Code := cr c0
noncomputable def c3 : Code := cl c2
noncomputable def o1 : Array Oper := rops c3
noncomputable def c4 : Code := cr c2
noncomputable def c5 : Code := cl c4
noncomputable def o2 : Array Oper := rops c5
noncomputable def c6 : Code := cr c4
noncomputable def c7 : Code := cl c6
noncomputable def o3 : Array Oper := rops c7
noncomputable def c8 : Code := cr c6
noncomputable def c9 : Code := cl c8
noncomputable def o4 : Array Oper := rops c9
noncomputable def c10 : Code := cr c8
end F9
/-- The sanity check. -/
theorem awake_ok {w₀ : World} {C : Nat → Nat} (hF : Lim w₀ C) : Calls Try.prog 9 #[] w₀ (Ret fun v w' => v = .bool true ∧ Stp [] w₀ C w' C) := by
  have hF0 := hF
  have hT := Stp.refl [2, 3, 4, 5, 6, 7, 8, 9] w₀ (col1 C)
  replace hF := hF.col1
  refine calls_start (c := F9.c0) (N := 56) [] Try.func9 (by kernel_rfl) (by kernel_rfl) (by kernel_rfl) ?_
  show Run _ _ _ _ [] _ _
  refine run_seq (x := F9.c1) (y := F9.c2) (by kernel_rfl) ?_
  refine run_plain (id := 0) (ops := F9.o0) [(0, true)] (by kernel_rfl) (by kernel_rfl) ?_
  refine yS (by kernel_rfl : opAt F9.o0 0 = some (some 0, .assign (.const (.bool false)), none)) rfl rfl (fun w' hS => val_assign rfl) ?_
  refine Sch.nil ?_
  refine run_seq (x := F9.c3) (y := F9.c4) (by kernel_rfl) ?_
  refine run_plain (id := 1) (ops := F9.o1) [(0, true), (1, true), (2, false), (3, true), (4, false), (5, true)] (by kernel_rfl) (by kernel_rfl) ?_
  refine yS (by kernel_rfl : opAt F9.o1 0 = some (some 6, .build 50 #[(0, (.const (.int .i64 0))), (1, (.const (.int .i64 1)))], none)) rfl rfl (fun w' hS => val_build (zs := [.int .i64 0, .int .i64 0]) (ps := [(0, 1), (1, 1)]) (qs := [(0, [.int .i64 0]), (1, [.int .i64 1])]) (cs := [.int .i64 0, .int .i64 1]) (by kernel_rfl) (by kernel_rfl) ⟨rfl, ⟨_, rfl, rfl⟩, rfl, ⟨_, rfl, rfl⟩, trivial⟩ rfl) ?_
  refine yS (by kernel_rfl : opAt F9.o1 1 = some (some 7, .build 50 #[(0, (.const (.int .i64 1))), (1, (.const (.int .i64 1)))], none)) rfl rfl (fun w' hS => val_build (zs := [.int .i64 0, .int .i64 0]) (ps := [(0, 1), (1, 1)]) (qs := [(0, [.int .i64 1]), (1, [.int .i64 1])]) (cs := [.int .i64 1, .int .i64 1]) (by kernel_rfl) (by kernel_rfl) ⟨rfl, ⟨_, rfl, rfl⟩, rfl, ⟨_, rfl, rfl⟩, trivial⟩ rfl) ?_
  refine aS (by kernel_rfl : opAt F9.o1 2 = some (some 8, .buildSlice 26 2 #[(0, (.tmp 6)), (1, (.tmp 7))], none)) rfl rfl (a_buildSlice (ys := ([⟨0, 1⟩, ⟨1, 1⟩] : List Couple)) (e := 50) (bytes := 16) hF (by kernel_rfl) rfl (by decide) (by decide) ⟨rfl, ⟨_, rfl, rv_couple.2 rfl⟩, rfl, ⟨_, rfl, rv_couple.2 rfl⟩, trivial⟩) ?_
  rintro v8 w1 ⟨hs, g8, hF⟩
  refine ⟨trivial, ?_⟩
  replace hT := hT.trans hs (by simp)
  refine yS (by kernel_rfl : opAt F9.o1 3 = some (some 9, .build 28 #[(0, (.tmp 8))], none)) rfl rfl (fun w' hS => val_build (zs := [.slice none 0 0]) (ps := [(0, 1)]) (qs := [(0, [v8])]) (cs := [v8]) (by kernel_rfl) (by kernel_rfl) ⟨rfl, ⟨_, rfl, (g8.one rfl).1⟩, trivial⟩ rfl) ?_
  refine aS (by kernel_rfl : opAt F9.o1 4 = some (some 10, .buildSlice 23 1 #[(0, (.tmp 9))], none)) rfl rfl (a_buildSlice (ys := awK) (e := 28) (bytes := 24) hF (by kernel_rfl) rfl (by decide) (by decide) ⟨rfl, ⟨_, rfl, rv_key g8⟩, trivial⟩) ?_
  rintro v10 w2 ⟨hs, g10, hF⟩
  refine ⟨trivial, ?_⟩
  replace hT := hT.trans hs (by simp)
  replace g8 := g8.st hs (by first | decide | (simp <;> omega))
  refine yS (by kernel_rfl : opAt F9.o1 5 = some (some 1, .assign (.tmp 10), none)) rfl rfl (fun w' hS => val_assign rfl) ?_
  refine Sch.nil ?_
  refine run_seq (x := F9.c5) (y := F9.c6) (by kernel_rfl) ?_
  refine run_plain (id := 2) (ops := F9.o2) [(0, true), (1, false), (2, false), (3, true), (4, true), (5, true), (6, true), (7, true)] (by kernel_rfl) (by kernel_rfl) ?_
  refine yS (by kernel_rfl : opAt F9.o2 0 = some (some 12, .move (.tmp 1), none)) rfl rfl (fun w' hS => val_move rfl) ?_
  refine aS (by kernel_rfl : opAt F9.o2 1 = some (some 13, .buildSlice 22 2 #[(0, (.const (.int .i64 32))), (1, (.const (.int .i64 32)))], none)) rfl rfl (a_buildSlice (ys := ([32, 32] : List Int)) (e := 3) (bytes := 8) hF (by kernel_rfl) rfl (by decide) (by decide) ⟨rfl, ⟨_, rfl, rv_int.2 rfl⟩, rfl, ⟨_, rfl, rv_int.2 rfl⟩, trivial⟩) ?_
  rintro v13 w3 ⟨hs, g13, hF⟩
  refine ⟨trivial, ?_⟩
  replace hT := hT.trans hs (by simp)
  replace g8 := g8.st hs (by first | decide | (simp <;> omega))
  replace g10 := g10.st hs (by first | decide | (simp <;> omega))
  refine cS (by kernel_rfl : opAt F9.o2 2 = some (some 14, .call { callee := .value (.func 20), args := #[(.tmp 12), (.tmp 13), (.const (.int .i64 1))], argTypes := #[23, 22, 3] }, none)) rfl rfl (ent Try.call20 rfl) (missed_ok hF g10 g13 awK_sm) ?_
  rintro vw4 w4 ⟨rfl, hs⟩
  refine ⟨trivial, ?_⟩
  replace hF := hF.st hs
  replace hT := hT.trans hs (by simp)
  replace g8 := g8.st hs (by first | decide | (simp <;> omega))
  replace g10 := g10.st hs (by first | decide | (simp <;> omega))
  replace g13 := g13.st hs (by first | decide | (simp <;> omega))
  rw [aw_miss]
  refine yS (by kernel_rfl : opAt F9.o2 3 = some (some 11, .move (.tmp 14), none)) rfl rfl (fun w' hS => val_move rfl) ?_
  refine yS (by kernel_rfl : opAt F9.o2 4 = some (some 15, .extract (.tmp 11) 0, none)) rfl rfl (fun w' hS => val_extract rfl rfl) ?_
  refine yS (by kernel_rfl : opAt F9.o2 5 = some (some 16, .extract (.tmp 11) 1, none)) rfl rfl (fun w' hS => val_extract rfl rfl) ?_
  refine yS (by kernel_rfl : opAt F9.o2 6 = some (some 2, .assign (.tmp 15), none)) rfl rfl (fun w' hS => val_assign rfl) ?_
  refine yS (by kernel_rfl : opAt F9.o2 7 = some (some 3, .assign (.tmp 16), none)) rfl rfl (fun w' hS => val_assign rfl) ?_
  refine Sch.nil ?_
  refine run_seq (x := F9.c7) (y := F9.c8) (by kernel_rfl) ?_
  refine run_plain (id := 3) (ops := F9.o3) [(0, true), (1, false), (2, false), (3, false), (4, true), (5, true), (6, true), (7, false), (8, false), (9, true)] (by kernel_rfl) (by kernel_rfl) ?_
  refine yS (by kernel_rfl : opAt F9.o3 0 = some (some 18, .move (.tmp 1), none)) rfl rfl (fun w' hS => val_move rfl) ?_
  refine aS (by kernel_rfl : opAt F9.o3 1 = some (some 19, .buildSlice 22 2 #[(0, (.const (.int .i64 32))), (1, (.const (.int .i64 32)))], none)) rfl rfl (a_buildSlice (ys := ([32, 32] : List Int)) (e := 3) (bytes := 8) hF (by kernel_rfl) rfl (by decide) (by decide) ⟨rfl, ⟨_, rfl, rv_int.2 rfl⟩, rfl, ⟨_, rfl, rv_int.2 rfl⟩, trivial⟩) ?_
  rintro v19 w5 ⟨hs, g19, hF⟩
  refine ⟨trivial, ?_⟩
  replace hT := hT.trans hs (by simp)
  replace g8 := g8.st hs (by first | decide | (simp <;> omega))
  replace g10 := g10.st hs (by first | decide | (simp <;> omega))
  replace g13 := g13.st hs (by first | decide | (simp <;> omega))
  refine aS (by kernel_rfl : opAt F9.o3 2 = some (some 20, .buildSlice 22 2 #[(0, (.const (.int .i64 0))), (1, (.const (.int .i64 9)))], none)) rfl rfl (a_buildSlice (ys := ([0, 9] : List Int)) (e := 3) (bytes := 8) hF (by kernel_rfl) rfl (by decide) (by decide) ⟨rfl, ⟨_, rfl, rv_int.2 rfl⟩, rfl, ⟨_, rfl, rv_int.2 rfl⟩, trivial⟩) ?_
  rintro v20 w6 ⟨hs, g20, hF⟩
  refine ⟨trivial, ?_⟩
  replace hT := hT.trans hs (by simp)
  replace g8 := g8.st hs (by first | decide | (simp <;> omega))
  replace g10 := g10.st hs (by first | decide | (simp <;> omega))
  replace g13 := g13.st hs (by first | decide | (simp <;> omega))
  replace g19 := g19.st hs (by first | decide | (simp <;> omega))
  refine cS (by kernel_rfl : opAt F9.o3 3 = some (some 21, .call { callee := .value (.func 23), args := #[(.tmp 18), (.tmp 19), (.tmp 20), (.const (.int .i64 10))], argTypes := #[23, 22, 22, 3] }, none)) rfl rfl (ent Try.call23 rfl) (choose_ok hF g10 g19 g20 awK_sm) ?_
  rintro vw7 w7 ⟨up, rfl, hs, hup⟩
  refine ⟨trivial, ?_⟩
  replace hF := hF.st hs
  replace hT := hT.trans hs (by simp)
  replace g8 := g8.st hs (by first | decide | (simp <;> omega))
  replace g10 := g10.st hs (by first | decide | (simp <;> omega))
  replace g13 := g13.st hs (by first | decide | (simp <;> omega))
  replace g19 := g19.st hs (by first | decide | (simp <;> omega))
  replace g20 := g20.st hs (by first | decide | (simp <;> omega))
  rw [aw_choose] at hup
  rw [aw_choose]
  refine yS (by kernel_rfl : opAt F9.o3 4 = some (some 17, .move (.tmp 21), none)) rfl rfl (fun w' hS => val_move rfl) ?_
  refine yS (by kernel_rfl : opAt F9.o3 5 = some (some 22, .extract (.tmp 17) 0, none)) rfl rfl (fun w' hS => val_extract rfl rfl) ?_
  refine yS (by kernel_rfl : opAt F9.o3 6 = some (some 23, .extract (.tmp 17) 1, none)) rfl rfl (fun w' hS => val_extract rfl rfl) ?_
  refine aS (by kernel_rfl : opAt F9.o3 7 = some (some 4, .alloc 44, none)) rfl rfl (a_alloc (cs := [.slice none 0 0, .int .i64 0, .int .i64 0]) hF 3 (by kernel_rfl)) ?_
  rintro _ w8 ⟨Cw8, bw8, rfl, hs, hp, hF⟩
  refine ⟨trivial, ?_⟩
  replace hT := hT.trans hs (by simp)
  replace g8 := g8.st hs (by first | decide | (simp <;> omega))
  replace g10 := g10.st hs (by first | decide | (simp <;> omega))
  replace g13 := g13.st hs (by first | decide | (simp <;> omega))
  replace g19 := g19.st hs (by first | decide | (simp <;> omega))
  replace g20 := g20.st hs (by first | decide | (simp <;> omega))
  replace hup := hup.st hs (by first | decide | (simp <;> omega))
  refine aN (by kernel_rfl : opAt F9.o3 8 = some (none, .store 44 (.tmp 4) (.tmp 22), none)) rfl (a_storeAll (vs := [up, .int .i64 9, .int .i64 3072]) (n := 3) rfl rfl (by kernel_rfl) rfl rfl (by intro u hu; simp only [List.mem_cons, List.not_mem_nil, or_false] at hu; rcases hu with rfl | rfl | rfl <;> first | rfl | exact (hup.one rfl).2) hp rfl) ?_
  rintro _ w9 ⟨rfl, hs, hp⟩
  refine ⟨trivial, ?_⟩
  replace hF := hF.st hs
  replace hT := hT.trans hs (by simp)
  replace g8 := g8.st hs (by first | decide | (simp <;> omega))
  replace g10 := g10.st hs (by first | decide | (simp <;> omega))
  replace g13 := g13.st hs (by first | decide | (simp <;> omega))
  replace g19 := g19.st hs (by first | decide | (simp <;> omega))
  replace g20 := g20.st hs (by first | decide | (simp <;> omega))
  replace hup := hup.st hs (by first | decide | (simp <;> omega))
  refine yS (by kernel_rfl : opAt F9.o3 9 = some (some 5, .assign (.tmp 23), none)) rfl rfl (fun w' hS => val_assign rfl) ?_
  refine Sch.nil ?_
  refine run_seq (x := F9.c9) (y := F9.c10) (by kernel_rfl) ?_
  refine run_plain (id := 4) (ops := F9.o4) [(0, true), (1, true), (2, true), (3, true), (4, true), (5, true), (6, true), (7, true), (8, true), (9, true), (10, true), (11, true), (12, false), (13, true), (14, true), (15, true), (16, true), (17, true), (18, false), (19, true), (20, true), (21, true), (22, true), (23, true), (24, false), (25, true), (26, true), (27, true), (28, true), (29, false), (30, true), (31, true), (32, true)] (by kernel_rfl) (by kernel_rfl) ?_
  refine yS (by kernel_rfl : opAt F9.o4 0 = some (some 24, .move (.tmp 3), none)) rfl rfl (fun w' hS => val_move rfl) ?_
  refine yS (by kernel_rfl : opAt F9.o4 1 = some (some 25, .binOp .eql 37 (.tmp 24) (.const (.int .i64 0)) 37, none)) rfl rfl (fun w' hS => val_T (val_eql rfl rfl) rfl) ?_
  refine yS (by kernel_rfl : opAt F9.o4 2 = some (some 26, .move (.tmp 25), none)) rfl rfl (fun w' hS => val_move rfl) ?_
  refine yS (by kernel_rfl : opAt F9.o4 3 = some (some 27, .move (.tmp 5), (some (2, true)))) rfl rfl (fun w' hS => val_move rfl) ?_
  refine yS (by kernel_rfl : opAt F9.o4 4 = some (some 28, .binOp .eql 37 (.tmp 27) (.const (.int .i64 0)) 37, (some (2, true)))) rfl rfl (fun w' hS => val_T (val_eql rfl rfl) rfl) ?_
  refine yS (by kernel_rfl : opAt F9.o4 5 = some (some 29, .pick (.tmp 26) (.tmp 28) (.const (.bool false)), none)) rfl rfl (fun w' hS => val_pick_t rfl rfl) ?_
  refine yS (by kernel_rfl : opAt F9.o4 6 = some (some 30, .move (.tmp 29), none)) rfl rfl (fun w' hS => val_move rfl) ?_
  refine yS (by kernel_rfl : opAt F9.o4 7 = some (some 31, .move (.tmp 2), (some (6, true)))) rfl rfl (fun w' hS => val_move rfl) ?_
  refine yS (by kernel_rfl : opAt F9.o4 8 = some (some 32, .binOp .eql 3 (.tmp 31) (.const (.int .i64 3072)) 3, (some (6, true)))) rfl rfl (fun w' hS => val_T (val_eql rfl rfl) rfl) ?_
  refine yS (by kernel_rfl : opAt F9.o4 9 = some (some 33, .pick (.tmp 30) (.tmp 32) (.const (.bool false)), none)) rfl rfl (fun w' hS => val_pick_t rfl rfl) ?_
  refine yS (by kernel_rfl : opAt F9.o4 10 = some (some 34, .move (.tmp 33), none)) rfl rfl (fun w' hS => val_move rfl) ?_
  refine yS (by kernel_rfl : opAt F9.o4 11 = some (some 35, .move (.tmp 1), (some (10, true)))) rfl rfl (fun w' hS => val_move rfl) ?_
  refine cS (by kernel_rfl : opAt F9.o4 12 = some (some 36, .call { callee := .value (.func 14), args := #[(.tmp 35)], argTypes := #[23] }, (some (10, true)))) rfl rfl (ent Try.call14 rfl) (atoms_ok hF g10 awK_sm) ?_
  rintro vw10 w10 ⟨hs, ha⟩
  refine ⟨trivial, ?_⟩
  replace hF := hF.st hs
  replace hT := hT.trans hs (by simp)
  replace g8 := g8.st hs (by first | decide | (simp <;> omega))
  replace g10 := g10.st hs (by first | decide | (simp <;> omega))
  replace g13 := g13.st hs (by first | decide | (simp <;> omega))
  replace g19 := g19.st hs (by first | decide | (simp <;> omega))
  replace g20 := g20.st hs (by first | decide | (simp <;> omega))
  replace hup := hup.st hs (by first | decide | (simp <;> omega))
  replace hp := hp.st hs (by first | decide | (simp <;> omega))
  refine yS (by kernel_rfl : opAt F9.o4 13 = some (some 37, .call { callee := .builtin .len, args := #[(.tmp 36)], argTypes := #[26] }, (some (10, true)))) rfl rfl (fun w' hS => ha.lenV rfl Try.underlying26 w' ) ?_
  refine yS (by kernel_rfl : opAt F9.o4 14 = some (some 38, .binOp .eql 3 (.tmp 37) (.const (.int .i64 2)) 3, (some (10, true)))) rfl rfl (fun w' hS => val_T (val_eql rfl rfl) (by rw [aw_atoms]; rfl)) ?_
  refine yS (by kernel_rfl : opAt F9.o4 15 = some (some 39, .pick (.tmp 34) (.tmp 38) (.const (.bool false)), none)) rfl rfl (fun w' hS => val_pick_t rfl rfl) ?_
  refine yS (by kernel_rfl : opAt F9.o4 16 = some (some 40, .move (.tmp 39), none)) rfl rfl (fun w' hS => val_move rfl) ?_
  refine yS (by kernel_rfl : opAt F9.o4 17 = some (some 41, .fieldAddr 44 (.tmp 4) 0, (some (16, true)))) rfl rfl (fun w' hS => val_fieldAddr (off := 0) (by kernel_rfl) rfl) ?_
  refine nS (by kernel_rfl : opAt F9.o4 18 = some (some 42, .load 22 (.tmp 41), (some (16, true)))) rfl rfl trivial (val_loadOwn hp.at_ (by kernel_rfl) rfl rfl) ?_
  refine yS (by kernel_rfl : opAt F9.o4 19 = some (some 43, .call { callee := .builtin .len, args := #[(.tmp 42)], argTypes := #[22] }, (some (16, true)))) rfl rfl (fun w' hS => hup.lenV rfl Try.underlying22 w' ) ?_
  refine yS (by kernel_rfl : opAt F9.o4 20 = some (some 44, .binOp .eql 3 (.tmp 43) (.const (.int .i64 1)) 3, (some (16, true)))) rfl rfl (fun w' hS => val_T (val_eql rfl rfl) rfl) ?_
  refine yS (by kernel_rfl : opAt F9.o4 21 = some (some 45, .pick (.tmp 40) (.tmp 44) (.const (.bool false)), none)) rfl rfl (fun w' hS => val_pick_t rfl rfl) ?_
  refine yS (by kernel_rfl : opAt F9.o4 22 = some (some 46, .move (.tmp 45), none)) rfl rfl (fun w' hS => val_move rfl) ?_
  refine yS (by kernel_rfl : opAt F9.o4 23 = some (some 47, .fieldAddr 44 (.tmp 4) 1, (some (22, true)))) rfl rfl (fun w' hS => val_fieldAddr (off := 1) (by kernel_rfl) rfl) ?_
  refine nS (by kernel_rfl : opAt F9.o4 24 = some (some 48, .load 3 (.tmp 47), (some (22, true)))) rfl rfl trivial (val_loadOwn hp.at_ (by kernel_rfl) rfl rfl) ?_
  refine yS (by kernel_rfl : opAt F9.o4 25 = some (some 49, .binOp .eql 3 (.tmp 48) (.const (.int .i64 9)) 3, (some (22, true)))) rfl rfl (fun w' hS => val_T (val_eql rfl rfl) rfl) ?_
  refine yS (by kernel_rfl : opAt F9.o4 26 = some (some 50, .pick (.tmp 46) (.tmp 49) (.const (.bool false)), none)) rfl rfl (fun w' hS => val_pick_t rfl rfl) ?_
  refine yS (by kernel_rfl : opAt F9.o4 27 = some (some 51, .move (.tmp 50), none)) rfl rfl (fun w' hS => val_move rfl) ?_
  refine yS (by kernel_rfl : opAt F9.o4 28 = some (some 52, .fieldAddr 44 (.tmp 4) 2, (some (27, true)))) rfl rfl (fun w' hS => val_fieldAddr (off := 2) (by kernel_rfl) rfl) ?_
  refine nS (by kernel_rfl : opAt F9.o4 29 = some (some 53, .load 3 (.tmp 52), (some (27, true)))) rfl rfl trivial (val_loadOwn hp.at_ (by kernel_rfl) rfl rfl) ?_
  refine yS (by kernel_rfl : opAt F9.o4 30 = some (some 54, .binOp .eql 3 (.tmp 53) (.const (.int .i64 3072)) 3, (some (27, true)))) rfl rfl (fun w' hS => val_T (val_eql rfl rfl) rfl) ?_
  refine yS (by kernel_rfl : opAt F9.o4 31 = some (some 55, .pick (.tmp 51) (.tmp 54) (.const (.bool false)), none)) rfl rfl (fun w' hS => val_pick_t rfl rfl) ?_
  refine yS (by kernel_rfl : opAt F9.o4 32 = some (some 0, .assign (.tmp 55), none)) rfl rfl (fun w' hS => val_assign rfl) ?_
  refine Sch.nil ?_
  refine run_ret1 (by kernel_rfl) Try.func9 Try.results9 rfl ?_
  exact ⟨rfl, hT.out1 (by decide)⟩
end Go.Proofs.Ytpmokjccfaakfaa

