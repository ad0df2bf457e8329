/- Steps through functions of the program. -/
import Derived.Test.YtgooehopkmbkfaaJV2
import Derived.Test.YtgooehopkmbkfaaL2
set_option linter.unusedVariables false
set_option linter.unusedSimpArgs false
set_option maxRecDepth 100000
set_option maxHeartbeats 4000000
namespace Go.Proofs.Ytgooehopkmbkfaa
open Go.K Go.K.Rep

namespace F10
noncomputable def c0 : Code := bodyOf Try.f10
noncomputable def c1 : Code := cl c0
noncomputable def o0 : Array Oper := rops c1
noncomputable def c2 : Code := cr c0
noncomputable def c3 : Code := cl c2
noncomputable def o1 : Array Oper := rops c3
noncomputable def c4 : Code := cr c2
noncomputable def c5 : Code := cl c4
noncomputable def o2 : Array Oper := rops c5
noncomputable def c6 : Code := cr c4
noncomputable def c7 : Code := cl c6
noncomputable def o3 : Array Oper := rops c7
noncomputable def c8 : Code := cr c6
noncomputable def c9 : Code := cl c8
noncomputable def o4 : Array Oper := rops c9
noncomputable def c10 : Code := cr c8
end F10
/-- 'awake'. -/
theorem awake_ok {w₀ : World} {C : Nat → Nat} (hF : Lim w₀ C) : Calls Try.prog 10 #[] w₀ (Ret fun v w' => v = .bool true ∧ Stp [] w₀ C w' C) := by
  have hF0 := hF
  have hT := Stp.refl [2, 3, 4, 5, 6, 7, 8, 9] w₀ (col1 C)
  replace hF := hF.col1
  refine calls_start (c := F10.c0) (N := 53) [] Try.func10 (by kernel_rfl) (by kernel_rfl) (by kernel_rfl) ?_
  show Run _ _ _ _ [] _ _
  refine run_seq (x := F10.c1) (y := F10.c2) (by kernel_rfl) ?_
  refine run_plain (id := 0) (ops := F10.o0) [(0, true)] (by kernel_rfl) (by kernel_rfl) ?_
  refine yS (by kernel_rfl : opAt F10.o0 0 = some (some 0, .assign (.const (.bool false)), none)) rfl rfl (fun w' hS => val_assign rfl) ?_
  refine Sch.nil ?_
  refine run_seq (x := F10.c3) (y := F10.c4) (by kernel_rfl) ?_
  refine run_plain (id := 1) (ops := F10.o1) [(0, true), (1, true), (2, true), (3, false), (4, true)] (by kernel_rfl) (by kernel_rfl) ?_
  refine yS (by kernel_rfl : opAt F10.o1 0 = some (some 8, .build 46 #[(0, (.const (.int .i64 0))), (1, (.const (.int .i64 0))), (2, (.const (.int .i64 5)))], none)) rfl rfl (fun w' hS => val_build (zs := [.int .i64 0, .int .i64 0, .int .i64 0]) (ps := [(0, 1), (1, 1), (2, 1)]) (qs := [(0, [.int .i64 0]), (1, [.int .i64 0]), (2, [.int .i64 5])]) (cs := [.int .i64 0, .int .i64 0, .int .i64 5]) (by kernel_rfl) (by kernel_rfl) (by exact ⟨rfl, ⟨_, rfl, rfl⟩, rfl, ⟨_, rfl, rfl⟩, rfl, ⟨_, rfl, rfl⟩, trivial⟩) rfl) ?_
  refine yS (by kernel_rfl : opAt F10.o1 1 = some (some 9, .build 46 #[(0, (.const (.int .i64 0))), (1, (.const (.int .i64 1))), (2, (.const (.int .i64 6)))], none)) rfl rfl (fun w' hS => val_build (zs := [.int .i64 0, .int .i64 0, .int .i64 0]) (ps := [(0, 1), (1, 1), (2, 1)]) (qs := [(0, [.int .i64 0]), (1, [.int .i64 1]), (2, [.int .i64 6])]) (cs := [.int .i64 0, .int .i64 1, .int .i64 6]) (by kernel_rfl) (by kernel_rfl) (by exact ⟨rfl, ⟨_, rfl, rfl⟩, rfl, ⟨_, rfl, rfl⟩, rfl, ⟨_, rfl, rfl⟩, trivial⟩) rfl) ?_
  refine yS (by kernel_rfl : opAt F10.o1 2 = some (some 10, .build 46 #[(0, (.const (.int .i64 1))), (1, (.const (.int .i64 1))), (2, (.const (.int .i64 4)))], none)) rfl rfl (fun w' hS => val_build (zs := [.int .i64 0, .int .i64 0, .int .i64 0]) (ps := [(0, 1), (1, 1), (2, 1)]) (qs := [(0, [.int .i64 1]), (1, [.int .i64 1]), (2, [.int .i64 4])]) (cs := [.int .i64 1, .int .i64 1, .int .i64 4]) (by kernel_rfl) (by kernel_rfl) (by exact ⟨rfl, ⟨_, rfl, rfl⟩, rfl, ⟨_, rfl, rfl⟩, rfl, ⟨_, rfl, rfl⟩, trivial⟩) rfl) ?_
  refine aS (by kernel_rfl : opAt F10.o1 3 = some (some 11, .buildSlice 23 3 #[(0, (.tmp 8)), (1, (.tmp 9)), (2, (.tmp 10))], none)) rfl rfl (a_buildSlice (ys := awL) (e := 46) (bytes := 24) hF (by kernel_rfl) rfl (by decide) (by decide) ⟨rfl, ⟨_, rfl, rv_edge.2 rfl⟩, rfl, ⟨_, rfl, rv_edge.2 rfl⟩, rfl, ⟨_, rfl, rv_edge.2 rfl⟩, trivial⟩) ?_
  rintro v11 w1 ⟨hs, hl, hF⟩
  refine ⟨trivial, ?_⟩
  replace hT := hT.trans hs (by simp)
  refine yS (by kernel_rfl : opAt F10.o1 4 = some (some 1, .assign (.tmp 11), none)) rfl rfl (fun w' hS => val_assign rfl) ?_
  refine Sch.nil ?_
  refine run_seq (x := F10.c5) (y := F10.c6) (by kernel_rfl) ?_
  refine run_plain (id := 2) (ops := F10.o2) [(0, true), (1, false), (2, true), (3, true), (4, true), (5, true), (6, true), (7, true), (8, true)] (by kernel_rfl) (by kernel_rfl) ?_
  refine yS (by kernel_rfl : opAt F10.o2 0 = some (some 13, .move (.tmp 1), none)) rfl rfl (fun w' hS => val_move rfl) ?_
  refine cS (by kernel_rfl : opAt F10.o2 1 = some (some 14, .call { callee := .value (.func 19), args := #[(.const (.int .i64 2)), (.const (.int .i64 2)), (.tmp 13)], argTypes := #[3, 3, 23] }, none)) rfl rfl (ent Try.call19 rfl) (solve_ok (n := 2) (m := 2) hF hl) ?_
  rintro vw2 w2 ⟨pc, rfl, hs, hc⟩
  refine ⟨trivial, ?_⟩
  replace hF := hF.st hs
  replace hT := hT.trans hs (by simp)
  replace hl := hl.st hs (by first | decide | (simp <;> omega))
  obtain ⟨cs, hcs⟩ : ∃ c, c = solL 2 2 awL := ⟨_, rfl⟩
  have hcl : cs.length = 2 := by rw [hcs, aw_solL]; rfl
  rw [← hcs] at hc
  rw [aw_solT, aw_chk]
  refine yS (by kernel_rfl : opAt F10.o2 2 = some (some 12, .move (.tmp 14), none)) rfl rfl (fun w' hS => val_move rfl) ?_
  refine yS (by kernel_rfl : opAt F10.o2 3 = some (some 15, .extract (.tmp 12) 0, none)) rfl rfl (fun w' hS => val_extract rfl rfl) ?_
  refine yS (by kernel_rfl : opAt F10.o2 4 = some (some 16, .extract (.tmp 12) 1, none)) rfl rfl (fun w' hS => val_extract rfl rfl) ?_
  refine yS (by kernel_rfl : opAt F10.o2 5 = some (some 17, .extract (.tmp 12) 2, none)) rfl rfl (fun w' hS => val_extract rfl rfl) ?_
  refine yS (by kernel_rfl : opAt F10.o2 6 = some (some 2, .assign (.tmp 15), none)) rfl rfl (fun w' hS => val_assign rfl) ?_
  refine yS (by kernel_rfl : opAt F10.o2 7 = some (some 3, .assign (.tmp 16), none)) rfl rfl (fun w' hS => val_assign rfl) ?_
  refine yS (by kernel_rfl : opAt F10.o2 8 = some (some 4, .assign (.tmp 17), none)) rfl rfl (fun w' hS => val_assign rfl) ?_
  refine Sch.nil ?_
  refine run_seq (x := F10.c7) (y := F10.c8) (by kernel_rfl) ?_
  refine run_plain (id := 3) (ops := F10.o3) [(0, true), (1, false), (2, true), (3, true), (4, true), (5, true), (6, true), (7, true), (8, true)] (by kernel_rfl) (by kernel_rfl) ?_
  refine yS (by kernel_rfl : opAt F10.o3 0 = some (some 19, .move (.tmp 1), none)) rfl rfl (fun w' hS => val_move rfl) ?_
  refine cS (by kernel_rfl : opAt F10.o3 1 = some (some 20, .call { callee := .value (.func 24), args := #[(.const (.int .i64 2)), (.const (.int .i64 2)), (.tmp 19)], argTypes := #[3, 3, 23] }, none)) rfl rfl (ent Try.call24 rfl) (prices_ok (n := 2) (m := 2) hF hl) ?_
  rintro vw3 w3 ⟨pu, pv, Ul, Vl, rfl, hs, hu, hv, hpr⟩
  refine ⟨trivial, ?_⟩
  replace hF := hF.st hs
  replace hT := hT.trans hs (by simp)
  replace hl := hl.st hs (by first | decide | (simp <;> omega))
  replace hc := hc.st hs (by first | decide | (simp <;> omega))
  rw [aw_chk]
  refine yS (by kernel_rfl : opAt F10.o3 2 = some (some 18, .move (.tmp 20), none)) rfl rfl (fun w' hS => val_move rfl) ?_
  refine yS (by kernel_rfl : opAt F10.o3 3 = some (some 21, .extract (.tmp 18) 0, none)) rfl rfl (fun w' hS => val_extract rfl rfl) ?_
  refine yS (by kernel_rfl : opAt F10.o3 4 = some (some 22, .extract (.tmp 18) 1, none)) rfl rfl (fun w' hS => val_extract rfl rfl) ?_
  refine yS (by kernel_rfl : opAt F10.o3 5 = some (some 23, .extract (.tmp 18) 2, none)) rfl rfl (fun w' hS => val_extract rfl rfl) ?_
  refine yS (by kernel_rfl : opAt F10.o3 6 = some (some 5, .assign (.tmp 21), none)) rfl rfl (fun w' hS => val_assign rfl) ?_
  refine yS (by kernel_rfl : opAt F10.o3 7 = some (some 6, .assign (.tmp 22), none)) rfl rfl (fun w' hS => val_assign rfl) ?_
  refine yS (by kernel_rfl : opAt F10.o3 8 = some (some 7, .assign (.tmp 23), none)) rfl rfl (fun w' hS => val_assign rfl) ?_
  refine Sch.nil ?_
  refine run_seq (x := F10.c9) (y := F10.c10) (by kernel_rfl) ?_
  refine run_plain (id := 4) (ops := F10.o4) [(0, true), (1, true), (2, true), (3, true), (4, true), (5, true), (6, true), (7, true), (8, true), (9, true), (10, true), (11, true), (12, true), (13, true), (14, true), (15, true), (16, true), (17, true), (18, false), (19, true), (20, true), (21, true), (22, true), (23, true), (24, true), (25, true), (26, true), (27, false), (28, true), (29, true)] (by kernel_rfl) (by kernel_rfl) ?_
  refine yS (by kernel_rfl : opAt F10.o4 0 = some (some 24, .move (.tmp 4), none)) rfl rfl (fun w' hS => val_move rfl) ?_
  refine yS (by kernel_rfl : opAt F10.o4 1 = some (some 25, .binOp .eql 35 (.tmp 24) (.const (.int .i64 0)) 35, none)) rfl rfl (fun w' hS => val_is (val_eql rfl rfl) (show _ = Value.bool true from rfl)) ?_
  refine yS (by kernel_rfl : opAt F10.o4 2 = some (some 26, .move (.tmp 25), none)) rfl rfl (fun w' hS => val_move rfl) ?_
  refine yS (by kernel_rfl : opAt F10.o4 3 = some (some 27, .move (.tmp 7), (some (2, true)))) rfl rfl (fun w' hS => val_move rfl) ?_
  refine yS (by kernel_rfl : opAt F10.o4 4 = some (some 28, .binOp .eql 35 (.tmp 27) (.const (.int .i64 0)) 35, (some (2, true)))) rfl rfl (fun w' hS => val_is (val_eql rfl rfl) (show _ = Value.bool true from rfl)) ?_
  refine yS (by kernel_rfl : opAt F10.o4 5 = some (some 29, .pick (.tmp 26) (.tmp 28) (.const (.bool false)), none)) rfl rfl (fun w' hS => val_pick_t rfl rfl) ?_
  refine yS (by kernel_rfl : opAt F10.o4 6 = some (some 30, .move (.tmp 29), none)) rfl rfl (fun w' hS => val_move rfl) ?_
  refine yS (by kernel_rfl : opAt F10.o4 7 = some (some 31, .move (.tmp 3), (some (6, true)))) rfl rfl (fun w' hS => val_move rfl) ?_
  refine yS (by kernel_rfl : opAt F10.o4 8 = some (some 32, .binOp .eql 3 (.tmp 31) (.const (.int .i64 9)) 3, (some (6, true)))) rfl rfl (fun w' hS => val_is (val_eql rfl rfl) (show _ = Value.bool true from rfl)) ?_
  refine yS (by kernel_rfl : opAt F10.o4 9 = some (some 33, .pick (.tmp 30) (.tmp 32) (.const (.bool false)), none)) rfl rfl (fun w' hS => val_pick_t rfl rfl) ?_
  refine yS (by kernel_rfl : opAt F10.o4 10 = some (some 34, .move (.tmp 33), none)) rfl rfl (fun w' hS => val_move rfl) ?_
  refine yS (by kernel_rfl : opAt F10.o4 11 = some (some 35, .move (.tmp 2), (some (10, true)))) rfl rfl (fun w' hS => val_move rfl) ?_
  refine yS (by kernel_rfl : opAt F10.o4 12 = some (some 36, .call { callee := .builtin .len, args := #[(.tmp 35)], argTypes := #[24] }, (some (10, true)))) rfl rfl (fun w' hS => hc.lenV rfl Try.underlying24 w' ) ?_
  refine yS (by kernel_rfl : opAt F10.o4 13 = some (some 37, .binOp .eql 3 (.tmp 36) (.const (.int .i64 2)) 3, (some (10, true)))) rfl rfl (fun w' hS => val_is (val_eql rfl rfl) (show _ = Value.bool true from by rw [hcl]; rfl)) ?_
  refine yS (by kernel_rfl : opAt F10.o4 14 = some (some 38, .pick (.tmp 34) (.tmp 37) (.const (.bool false)), none)) rfl rfl (fun w' hS => val_pick_t rfl rfl) ?_
  refine yS (by kernel_rfl : opAt F10.o4 15 = some (some 39, .move (.tmp 38), none)) rfl rfl (fun w' hS => val_move rfl) ?_
  refine yS (by kernel_rfl : opAt F10.o4 16 = some (some 40, .move (.tmp 2), (some (15, true)))) rfl rfl (fun w' hS => val_move rfl) ?_
  refine iS (e := 53) (by kernel_rfl : opAt F10.o4 17 = some (some 41, .indexAddr 24 (.tmp 40) (.const (.int .i64 1)), (some (15, true)))) rfl rfl hc rfl (by kernel_rfl) rfl (by omega) (by omega) ?_
  intro b41 o41 h41
  try simp only [Int.toNat_natCast] at h41
  refine lNA (by kernel_rfl : opAt F10.o4 18 = some (some 42, .load 53 (.tmp 41), (some (15, true)))) rfl rfl trivial h41 (by kernel_rfl) (by kernel_rfl) rfl rfl ?_
  intro v42 g42
  obtain rfl := rv_couple.1 g42
  refine yS (by kernel_rfl : opAt F10.o4 19 = some (some 43, .build 53 #[(0, (.const (.int .i64 1))), (1, (.const (.int .i64 1)))], (some (15, true)))) rfl rfl (fun w' hS => val_build (zs := [.int .i64 0, .int .i64 0]) (ps := [(0, 1), (1, 1)]) (qs := [(0, [.int .i64 1]), (1, [.int .i64 1])]) (cs := [.int .i64 1, .int .i64 1]) (by kernel_rfl) (by kernel_rfl) (by exact ⟨rfl, ⟨_, rfl, rfl⟩, rfl, ⟨_, rfl, rfl⟩, trivial⟩) rfl) ?_
  refine yS (by kernel_rfl : opAt F10.o4 20 = some (some 44, .binOp .eql 53 (.tmp 42) (.tmp 43) 53, (some (15, true)))) rfl rfl (fun w' hS => val_is (val_eqC (a := (cs[1]'(by omega))) (b := (⟨1, 1⟩ : Couple)) Try.underlying53 (by decide) (by decide) (by kernel_rfl) Try.underlying3 rfl rfl) (show _ = Value.bool true from congrArg Value.bool (decide_eq_true (by have e := hcs.trans aw_solL; subst e; rfl)))) ?_
  refine yS (by kernel_rfl : opAt F10.o4 21 = some (some 45, .pick (.tmp 39) (.tmp 44) (.const (.bool false)), none)) rfl rfl (fun w' hS => val_pick_t rfl rfl) ?_
  refine yS (by kernel_rfl : opAt F10.o4 22 = some (some 46, .move (.tmp 45), none)) rfl rfl (fun w' hS => val_move rfl) ?_
  refine yS (by kernel_rfl : opAt F10.o4 23 = some (some 47, .move (.tmp 1), (some (22, true)))) rfl rfl (fun w' hS => val_move rfl) ?_
  refine yS (by kernel_rfl : opAt F10.o4 24 = some (some 48, .move (.tmp 2), (some (22, true)))) rfl rfl (fun w' hS => val_move rfl) ?_
  refine yS (by kernel_rfl : opAt F10.o4 25 = some (some 49, .move (.tmp 5), (some (22, true)))) rfl rfl (fun w' hS => val_move rfl) ?_
  refine yS (by kernel_rfl : opAt F10.o4 26 = some (some 50, .move (.tmp 6), (some (22, true)))) rfl rfl (fun w' hS => val_move rfl) ?_
  have hpv : pvB 2 2 awL cs Ul Vl = true := by rw [hcs]; exact pvB_iff.2 (sol_pv aw_chk (hpr aw_chk))
  refine cS (by kernel_rfl : opAt F10.o4 27 = some (some 51, .call { callee := .value (.func 22), args := #[(.const (.int .i64 2)), (.const (.int .i64 2)), (.tmp 47), (.tmp 48), (.tmp 49), (.tmp 50)], argTypes := #[3, 3, 23, 24, 22, 22] }, (some (22, true)))) rfl rfl (ent Try.call22 rfl) (proves_ok (n := 2) (m := 2) hF hl hc hu hv (by omega)) ?_
  rintro vw4 w4 ⟨rfl, hs⟩
  rw [hpv]
  refine ⟨trivial, ?_⟩
  replace hF := hF.st hs
  replace hT := hT.trans hs (by simp)
  replace hl := hl.st hs (by first | decide | (simp <;> omega))
  replace hc := hc.st hs (by first | decide | (simp <;> omega))
  replace hu := hu.st hs (by first | decide | (simp <;> omega))
  replace hv := hv.st hs (by first | decide | (simp <;> omega))
  replace h41 := h41.st hs (by first | decide | (simp <;> omega))
  replace g42 := g42.st hs (by first | decide | (simp <;> omega))
  refine yS (by kernel_rfl : opAt F10.o4 28 = some (some 52, .pick (.tmp 46) (.tmp 51) (.const (.bool false)), none)) rfl rfl (fun w' hS => val_pick_t rfl rfl) ?_
  refine yS (by kernel_rfl : opAt F10.o4 29 = some (some 0, .assign (.tmp 52), none)) rfl rfl (fun w' hS => val_assign rfl) ?_
  refine Sch.nil ?_
  refine run_ret1 (by kernel_rfl) Try.func10 Try.results10 rfl ?_
  exact ⟨rfl, hT.out1 (by decide)⟩
end Go.Proofs.Ytgooehopkmbkfaa
