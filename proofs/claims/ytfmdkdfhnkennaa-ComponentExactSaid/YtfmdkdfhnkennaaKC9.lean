/- Steps through functions of the program. -/
import Derived.Test.YtfmdkdfhnkennaaKC8
set_option linter.unusedVariables false
set_option linter.unusedSimpArgs false
set_option maxRecDepth 100000
set_option maxHeartbeats 400000
namespace Go.Proofs.Ytfmdkdfhnkennaa
open Go.K Go.K.Rep

def awa : Couple := ⟨0, 1⟩
def awb : Couple := ⟨1, 5⟩
def awB : Bond := ⟨awa, awb, 3⟩
def awC : Bond := ⟨awa, awb, 0⟩
def awL : List Couple := [awa, awb]
theorem aw_check : checkS [awB] = 0 := by decide
theorem aw_refs (x : Bond) (h1 : x.A = awa) (h2 : x.B = awb) : refsS [x] = awL := by
  refine sorted_ext (refsS_sorted _) (by decide) fun r => ?_
  rw [mem_refsS]
  simp [h1, h2, awL]
theorem aw_parts : partsS [awB] = [awL] := by unfold partsS; rw [aw_refs awB rfl rfl]; decide
theorem aw_split : splitS [awB] = [[awB]] := by unfold splitS; rw [aw_refs awB rfl rfl]; decide
theorem aw_pl : (partsS [awB]).length = 1 := by rw [aw_parts]; rfl
theorem aw_sl : (splitS [awB]).length = 1 := by rw [aw_split]; rfl
theorem aw_p0 (h : 0 < (partsS [awB]).length) : (partsS [awB])[0] = awL := by simp [aw_parts]
theorem aw_s0 (h : 0 < (splitS [awB]).length) : (splitS [awB])[0] = [awB] := by simp [aw_split]
theorem aw_find : findS (partsS [awB]) awb = 0 := by rw [aw_parts]; decide
theorem aw_rl : (refsS [awC]).length = 2 := by rw [aw_refs awC rfl rfl]; rfl

namespace F8
noncomputable def c0 : Code := bodyOf Try.f8
noncomputable def c1 : Code := cl c0
noncomputable def o0 : Array Oper := rops c1
noncomputable def c2 : Code := cr c0
noncomputable def c3 : Code := cl c2
noncomputable def o1 : Array Oper := rops c3
noncomputable def c4 : Code := cr c2
noncomputable def c5 : Code := cl c4
noncomputable def o2 : Array Oper := rops c5
noncomputable def c6 : Code := cr c4
noncomputable def c7 : Code := cl c6
noncomputable def o3 : Array Oper := rops c7
noncomputable def c8 : Code := cr c6
noncomputable def c9 : Code := cl c8
noncomputable def o4 : Array Oper := rops c9
noncomputable def c10 : Code := cr c8
end F8
/-- The sanity check. -/
theorem awake_ok {w₀ : World} {C : Nat → Nat} (hF : Lim w₀ C) : Calls Try.prog 8 #[] w₀ (Ret fun v w' => v = .bool true ∧ Stp [] w₀ C w' C) := by
  have hF0 := hF
  have hT := Stp.refl [2, 3, 4, 5, 6, 7, 8, 9] w₀ (col1 C)
  replace hF := hF.col1
  refine calls_start (c := F8.c0) (N := 79) [] Try.func8 (by kernel_rfl) (by kernel_rfl) (by kernel_rfl) ?_
  show Run _ _ _ _ [] _ _
  refine run_seq (x := F8.c1) (y := F8.c2) (by kernel_rfl) ?_
  refine run_plain (id := 0) (ops := F8.o0) [(0, true)] (by kernel_rfl) (by kernel_rfl) ?_
  refine yS (by kernel_rfl : opAt F8.o0 0 = some (some 0, .assign (.const (.bool false)), none)) rfl rfl (fun w' hS => val_assign rfl) ?_
  refine Sch.nil ?_
  refine run_seq (x := F8.c3) (y := F8.c4) (by kernel_rfl) ?_
  refine run_plain (id := 1) (ops := F8.o1) [(0, true), (1, true), (2, false), (3, false), (4, false), (5, false)] (by kernel_rfl) (by kernel_rfl) ?_
  refine yS (by kernel_rfl : opAt F8.o1 0 = some (some 7, .build 25 #[(1, (.const (.int .i64 1)))], none)) rfl rfl (fun w' hS => val_build (zs := [.int .i64 0, .int .i64 0]) (ps := [(0, 1), (1, 1)]) (qs := [(1, [.int .i64 1])]) (cs := [.int .i64 0, .int .i64 1]) (by kernel_rfl) (by kernel_rfl) ⟨rfl, ⟨_, rfl, rfl⟩, trivial⟩ rfl) ?_
  refine yS (by kernel_rfl : opAt F8.o1 1 = some (some 8, .build 25 #[(0, (.const (.int .i64 1))), (1, (.const (.int .i64 5)))], none)) rfl rfl (fun w' hS => val_build (zs := [.int .i64 0, .int .i64 0]) (ps := [(0, 1), (1, 1)]) (qs := [(0, [.int .i64 1]), (1, [.int .i64 5])]) (cs := [.int .i64 1, .int .i64 5]) (by kernel_rfl) (by kernel_rfl) ⟨rfl, ⟨_, rfl, rfl⟩, rfl, ⟨_, rfl, rfl⟩, trivial⟩ rfl) ?_
  refine aS (by kernel_rfl : opAt F8.o1 2 = some (some 1, .alloc 25, none)) rfl rfl (a_alloc (cs := [.int .i64 0, .int .i64 0]) hF 3 (by kernel_rfl)) ?_
  rintro _ w1 ⟨Cw1, bw1, rfl, hs, hA, hF⟩
  refine ⟨trivial, ?_⟩
  replace hT := hT.trans hs (by simp)
  refine aS (by kernel_rfl : opAt F8.o1 3 = some (some 2, .alloc 25, none)) rfl rfl (a_alloc (cs := [.int .i64 0, .int .i64 0]) hF 4 (by kernel_rfl)) ?_
  rintro _ w2 ⟨Cw2, bw2, rfl, hs, hB, hF⟩
  refine ⟨trivial, ?_⟩
  replace hT := hT.trans hs (by simp)
  replace hA := hA.st hs (by first | decide | (simp <;> omega))
  refine aN (by kernel_rfl : opAt F8.o1 4 = some (none, .store 25 (.tmp 1) (.tmp 7), none)) rfl (a_storeAll (vs := encR awa) (n := 2) rfl rfl (by kernel_rfl) rfl rfl (by intro u hu; simp only [encR, List.mem_cons, List.not_mem_nil, or_false] at hu; rcases hu with rfl | rfl <;> rfl) hA rfl) ?_
  rintro _ w3 ⟨rfl, hs, hA⟩
  refine ⟨trivial, ?_⟩
  replace hF := hF.st hs
  replace hT := hT.trans hs (by simp)
  replace hB := hB.st hs (by first | decide | (simp <;> omega))
  refine aN (by kernel_rfl : opAt F8.o1 5 = some (none, .store 25 (.tmp 2) (.tmp 8), none)) rfl (a_storeAll (vs := encR awb) (n := 2) rfl rfl (by kernel_rfl) rfl rfl (by intro u hu; simp only [encR, List.mem_cons, List.not_mem_nil, or_false] at hu; rcases hu with rfl | rfl <;> rfl) hB rfl) ?_
  rintro _ w4 ⟨rfl, hs, hB⟩
  refine ⟨trivial, ?_⟩
  replace hF := hF.st hs
  replace hT := hT.trans hs (by simp)
  replace hA := hA.st hs (by first | decide | (simp <;> omega))
  refine Sch.nil ?_
  refine run_seq (x := F8.c5) (y := F8.c6) (by kernel_rfl) ?_
  refine run_plain (id := 2) (ops := F8.o2) [(0, false), (1, false), (2, true), (3, false), (4, false), (5, true), (6, true), (7, true), (8, true), (9, true)] (by kernel_rfl) (by kernel_rfl) ?_
  refine nS (by kernel_rfl : opAt F8.o2 0 = some (some 10, .load 25 (.tmp 1), none)) rfl rfl trivial (val_loadOwnAgg (n := 2) (vs := encR awa) hA.at_ (by kernel_rfl) (by kernel_rfl) rfl rfl rfl) ?_
  refine nS (by kernel_rfl : opAt F8.o2 1 = some (some 11, .load 25 (.tmp 2), none)) rfl rfl trivial (val_loadOwnAgg (n := 2) (vs := encR awb) hB.at_ (by kernel_rfl) (by kernel_rfl) rfl rfl rfl) ?_
  refine yS (by kernel_rfl : opAt F8.o2 2 = some (some 12, .build 50 #[(0, (.tmp 10)), (1, (.tmp 11)), (2, (.const (.int .i64 3)))], none)) rfl rfl (fun w' hS => val_build (zs := [.int .i64 0, .int .i64 0, .int .i64 0, .int .i64 0, .int .i64 0]) (ps := [(0, 2), (2, 2), (4, 1)]) (qs := [(0, encR awa), (1, encR awb), (2, [.int .i64 3])]) (cs := encB awB) (by kernel_rfl) (by kernel_rfl) ⟨rfl, ⟨_, rfl, rfl⟩, rfl, ⟨_, rfl, rfl⟩, rfl, ⟨_, rfl, rfl⟩, trivial⟩ rfl) ?_
  refine aS (by kernel_rfl : opAt F8.o2 3 = some (some 13, .buildSlice 23 1 #[(0, (.tmp 12))], none)) rfl rfl (a_buildSlice (ys := ([awB] : List Bond)) (e := 50) (bytes := 40) hF (by kernel_rfl) rfl (by decide) (by decide) ⟨rfl, ⟨_, rfl, rv_bond.2 rfl⟩, trivial⟩) ?_
  rintro v13 w5 ⟨hs, g202, hF⟩
  refine ⟨trivial, ?_⟩
  replace hT := hT.trans hs (by simp)
  replace hA := hA.st hs (by first | decide | (simp <;> omega))
  replace hB := hB.st hs (by first | decide | (simp <;> omega))
  refine cS (by kernel_rfl : opAt F8.o2 4 = some (some 14, .call { callee := .value (.func 19), args := #[(.tmp 13)], argTypes := #[23] }, none)) rfl rfl (ent Try.call19 rfl) (of_ok hF g202 (by decide)) ?_
  rintro vw6 w6 ⟨u, rfl, hs, _, hp⟩
  refine ⟨trivial, ?_⟩
  replace hF := hF.st hs
  replace hT := hT.trans hs (by simp)
  replace hA := hA.st hs (by first | decide | (simp <;> omega))
  replace hB := hB.st hs (by first | decide | (simp <;> omega))
  replace g202 := g202.st hs (by first | decide | (simp <;> omega))
  rw [if_pos aw_check] at hp
  rw [aw_check]
  have hpl := aw_pl
  refine yS (by kernel_rfl : opAt F8.o2 5 = some (some 9, .move (.tmp 14), none)) rfl rfl (fun w' hS => val_move rfl) ?_
  refine yS (by kernel_rfl : opAt F8.o2 6 = some (some 15, .extract (.tmp 9) 0, none)) rfl rfl (fun w' hS => val_extract rfl rfl) ?_
  refine yS (by kernel_rfl : opAt F8.o2 7 = some (some 16, .extract (.tmp 9) 1, none)) rfl rfl (fun w' hS => val_extract rfl rfl) ?_
  refine yS (by kernel_rfl : opAt F8.o2 8 = some (some 3, .assign (.tmp 15), none)) rfl rfl (fun w' hS => val_assign rfl) ?_
  refine yS (by kernel_rfl : opAt F8.o2 9 = some (some 4, .assign (.tmp 16), none)) rfl rfl (fun w' hS => val_assign rfl) ?_
  refine Sch.nil ?_
  refine run_seq (x := F8.c7) (y := F8.c8) (by kernel_rfl) ?_
  refine run_plain (id := 3) (ops := F8.o3) [(0, false), (1, false), (2, true), (3, false), (4, false), (5, true), (6, true), (7, true), (8, true), (9, true)] (by kernel_rfl) (by kernel_rfl) ?_
  refine nS (by kernel_rfl : opAt F8.o3 0 = some (some 18, .load 25 (.tmp 1), none)) rfl rfl trivial (val_loadOwnAgg (n := 2) (vs := encR awa) hA.at_ (by kernel_rfl) (by kernel_rfl) rfl rfl rfl) ?_
  refine nS (by kernel_rfl : opAt F8.o3 1 = some (some 19, .load 25 (.tmp 2), none)) rfl rfl trivial (val_loadOwnAgg (n := 2) (vs := encR awb) hB.at_ (by kernel_rfl) (by kernel_rfl) rfl rfl rfl) ?_
  refine yS (by kernel_rfl : opAt F8.o3 2 = some (some 20, .build 50 #[(0, (.tmp 18)), (1, (.tmp 19)), (2, (.const (.int .i64 3)))], none)) rfl rfl (fun w' hS => val_build (zs := [.int .i64 0, .int .i64 0, .int .i64 0, .int .i64 0, .int .i64 0]) (ps := [(0, 2), (2, 2), (4, 1)]) (qs := [(0, encR awa), (1, encR awb), (2, [.int .i64 3])]) (cs := encB awB) (by kernel_rfl) (by kernel_rfl) ⟨rfl, ⟨_, rfl, rfl⟩, rfl, ⟨_, rfl, rfl⟩, rfl, ⟨_, rfl, rfl⟩, trivial⟩ rfl) ?_
  refine aS (by kernel_rfl : opAt F8.o3 3 = some (some 21, .buildSlice 23 1 #[(0, (.tmp 20))], none)) rfl rfl (a_buildSlice (ys := ([awB] : List Bond)) (e := 50) (bytes := 40) hF (by kernel_rfl) rfl (by decide) (by decide) ⟨rfl, ⟨_, rfl, rv_bond.2 rfl⟩, trivial⟩) ?_
  rintro v21 w7 ⟨hs, g203, hF⟩
  refine ⟨trivial, ?_⟩
  replace hT := hT.trans hs (by simp)
  replace hA := hA.st hs (by first | decide | (simp <;> omega))
  replace hB := hB.st hs (by first | decide | (simp <;> omega))
  replace g202 := g202.st hs (by first | decide | (simp <;> omega))
  replace hp := hp.st hs (by first | decide | (simp <;> omega))
  refine cS (by kernel_rfl : opAt F8.o3 4 = some (some 22, .call { callee := .value (.func 24), args := #[(.tmp 21)], argTypes := #[23] }, none)) rfl rfl (ent Try.call24 rfl) (split_ok hF g203 (by decide)) ?_
  rintro vw8 w8 ⟨us, rfl, hs, hsp⟩
  refine ⟨trivial, ?_⟩
  replace hF := hF.st hs
  replace hT := hT.trans hs (by simp)
  replace hA := hA.st hs (by first | decide | (simp <;> omega))
  replace hB := hB.st hs (by first | decide | (simp <;> omega))
  replace g202 := g202.st hs (by first | decide | (simp <;> omega))
  replace hp := hp.st hs (by first | decide | (simp <;> omega))
  replace g203 := g203.st hs (by first | decide | (simp <;> omega))
  rw [if_pos aw_check] at hsp
  rw [aw_check]
  have hspl := aw_sl
  have hawl : awL.length = 2 := rfl
  refine yS (by kernel_rfl : opAt F8.o3 5 = some (some 17, .move (.tmp 22), none)) rfl rfl (fun w' hS => val_move rfl) ?_
  refine yS (by kernel_rfl : opAt F8.o3 6 = some (some 23, .extract (.tmp 17) 0, none)) rfl rfl (fun w' hS => val_extract rfl rfl) ?_
  refine yS (by kernel_rfl : opAt F8.o3 7 = some (some 24, .extract (.tmp 17) 1, none)) rfl rfl (fun w' hS => val_extract rfl rfl) ?_
  refine yS (by kernel_rfl : opAt F8.o3 8 = some (some 5, .assign (.tmp 23), none)) rfl rfl (fun w' hS => val_assign rfl) ?_
  refine yS (by kernel_rfl : opAt F8.o3 9 = some (some 6, .assign (.tmp 24), none)) rfl rfl (fun w' hS => val_assign rfl) ?_
  refine Sch.nil ?_
  refine run_seq (x := F8.c9) (y := F8.c10) (by kernel_rfl) ?_
  refine run_draw (id := 4) (ops := F8.o4) [] (Cw2) [(0, true), (1, true), (2, true), (3, true), (4, true), (5, true), (6, true), (7, true), (8, true), (9, true), (10, true), (11, true), (12, true), (13, true), (14, true), (15, true), (16, true), (17, true), (18, true), (19, true), (20, true), (21, true), (22, true), (23, true), (24, true), (25, true), (26, true), (27, true), (28, true), (29, true), (30, true), (31, true), (32, true), (33, true), (34, true), (35, true), (36, true), (37, true), (38, true), (39, true), (40, true), (41, true), (42, false), (43, true), (44, true), (45, true), (46, true), (47, true), (48, true), (49, false), (50, false), (51, true), (52, true), (53, true), (54, true)] Try_mixed (by kernel_rfl) (by kernel_rfl) (by kernel_rfl) ?_
  intro w9 hs
  replace hF := hF.st hs
  replace hT := hT.trans hs (by simp)
  replace hA := hA.st hs (by first | decide | (simp <;> omega))
  replace hB := hB.st hs (by first | decide | (simp <;> omega))
  replace g202 := g202.st hs (by first | decide | (simp <;> omega))
  replace hp := hp.st hs (by first | decide | (simp <;> omega))
  replace g203 := g203.st hs (by first | decide | (simp <;> omega))
  replace hsp := hsp.st hs (by first | decide | (simp <;> omega))
  have hR := Stp.refl [] w9 (Cw2)
  have hA0 := hA
  have hB0 := hB
  refine yS (by kernel_rfl : opAt F8.o4 0 = some (some 25, .move (.tmp 4), none)) rfl rfl (fun w' hS => val_move rfl) ?_
  refine yS (by kernel_rfl : opAt F8.o4 1 = some (some 26, .binOp .eql 35 (.tmp 25) (.const (.int .i64 0)) 35, none)) rfl rfl (fun w' hS => val_T (val_eql rfl rfl) rfl) ?_
  refine yS (by kernel_rfl : opAt F8.o4 2 = some (some 27, .move (.tmp 26), none)) rfl rfl (fun w' hS => val_move rfl) ?_
  refine yS (by kernel_rfl : opAt F8.o4 3 = some (some 28, .move (.tmp 6), (some (2, true)))) rfl rfl (fun w' hS => val_move rfl) ?_
  refine yS (by kernel_rfl : opAt F8.o4 4 = some (some 29, .binOp .eql 35 (.tmp 28) (.const (.int .i64 0)) 35, (some (2, true)))) rfl rfl (fun w' hS => val_T (val_eql rfl rfl) rfl) ?_
  refine yS (by kernel_rfl : opAt F8.o4 5 = some (some 30, .pick (.tmp 27) (.tmp 29) (.const (.bool false)), none)) rfl rfl (fun w' hS => val_pick_t rfl rfl) ?_
  refine yS (by kernel_rfl : opAt F8.o4 6 = some (some 31, .move (.tmp 30), none)) rfl rfl (fun w' hS => val_move rfl) ?_
  refine yS (by kernel_rfl : opAt F8.o4 7 = some (some 32, .move (.tmp 3), (some (6, true)))) rfl rfl (fun w' hS => val_move rfl) ?_
  refine yS (by kernel_rfl : opAt F8.o4 8 = some (some 33, .call { callee := .builtin .len, args := #[(.tmp 32)], argTypes := #[26] }, (some (6, true)))) rfl rfl (fun w' hS => hp.lenV rfl Try.underlying26 w' ) ?_
  refine yS (by kernel_rfl : opAt F8.o4 9 = some (some 34, .binOp .eql 3 (.tmp 33) (.const (.int .i64 1)) 3, (some (6, true)))) rfl rfl (fun w' hS => val_T (val_eql rfl rfl) (by rw [aw_pl]; rfl)) ?_
  refine yS (by kernel_rfl : opAt F8.o4 10 = some (some 35, .pick (.tmp 31) (.tmp 34) (.const (.bool false)), none)) rfl rfl (fun w' hS => val_pick_t rfl rfl) ?_
  refine yS (by kernel_rfl : opAt F8.o4 11 = some (some 36, .move (.tmp 35), none)) rfl rfl (fun w' hS => val_move rfl) ?_
  refine yS (by kernel_rfl : opAt F8.o4 12 = some (some 37, .move (.tmp 3), (some (11, true)))) rfl rfl (fun w' hS => val_move rfl) ?_
  refine iS (e := 38) (by kernel_rfl : opAt F8.o4 13 = some (some 38, .indexAddr 26 (.tmp 37) (.const (.int .i64 0)), (some (11, true)))) rfl rfl hp rfl (by kernel_rfl) rfl (by omega) (by omega) ?_
  intro b38 o38 h38
  try simp only [Int.toNat_natCast] at h38
  refine lS (by kernel_rfl : opAt F8.o4 14 = some (some 39, .load 38 (.tmp 38), (some (11, true)))) rfl rfl (fun w' hS => h38.stay hS (by decide)) h38 (by kernel_rfl) rfl rfl ?_
  intro v39 g39
  simp only [aw_p0, show ((0 : Int)).toNat = 0 from rfl] at g39
  refine yS (by kernel_rfl : opAt F8.o4 15 = some (some 40, .call { callee := .builtin .len, args := #[(.tmp 39)], argTypes := #[38] }, (some (11, true)))) rfl rfl (fun w' hS => g39.lenV rfl Try.underlying38 w' ) ?_
  refine yS (by kernel_rfl : opAt F8.o4 16 = some (some 41, .binOp .eql 3 (.tmp 40) (.const (.int .i64 2)) 3, (some (11, true)))) rfl rfl (fun w' hS => val_T (val_eql rfl rfl) rfl) ?_
  refine yS (by kernel_rfl : opAt F8.o4 17 = some (some 42, .pick (.tmp 36) (.tmp 41) (.const (.bool false)), none)) rfl rfl (fun w' hS => val_pick_t rfl rfl) ?_
  refine yS (by kernel_rfl : opAt F8.o4 18 = some (some 43, .move (.tmp 42), none)) rfl rfl (fun w' hS => val_move rfl) ?_
  refine yS (by kernel_rfl : opAt F8.o4 19 = some (some 44, .move (.tmp 3), (some (18, true)))) rfl rfl (fun w' hS => val_move rfl) ?_
  refine iS (e := 38) (by kernel_rfl : opAt F8.o4 20 = some (some 45, .indexAddr 26 (.tmp 44) (.const (.int .i64 0)), (some (18, true)))) rfl rfl hp rfl (by kernel_rfl) rfl (by omega) (by omega) ?_
  intro b45 o45 h45
  try simp only [Int.toNat_natCast] at h45
  refine lS (by kernel_rfl : opAt F8.o4 21 = some (some 46, .load 38 (.tmp 45), (some (18, true)))) rfl rfl (fun w' hS => h45.stay hS (by decide)) h45 (by kernel_rfl) rfl rfl ?_
  intro v46 g46
  simp only [aw_p0, show ((0 : Int)).toNat = 0 from rfl] at g46
  refine iS (e := 25) (by kernel_rfl : opAt F8.o4 22 = some (some 47, .indexAddr 38 (.tmp 46) (.const (.int .i64 1)), (some (18, true)))) rfl rfl g46 rfl (by kernel_rfl) rfl (by omega) (by omega) ?_
  intro b47 o47 h47
  try simp only [Int.toNat_natCast] at h47
  refine lSA (by kernel_rfl : opAt F8.o4 23 = some (some 48, .load 25 (.tmp 47), (some (18, true)))) rfl rfl (fun w' hS => h47.stay hS (by decide)) h47 (by kernel_rfl) (by kernel_rfl) rfl rfl ?_
  intro v48 g48
  obtain rfl := rv_couple.1 g48
  refine yS (by kernel_rfl : opAt F8.o4 24 = some (some 49, .load 25 (.tmp 2), (some (18, true)))) rfl rfl (fun w' hS => val_loadOwnAgg (n := 2) (vs := encR awb) (hB.stay hS (by decide)) (by kernel_rfl) (by kernel_rfl) rfl rfl rfl) ?_
  refine yS (by kernel_rfl : opAt F8.o4 25 = some (some 50, .binOp .eql 25 (.tmp 48) (.tmp 49) 25, (some (18, true)))) rfl rfl (fun w' hS => val_T (val_eqC (a := awL[((1 : Int)).toNat]) (b := awb) Try.underlying25 (by decide) (by decide) (by kernel_rfl) Try.underlying3 rfl rfl) (by rfl)) ?_
  refine yS (by kernel_rfl : opAt F8.o4 26 = some (some 51, .pick (.tmp 43) (.tmp 50) (.const (.bool false)), none)) rfl rfl (fun w' hS => val_pick_t rfl rfl) ?_
  refine yS (by kernel_rfl : opAt F8.o4 27 = some (some 52, .move (.tmp 51), none)) rfl rfl (fun w' hS => val_move rfl) ?_
  refine yS (by kernel_rfl : opAt F8.o4 28 = some (some 53, .move (.tmp 5), (some (27, true)))) rfl rfl (fun w' hS => val_move rfl) ?_
  refine yS (by kernel_rfl : opAt F8.o4 29 = some (some 54, .call { callee := .builtin .len, args := #[(.tmp 53)], argTypes := #[34] }, (some (27, true)))) rfl rfl (fun w' hS => hsp.lenV rfl Try.underlying34 w' ) ?_
  refine yS (by kernel_rfl : opAt F8.o4 30 = some (some 55, .binOp .eql 3 (.tmp 54) (.const (.int .i64 1)) 3, (some (27, true)))) rfl rfl (fun w' hS => val_T (val_eql rfl rfl) (by rw [aw_sl]; rfl)) ?_
  refine yS (by kernel_rfl : opAt F8.o4 31 = some (some 56, .pick (.tmp 52) (.tmp 55) (.const (.bool false)), none)) rfl rfl (fun w' hS => val_pick_t rfl rfl) ?_
  refine yS (by kernel_rfl : opAt F8.o4 32 = some (some 57, .move (.tmp 56), none)) rfl rfl (fun w' hS => val_move rfl) ?_
  refine yS (by kernel_rfl : opAt F8.o4 33 = some (some 58, .move (.tmp 5), (some (32, true)))) rfl rfl (fun w' hS => val_move rfl) ?_
  refine iS (e := 23) (by kernel_rfl : opAt F8.o4 34 = some (some 59, .indexAddr 34 (.tmp 58) (.const (.int .i64 0)), (some (32, true)))) rfl rfl hsp rfl (by kernel_rfl) rfl (by omega) (by omega) ?_
  intro b59 o59 h59
  try simp only [Int.toNat_natCast] at h59
  refine lS (by kernel_rfl : opAt F8.o4 35 = some (some 60, .load 23 (.tmp 59), (some (32, true)))) rfl rfl (fun w' hS => h59.stay hS (by decide)) h59 (by kernel_rfl) rfl rfl ?_
  intro v60 g60
  simp only [aw_s0, show ((0 : Int)).toNat = 0 from rfl] at g60
  refine yS (by kernel_rfl : opAt F8.o4 36 = some (some 61, .call { callee := .builtin .len, args := #[(.tmp 60)], argTypes := #[23] }, (some (32, true)))) rfl rfl (fun w' hS => g60.lenV rfl Try.underlying23 w' ) ?_
  refine yS (by kernel_rfl : opAt F8.o4 37 = some (some 62, .binOp .eql 3 (.tmp 61) (.const (.int .i64 1)) 3, (some (32, true)))) rfl rfl (fun w' hS => val_T (val_eql rfl rfl) rfl) ?_
  refine yS (by kernel_rfl : opAt F8.o4 38 = some (some 63, .pick (.tmp 57) (.tmp 62) (.const (.bool false)), none)) rfl rfl (fun w' hS => val_pick_t rfl rfl) ?_
  refine yS (by kernel_rfl : opAt F8.o4 39 = some (some 64, .move (.tmp 63), none)) rfl rfl (fun w' hS => val_move rfl) ?_
  refine yS (by kernel_rfl : opAt F8.o4 40 = some (some 65, .move (.tmp 3), (some (39, true)))) rfl rfl (fun w' hS => val_move rfl) ?_
  refine yS (by kernel_rfl : opAt F8.o4 41 = some (some 66, .load 25 (.tmp 2), (some (39, true)))) rfl rfl (fun w' hS => val_loadOwnAgg (n := 2) (vs := encR awb) (hB.stay hS (by decide)) (by kernel_rfl) (by kernel_rfl) rfl rfl rfl) ?_
  refine cS (by kernel_rfl : opAt F8.o4 42 = some (some 67, .call { callee := .value (.func 22), args := #[(.tmp 65), (.tmp 66)], argTypes := #[26, 25] }, (some (39, true)))) rfl rfl (ent Try.call22 rfl) (find_ok (c := awb) hF hp) ?_
  rintro vw10 w10 ⟨rfl, hs⟩
  refine ⟨(hR.trans hs (by simp)).ext, ?_⟩
  replace hF := hF.st hs
  replace hT := hT.trans hs (by simp)
  replace hA := hA.st hs (by first | decide | (simp <;> omega))
  replace hB := hB.st hs (by first | decide | (simp <;> omega))
  replace g202 := g202.st hs (by first | decide | (simp <;> omega))
  replace hp := hp.st hs (by first | decide | (simp <;> omega))
  replace g203 := g203.st hs (by first | decide | (simp <;> omega))
  replace hsp := hsp.st hs (by first | decide | (simp <;> omega))
  replace hR := hR.trans hs (by simp)
  replace h38 := h38.st hs (by first | decide | (simp <;> omega))
  replace g39 := g39.st hs (by first | decide | (simp <;> omega))
  replace h45 := h45.st hs (by first | decide | (simp <;> omega))
  replace g46 := g46.st hs (by first | decide | (simp <;> omega))
  replace h47 := h47.st hs (by first | decide | (simp <;> omega))
  replace g48 := g48.st hs (by first | decide | (simp <;> omega))
  replace h59 := h59.st hs (by first | decide | (simp <;> omega))
  replace g60 := g60.st hs (by first | decide | (simp <;> omega))
  refine yS (by kernel_rfl : opAt F8.o4 43 = some (some 68, .binOp .eql 3 (.tmp 67) (.const (.int .i64 0)) 3, (some (39, true)))) rfl rfl (fun w' hS => val_T (val_eql rfl rfl) aw_find) ?_
  refine yS (by kernel_rfl : opAt F8.o4 44 = some (some 69, .pick (.tmp 64) (.tmp 68) (.const (.bool false)), none)) rfl rfl (fun w' hS => val_pick_t rfl rfl) ?_
  refine yS (by kernel_rfl : opAt F8.o4 45 = some (some 70, .move (.tmp 69), none)) rfl rfl (fun w' hS => val_move rfl) ?_
  refine yS (by kernel_rfl : opAt F8.o4 46 = some (some 71, .load 25 (.tmp 1), (some (45, true)))) rfl rfl (fun w' hS => val_loadOwnAgg (n := 2) (vs := encR awa) (hA0.stay hS (by decide)) (by kernel_rfl) (by kernel_rfl) rfl rfl rfl) ?_
  refine yS (by kernel_rfl : opAt F8.o4 47 = some (some 72, .load 25 (.tmp 2), (some (45, true)))) rfl rfl (fun w' hS => val_loadOwnAgg (n := 2) (vs := encR awb) (hB0.stay hS (by decide)) (by kernel_rfl) (by kernel_rfl) rfl rfl rfl) ?_
  refine yS (by kernel_rfl : opAt F8.o4 48 = some (some 73, .build 50 #[(0, (.tmp 71)), (1, (.tmp 72))], (some (45, true)))) rfl rfl (fun w' hS => val_build (zs := [.int .i64 0, .int .i64 0, .int .i64 0, .int .i64 0, .int .i64 0]) (ps := [(0, 2), (2, 2), (4, 1)]) (qs := [(0, encR awa), (1, encR awb)]) (cs := encB awC) (by kernel_rfl) (by kernel_rfl) ⟨rfl, ⟨_, rfl, rfl⟩, rfl, ⟨_, rfl, rfl⟩, trivial⟩ rfl) ?_
  refine aS (by kernel_rfl : opAt F8.o4 49 = some (some 74, .buildSlice 23 1 #[(0, (.tmp 73))], (some (45, true)))) rfl rfl (a_buildSlice (ys := ([awC] : List Bond)) (e := 50) (bytes := 40) hF (by kernel_rfl) rfl (by decide) (by decide) ⟨rfl, ⟨_, rfl, rv_bond.2 rfl⟩, trivial⟩) ?_
  rintro v74 w11 ⟨hs, g74, hF⟩
  refine ⟨(hR.trans hs (by simp)).ext, ?_⟩
  replace hT := hT.trans hs (by simp)
  replace hA := hA.st hs (by first | decide | (simp <;> omega))
  replace hB := hB.st hs (by first | decide | (simp <;> omega))
  replace g202 := g202.st hs (by first | decide | (simp <;> omega))
  replace hp := hp.st hs (by first | decide | (simp <;> omega))
  replace g203 := g203.st hs (by first | decide | (simp <;> omega))
  replace hsp := hsp.st hs (by first | decide | (simp <;> omega))
  replace hR := hR.trans hs (by simp)
  replace h38 := h38.st hs (by first | decide | (simp <;> omega))
  replace g39 := g39.st hs (by first | decide | (simp <;> omega))
  replace h45 := h45.st hs (by first | decide | (simp <;> omega))
  replace g46 := g46.st hs (by first | decide | (simp <;> omega))
  replace h47 := h47.st hs (by first | decide | (simp <;> omega))
  replace g48 := g48.st hs (by first | decide | (simp <;> omega))
  replace h59 := h59.st hs (by first | decide | (simp <;> omega))
  replace g60 := g60.st hs (by first | decide | (simp <;> omega))
  refine cS (by kernel_rfl : opAt F8.o4 50 = some (some 75, .call { callee := .value (.func 17), args := #[(.tmp 74)], argTypes := #[23] }, (some (45, true)))) rfl rfl (ent Try.call17 rfl) (refs_ok hF g74 (by decide)) ?_
  rintro vw12 w12 ⟨hs, hrf⟩
  refine ⟨(hR.trans hs (by simp)).ext, ?_⟩
  replace hF := hF.st hs
  replace hT := hT.trans hs (by simp)
  replace hA := hA.st hs (by first | decide | (simp <;> omega))
  replace hB := hB.st hs (by first | decide | (simp <;> omega))
  replace g202 := g202.st hs (by first | decide | (simp <;> omega))
  replace hp := hp.st hs (by first | decide | (simp <;> omega))
  replace g203 := g203.st hs (by first | decide | (simp <;> omega))
  replace hsp := hsp.st hs (by first | decide | (simp <;> omega))
  replace hR := hR.trans hs (by simp)
  replace h38 := h38.st hs (by first | decide | (simp <;> omega))
  replace g39 := g39.st hs (by first | decide | (simp <;> omega))
  replace h45 := h45.st hs (by first | decide | (simp <;> omega))
  replace g46 := g46.st hs (by first | decide | (simp <;> omega))
  replace h47 := h47.st hs (by first | decide | (simp <;> omega))
  replace g48 := g48.st hs (by first | decide | (simp <;> omega))
  replace h59 := h59.st hs (by first | decide | (simp <;> omega))
  replace g60 := g60.st hs (by first | decide | (simp <;> omega))
  replace g74 := g74.st hs (by first | decide | (simp <;> omega))
  refine yS (by kernel_rfl : opAt F8.o4 51 = some (some 76, .call { callee := .builtin .len, args := #[(.tmp 75)], argTypes := #[38] }, (some (45, true)))) rfl rfl (fun w' hS => hrf.lenV rfl Try.underlying38 w' ) ?_
  refine yS (by kernel_rfl : opAt F8.o4 52 = some (some 77, .binOp .eql 3 (.tmp 76) (.const (.int .i64 2)) 3, (some (45, true)))) rfl rfl (fun w' hS => val_T (val_eql rfl rfl) (by rw [aw_rl]; rfl)) ?_
  refine yS (by kernel_rfl : opAt F8.o4 53 = some (some 78, .pick (.tmp 70) (.tmp 77) (.const (.bool false)), none)) rfl rfl (fun w' hS => val_pick_t rfl rfl) ?_
  refine yS (by kernel_rfl : opAt F8.o4 54 = some (some 0, .assign (.tmp 78), none)) rfl rfl (fun w' hS => val_assign rfl) ?_
  refine Sch.nil ?_
  refine run_ret1 (by kernel_rfl) Try.func8 Try.results8 rfl ?_
  exact ⟨rfl, hT.out1 (by decide)⟩
end Go.Proofs.Ytfmdkdfhnkennaa

