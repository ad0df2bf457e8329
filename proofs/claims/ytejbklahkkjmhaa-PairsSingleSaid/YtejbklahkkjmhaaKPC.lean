/- Steps through functions of the program. -/
import Derived.Test.YtejbklahkkjmhaaKP9
import Derived.Test.YtejbklahkkjmhaaKPB
import Derived.Test.YtejbklahkkjmhaaKPairsOne
set_option linter.unusedVariables false
set_option linter.unusedSimpArgs false
set_option maxRecDepth 100000
set_option maxHeartbeats 400000
namespace Go.Proofs.Ytejbklahkkjmhaa
open Go.K Go.K.Rep

namespace F5
noncomputable def c0 : Code := bodyOf Try.f5
noncomputable def c1 : Code := cl c0
noncomputable def o0 : Array Oper := rops c1
noncomputable def c2 : Code := cr c0
noncomputable def c3 : Code := cl c2
noncomputable def c4 : Code := cl c3
noncomputable def o1 : Array Oper := rops c4
noncomputable def c5 : Code := cr c3
noncomputable def c6 : Code := cl c5
noncomputable def c7 : Code := cl c6
noncomputable def o2 : Array Oper := rops c7
noncomputable def c8 : Code := cr c6
noncomputable def c9 : Code := cr c5
noncomputable def c10 : Code := cr c2
noncomputable def c11 : Code := cl c10
noncomputable def o3 : Array Oper := rops c11
noncomputable def c12 : Code := cr c10
noncomputable def c13 : Code := cl c12
noncomputable def o4 : Array Oper := rops c13
noncomputable def c14 : Code := cr c12
noncomputable def c15 : Code := cl c14
noncomputable def o5 : Array Oper := rops c15
noncomputable def c16 : Code := cr c14
noncomputable def c17 : Code := cl c16
noncomputable def o6 : Array Oper := rops c17
noncomputable def c18 : Code := cr c16
noncomputable def c19 : Code := cl c18
noncomputable def o7 : Array Oper := rops c19
noncomputable def c20 : Code := cr c18
noncomputable def c21 : Code := cl c20
noncomputable def o8 : Array Oper := rops c21
noncomputable def c22 : Code := cr c20
noncomputable def c23 : Code := cl c22
noncomputable def o9 : Array Oper := rops c23
noncomputable def c24 : Code := cr c22
noncomputable def c25 : Code := cl c24
noncomputable def c26 : Code := cl c25
noncomputable def o10 : Array Oper := rops c26
noncomputable def c27 : Code := cr c25
noncomputable def c28 : Code := cl c27
noncomputable def c29 : Code := cl c28
noncomputable def c30 : Code := cl c29
noncomputable def o11 : Array Oper := rops c30
noncomputable def c31 : Code := cr c29
noncomputable def c32 : Code := cl c31
noncomputable def c33 : Code := cl c32
noncomputable def c34 : Code := cr c32
noncomputable def c35 : Code := cr c31
noncomputable def c36 : Code := cl c35
noncomputable def c37 : Code := cl c36
noncomputable def c38 : Code := cl c37
noncomputable def o12 : Array Oper := rops c38
noncomputable def c39 : Code := cr c37
noncomputable def c40 : Code := cl c39
noncomputable def o13 : Array Oper := rops c40
noncomputable def c41 : Code := cr c39
noncomputable def c42 : Code := cl c41
noncomputable def c43 : Code := cl c42
noncomputable def c44 : Code := cl c43
noncomputable def o14 : Array Oper := rops c44
noncomputable def c45 : Code := cr c43
noncomputable def c46 : Code := cl c45
noncomputable def c47 : Code := cl c46
noncomputable def c48 : Code := cr c46
noncomputable def c49 : Code := cr c45
noncomputable def c50 : Code := cl c49
noncomputable def c51 : Code := cl c50
noncomputable def c52 : Code := cl c51
noncomputable def o15 : Array Oper := rops c52
noncomputable def c53 : Code := cr c51
noncomputable def c54 : Code := cl c53
noncomputable def o16 : Array Oper := rops c54
noncomputable def c55 : Code := cr c53
noncomputable def c56 : Code := cl c55
noncomputable def o17 : Array Oper := rops c56
noncomputable def c57 : Code := cr c55
noncomputable def c58 : Code := cr c49
noncomputable def o18 : Array Oper := rops c58
noncomputable def c59 : Code := cr c35
noncomputable def o19 : Array Oper := rops c59
noncomputable def c60 : Code := cr c24
noncomputable def c61 : Code := cl c60
noncomputable def o20 : Array Oper := rops c61
noncomputable def c62 : Code := cr c60
end F5
/-- The statement's function answers true. -/
theorem pairsSingle_ok {w₀ : World} {C : Nat → Nat} {l : List Int} {vl : Value} (hF : Lim w₀ C) (hl : RV w₀ (Mc C) l vl) : Calls Try.prog 5 #[vl] w₀ (Ret fun v w' => v = .bool true ∧ Stp [] w₀ C w' C) := by
  have hF0 := hF
  have hT := Stp.refl [2, 3, 4, 5, 6, 7, 8, 9] w₀ (col1 C)
  replace hF := hF.col1
  replace hl : RV w₀ (Mc (col1 C)) l vl := by rw [Mc_col1]; exact hl
  refine calls_start (c := F5.c0) (N := 123) [vl] Try.func5 (by kernel_rfl) (by kernel_rfl) (by kernel_rfl) ?_
  show Run _ _ _ _ [(0, vl)] _ _
  refine run_seq (x := F5.c1) (y := F5.c2) (by kernel_rfl) ?_
  refine run_plain (id := 0) (ops := F5.o0) [(0, true)] (by kernel_rfl) (by kernel_rfl) ?_
  refine yS (by kernel_rfl : opAt F5.o0 0 = some (some 2, .assign (.const (.bool false)), none)) rfl rfl (fun w' hS => val_assign rfl) ?_
  refine Sch.nil ?_
  refine run_seq (x := F5.c3) (y := F5.c10) (by kernel_rfl) ?_
  refine run_seq (x := F5.c4) (y := F5.c5) (by kernel_rfl) ?_
  refine run_plain (id := 1) (ops := F5.o1) [(0, false), (1, true), (2, true), (3, true), (4, false), (5, true), (6, true)] (by kernel_rfl) (by kernel_rfl) ?_
  refine cS (by kernel_rfl : opAt F5.o1 0 = some (some 19, .call { callee := .value (.func 8), args := #[], argTypes := #[] }, none)) rfl rfl (ent Try.call8 rfl) (awake_ok hF) ?_
  rintro vw1 w1 ⟨rfl, hs⟩
  refine ⟨trivial, ?_⟩
  replace hF := hF.st hs
  replace hT := hT.trans hs (by simp)
  replace hl := hl.st hs (by first | decide | (simp <;> omega))
  refine yS (by kernel_rfl : opAt F5.o1 1 = some (some 20, .unOp .not 4 (.tmp 19), none)) rfl rfl (fun w' hS => val_not rfl) ?_
  refine yS (by kernel_rfl : opAt F5.o1 2 = some (some 21, .move (.tmp 20), none)) rfl rfl (fun w' hS => val_move rfl) ?_
  refine yS (by kernel_rfl : opAt F5.o1 3 = some (some 22, .move (.tmp 0), (some (2, false)))) rfl rfl (fun w' hS => val_move rfl) ?_
  refine cS (by kernel_rfl : opAt F5.o1 4 = some (some 23, .call { callee := .value (.func 9), args := #[(.tmp 22)], argTypes := #[22] }, (some (2, false)))) rfl rfl (ent Try.call9 rfl) (few_ok' hl) ?_
  rintro vw2 w2 ⟨rfl, rfl⟩
  refine ⟨trivial, ?_⟩
  refine yS (by kernel_rfl : opAt F5.o1 5 = some (some 24, .unOp .not 4 (.tmp 23), (some (2, false)))) rfl rfl (fun w' hS => val_notd rfl) ?_
  refine yS (by kernel_rfl : opAt F5.o1 6 = some (some 25, .pick (.tmp 21) (.const (.bool true)) (.tmp 24), none)) rfl rfl (fun w' hS => val_pick_f rfl rfl) ?_
  refine Sch.nil ?_
  refine run_if (x := F5.c6) (y := F5.c9) (o := .tmp 25) (by kernel_rfl) rfl (fun h25 => ?_) (fun h25 => ?_)
  · skip
    refine run_seq (x := F5.c7) (y := F5.c8) (by kernel_rfl) ?_
    refine run_plain (id := 2) (ops := F5.o2) [(0, false), (1, true)] (by kernel_rfl) (by kernel_rfl) ?_
    refine cS (by kernel_rfl : opAt F5.o2 0 = some (some 26, .call { callee := .value (.func 8), args := #[], argTypes := #[] }, none)) rfl rfl (ent Try.call8 rfl) (awake_ok hF) ?_
    rintro vw3 w3 ⟨rfl, hs⟩
    refine ⟨trivial, ?_⟩
    replace hF := hF.st hs
    replace hT := hT.trans hs (by simp)
    replace hl := hl.st hs (by first | decide | (simp <;> omega))
    refine yS (by kernel_rfl : opAt F5.o2 1 = some (some 2, .assign (.tmp 26), none)) rfl rfl (fun w' hS => val_assign rfl) ?_
    refine Sch.nil ?_
    refine run_ret1 (by kernel_rfl) Try.func5 Try.results5 rfl ?_
    exact ⟨rfl, hT.out1 (by decide)⟩
  · skip
    refine run_skip (by kernel_rfl) ?_
    refine run_seq (x := F5.c11) (y := F5.c12) (by kernel_rfl) ?_
    refine run_plain (id := 3) (ops := F5.o3) [(0, true), (1, false), (2, true)] (by kernel_rfl) (by kernel_rfl) ?_
    refine yS (by kernel_rfl : opAt F5.o3 0 = some (some 27, .move (.tmp 0), none)) rfl rfl (fun w' hS => val_move rfl) ?_
    refine cS (by kernel_rfl : opAt F5.o3 1 = some (some 28, .call { callee := .value (.func 10), args := #[(.tmp 27)], argTypes := #[22] }, none)) rfl rfl (ent Try.call10 rfl) (new_ok hF hl) ?_
    rintro vw4 w4 ⟨Cd, bd, rfl, hs, hF, hd⟩
    refine ⟨trivial, ?_⟩
    replace hT := hT.trans hs (by simp)
    replace hl := hl.st hs (by first | decide | (simp <;> omega))
    obtain ⟨d0, hd0⟩ : ∃ d0 : Dk, d0 = ⟨l, 0, 11400714819323198485⟩ := ⟨_, rfl⟩
    rw [← hd0] at hd
    have hdl0 : d0.list.length ≤ 140737488355328 := by rw [hd0]; exact hl.le
    refine yS (by kernel_rfl : opAt F5.o3 2 = some (some 3, .assign (.tmp 28), none)) rfl rfl (fun w' hS => val_assign rfl) ?_
    refine Sch.nil ?_
    refine run_seq (x := F5.c13) (y := F5.c14) (by kernel_rfl) ?_
    refine run_plain (id := 4) (ops := F5.o4) [(0, true), (1, false), (2, true), (3, false), (4, true), (5, true)] (by kernel_rfl) (by kernel_rfl) ?_
    refine yS (by kernel_rfl : opAt F5.o4 0 = some (some 29, .move (.tmp 3), none)) rfl rfl (fun w' hS => val_move rfl) ?_
    refine cS (by kernel_rfl : opAt F5.o4 1 = some (some 30, .call { callee := .value (.func 17), args := #[(.tmp 29), (.const (.int .i64 12))], argTypes := #[25, 3] }, none)) rfl rfl (ent Try.call17 rfl) (blocks_ok (d := d0) (most := 12) hF (by decide) hd hdl0 (by decide)) ?_
    rintro vw5 w5 ⟨hs, ha, hd⟩
    refine ⟨trivial, ?_⟩
    replace hF := hF.st hs
    replace hT := hT.trans hs (by simp)
    replace hl := hl.st hs (by first | decide | (simp <;> omega))
    obtain ⟨d1, hd1⟩ : ∃ d1, d1 = dkBlocks d0 12 := ⟨_, rfl⟩
    obtain ⟨a, hda⟩ : ∃ a, a = blocksOf d0 12 := ⟨_, rfl⟩
    rw [← hd1] at hd
    rw [← hda] at ha
    have hdl1 : d1.list.length ≤ 140737488355328 := by rw [hd1, dkBlocks_list]; exact hdl0
    have hta : totalN a ≤ 64 := by rw [hda]; exact Nat.le_trans (blocksOf_total _ _) (by decide)
    have hsa : total a ≤ 4611686018427387904 := by rw [total_nat]; omega
    have hka : checkS a = 0 := by rw [hda]; exact blocksOf_check _ (by decide)
    have hoa : IdsOnce a := by rw [hda]; exact blocksOf_once _ _
    refine yS (by kernel_rfl : opAt F5.o4 2 = some (some 31, .move (.tmp 3), none)) rfl rfl (fun w' hS => val_move rfl) ?_
    refine cS (by kernel_rfl : opAt F5.o4 3 = some (some 32, .call { callee := .value (.func 17), args := #[(.tmp 31), (.const (.int .i64 12))], argTypes := #[25, 3] }, none)) rfl rfl (ent Try.call17 rfl) (blocks_ok (d := d1) (most := 12) hF (by decide) hd hdl1 (by decide)) ?_
    rintro vw6 w6 ⟨hs, hb, hd⟩
    refine ⟨trivial, ?_⟩
    replace hF := hF.st hs
    replace hT := hT.trans hs (by simp)
    replace hl := hl.st hs (by first | decide | (simp <;> omega))
    replace ha := ha.st hs (by first | decide | (simp <;> omega))
    obtain ⟨d2, hd2⟩ : ∃ d2, d2 = dkBlocks d1 12 := ⟨_, rfl⟩
    obtain ⟨b, hdb⟩ : ∃ b, b = blocksOf d1 12 := ⟨_, rfl⟩
    rw [← hd2] at hd
    rw [← hdb] at hb
    have hdl2 : d2.list.length ≤ 140737488355328 := by rw [hd2, dkBlocks_list]; exact hdl1
    have htb : totalN b ≤ 64 := by rw [hdb]; exact Nat.le_trans (blocksOf_total _ _) (by decide)
    have hsb : total b ≤ 4611686018427387904 := by rw [total_nat]; omega
    have hkb : checkS b = 0 := by rw [hdb]; exact blocksOf_check _ (by decide)
    have hob : IdsOnce b := by rw [hdb]; exact blocksOf_once _ _
    refine yS (by kernel_rfl : opAt F5.o4 4 = some (some 4, .assign (.tmp 30), none)) rfl rfl (fun w' hS => val_assign rfl) ?_
    refine yS (by kernel_rfl : opAt F5.o4 5 = some (some 5, .assign (.tmp 32), none)) rfl rfl (fun w' hS => val_assign rfl) ?_
    refine Sch.nil ?_
    refine run_seq (x := F5.c15) (y := F5.c16) (by kernel_rfl) ?_
    refine run_plain (id := 5) (ops := F5.o5) [(0, true), (1, true), (2, false), (3, true), (4, true), (5, true), (6, true), (7, true)] (by kernel_rfl) (by kernel_rfl) ?_
    refine yS (by kernel_rfl : opAt F5.o5 0 = some (some 34, .move (.tmp 4), none)) rfl rfl (fun w' hS => val_move rfl) ?_
    refine yS (by kernel_rfl : opAt F5.o5 1 = some (some 35, .move (.tmp 5), none)) rfl rfl (fun w' hS => val_move rfl) ?_
    have hce : countE a b = 0 := by unfold countE; rw [hka, hkb]; rfl
    have hce2 : countE b a = 0 := by unfold countE; rw [hka, hkb]; rfl
    have hcm : checkM [a] [b] 1 = 0 := checkM_good (n := 1) (mask := 1) rfl rfl (by decide) (by simpa using hka) (by simpa using hkb) (by decide)
    refine cS (by kernel_rfl : opAt F5.o5 2 = some (some 36, .call { callee := .value (.func 18), args := #[(.tmp 34), (.tmp 35)], argTypes := #[39, 39] }, none)) rfl rfl (ent Try.call18 rfl) (count_ok hF ha hb hsa hsb) ?_
    rintro vw7 w7 ⟨hv, hs⟩
    refine ⟨trivial, ?_⟩
    replace hF := hF.st hs
    replace hT := hT.trans hs (by simp)
    replace hl := hl.st hs (by first | decide | (simp <;> omega))
    replace hd := hd.st hs (by first | decide | (simp <;> omega)) (by first | decide | (simp <;> omega))
    replace ha := ha.st hs (by first | decide | (simp <;> omega))
    replace hb := hb.st hs (by first | decide | (simp <;> omega))
    rw [if_neg (by rw [hce]; decide), hce] at hv
    subst hv
    refine yS (by kernel_rfl : opAt F5.o5 3 = some (some 33, .move (.tmp 36), none)) rfl rfl (fun w' hS => val_move rfl) ?_
    refine yS (by kernel_rfl : opAt F5.o5 4 = some (some 37, .extract (.tmp 33) 0, none)) rfl rfl (fun w' hS => val_extract rfl rfl) ?_
    refine yS (by kernel_rfl : opAt F5.o5 5 = some (some 38, .extract (.tmp 33) 1, none)) rfl rfl (fun w' hS => val_extract rfl rfl) ?_
    refine yS (by kernel_rfl : opAt F5.o5 6 = some (some 6, .assign (.tmp 37), none)) rfl rfl (fun w' hS => val_assign rfl) ?_
    refine yS (by kernel_rfl : opAt F5.o5 7 = some (some 7, .assign (.tmp 38), none)) rfl rfl (fun w' hS => val_assign rfl) ?_
    refine Sch.nil ?_
    refine run_seq (x := F5.c17) (y := F5.c18) (by kernel_rfl) ?_
    refine run_plain (id := 6) (ops := F5.o6) [(0, true), (1, false), (2, true), (3, false), (4, false), (5, true), (6, true), (7, true), (8, true), (9, true)] (by kernel_rfl) (by kernel_rfl) ?_
    refine yS (by kernel_rfl : opAt F5.o6 0 = some (some 40, .move (.tmp 4), none)) rfl rfl (fun w' hS => val_move rfl) ?_
    refine aS (by kernel_rfl : opAt F5.o6 1 = some (some 41, .buildSlice 28 1 #[(0, (.tmp 40))], none)) rfl rfl (a_buildSlice (ys := ([a] : List (List Block))) (e := 39) (bytes := 24) hF (by kernel_rfl) rfl (by decide) (by decide) ⟨rfl, ⟨_, rfl, ha⟩, trivial⟩) ?_
    rintro v41 w8 ⟨hs, g41, hF⟩
    refine ⟨trivial, ?_⟩
    replace hT := hT.trans hs (by simp)
    replace hl := hl.st hs (by first | decide | (simp <;> omega))
    replace hd := hd.st hs (by first | decide | (simp <;> omega)) (by first | decide | (simp <;> omega))
    replace ha := ha.st hs (by first | decide | (simp <;> omega))
    replace hb := hb.st hs (by first | decide | (simp <;> omega))
    refine yS (by kernel_rfl : opAt F5.o6 2 = some (some 42, .move (.tmp 5), none)) rfl rfl (fun w' hS => val_move rfl) ?_
    refine aS (by kernel_rfl : opAt F5.o6 3 = some (some 43, .buildSlice 28 1 #[(0, (.tmp 42))], none)) rfl rfl (a_buildSlice (ys := ([b] : List (List Block))) (e := 39) (bytes := 24) hF (by kernel_rfl) rfl (by decide) (by decide) ⟨rfl, ⟨_, rfl, hb⟩, trivial⟩) ?_
    rintro v43 w9 ⟨hs, g43, hF⟩
    refine ⟨trivial, ?_⟩
    replace hT := hT.trans hs (by simp)
    replace hl := hl.st hs (by first | decide | (simp <;> omega))
    replace hd := hd.st hs (by first | decide | (simp <;> omega)) (by first | decide | (simp <;> omega))
    replace ha := ha.st hs (by first | decide | (simp <;> omega))
    replace hb := hb.st hs (by first | decide | (simp <;> omega))
    replace g41 := g41.st hs (by first | decide | (simp <;> omega))
    refine cS (by kernel_rfl : opAt F5.o6 4 = some (some 44, .call { callee := .value (.func 16), args := #[(.tmp 41), (.tmp 43), (.const (.int .i64 1))], argTypes := #[28, 28, 3] }, none)) rfl rfl (ent Try.call16 rfl) (agreeing_ok (a := [a]) (b := [b]) hF g41 g43 (by intro x hx; rw [List.mem_singleton] at hx; subst hx; exact hsa) (by intro x hx; rw [List.mem_singleton] at hx; subst hx; exact hsb)) ?_
    rintro vw10 w10 ⟨hv, hs⟩
    refine ⟨trivial, ?_⟩
    replace hF := hF.st hs
    replace hT := hT.trans hs (by simp)
    replace hl := hl.st hs (by first | decide | (simp <;> omega))
    replace hd := hd.st hs (by first | decide | (simp <;> omega)) (by first | decide | (simp <;> omega))
    replace ha := ha.st hs (by first | decide | (simp <;> omega))
    replace hb := hb.st hs (by first | decide | (simp <;> omega))
    replace g41 := g41.st hs (by first | decide | (simp <;> omega))
    replace g43 := g43.st hs (by first | decide | (simp <;> omega))
    rw [if_neg (by rw [hcm]; decide), hcm, show (1 : Int).toNat = 1 from rfl, agreeS_one hoa hob] at hv
    subst hv
    refine yS (by kernel_rfl : opAt F5.o6 5 = some (some 39, .move (.tmp 44), none)) rfl rfl (fun w' hS => val_move rfl) ?_
    refine yS (by kernel_rfl : opAt F5.o6 6 = some (some 45, .extract (.tmp 39) 0, none)) rfl rfl (fun w' hS => val_extract rfl rfl) ?_
    refine yS (by kernel_rfl : opAt F5.o6 7 = some (some 46, .extract (.tmp 39) 1, none)) rfl rfl (fun w' hS => val_extract rfl rfl) ?_
    refine yS (by kernel_rfl : opAt F5.o6 8 = some (some 8, .assign (.tmp 45), none)) rfl rfl (fun w' hS => val_assign rfl) ?_
    refine yS (by kernel_rfl : opAt F5.o6 9 = some (some 9, .assign (.tmp 46), none)) rfl rfl (fun w' hS => val_assign rfl) ?_
    refine Sch.nil ?_
    refine run_seq (x := F5.c19) (y := F5.c20) (by kernel_rfl) ?_
    refine run_plain (id := 7) (ops := F5.o7) [(0, true), (1, false), (2, true), (3, false), (4, false), (5, true), (6, true), (7, true), (8, true), (9, true)] (by kernel_rfl) (by kernel_rfl) ?_
    refine yS (by kernel_rfl : opAt F5.o7 0 = some (some 48, .move (.tmp 4), none)) rfl rfl (fun w' hS => val_move rfl) ?_
    refine aS (by kernel_rfl : opAt F5.o7 1 = some (some 49, .buildSlice 28 1 #[(0, (.tmp 48))], none)) rfl rfl (a_buildSlice (ys := ([a] : List (List Block))) (e := 39) (bytes := 24) hF (by kernel_rfl) rfl (by decide) (by decide) ⟨rfl, ⟨_, rfl, ha⟩, trivial⟩) ?_
    rintro v49 w11 ⟨hs, g49, hF⟩
    refine ⟨trivial, ?_⟩
    replace hT := hT.trans hs (by simp)
    replace hl := hl.st hs (by first | decide | (simp <;> omega))
    replace hd := hd.st hs (by first | decide | (simp <;> omega)) (by first | decide | (simp <;> omega))
    replace ha := ha.st hs (by first | decide | (simp <;> omega))
    replace hb := hb.st hs (by first | decide | (simp <;> omega))
    replace g41 := g41.st hs (by first | decide | (simp <;> omega))
    replace g43 := g43.st hs (by first | decide | (simp <;> omega))
    refine yS (by kernel_rfl : opAt F5.o7 2 = some (some 50, .move (.tmp 5), none)) rfl rfl (fun w' hS => val_move rfl) ?_
    refine aS (by kernel_rfl : opAt F5.o7 3 = some (some 51, .buildSlice 28 1 #[(0, (.tmp 50))], none)) rfl rfl (a_buildSlice (ys := ([b] : List (List Block))) (e := 39) (bytes := 24) hF (by kernel_rfl) rfl (by decide) (by decide) ⟨rfl, ⟨_, rfl, hb⟩, trivial⟩) ?_
    rintro v51 w12 ⟨hs, g51, hF⟩
    refine ⟨trivial, ?_⟩
    replace hT := hT.trans hs (by simp)
    replace hl := hl.st hs (by first | decide | (simp <;> omega))
    replace hd := hd.st hs (by first | decide | (simp <;> omega)) (by first | decide | (simp <;> omega))
    replace ha := ha.st hs (by first | decide | (simp <;> omega))
    replace hb := hb.st hs (by first | decide | (simp <;> omega))
    replace g41 := g41.st hs (by first | decide | (simp <;> omega))
    replace g43 := g43.st hs (by first | decide | (simp <;> omega))
    replace g49 := g49.st hs (by first | decide | (simp <;> omega))
    refine cS (by kernel_rfl : opAt F5.o7 4 = some (some 52, .call { callee := .value (.func 14), args := #[(.tmp 49), (.tmp 51), (.const (.int .i64 1))], argTypes := #[28, 28, 3] }, none)) rfl rfl (ent Try.call14 rfl) (union_ok (a := [a]) (b := [b]) hF g49 g51 (by intro x hx; rw [List.mem_singleton] at hx; subst hx; exact hsa) (by intro x hx; rw [List.mem_singleton] at hx; subst hx; exact hsb)) ?_
    rintro vw13 w13 ⟨hv, hs⟩
    refine ⟨trivial, ?_⟩
    replace hF := hF.st hs
    replace hT := hT.trans hs (by simp)
    replace hl := hl.st hs (by first | decide | (simp <;> omega))
    replace hd := hd.st hs (by first | decide | (simp <;> omega)) (by first | decide | (simp <;> omega))
    replace ha := ha.st hs (by first | decide | (simp <;> omega))
    replace hb := hb.st hs (by first | decide | (simp <;> omega))
    replace g41 := g41.st hs (by first | decide | (simp <;> omega))
    replace g43 := g43.st hs (by first | decide | (simp <;> omega))
    replace g49 := g49.st hs (by first | decide | (simp <;> omega))
    replace g51 := g51.st hs (by first | decide | (simp <;> omega))
    rw [if_neg (by rw [hcm]; decide), hcm, show (1 : Int).toNat = 1 from rfl, listS_one hoa hob] at hv
    subst hv
    refine yS (by kernel_rfl : opAt F5.o7 5 = some (some 47, .move (.tmp 52), none)) rfl rfl (fun w' hS => val_move rfl) ?_
    refine yS (by kernel_rfl : opAt F5.o7 6 = some (some 53, .extract (.tmp 47) 0, none)) rfl rfl (fun w' hS => val_extract rfl rfl) ?_
    refine yS (by kernel_rfl : opAt F5.o7 7 = some (some 54, .extract (.tmp 47) 1, none)) rfl rfl (fun w' hS => val_extract rfl rfl) ?_
    refine yS (by kernel_rfl : opAt F5.o7 8 = some (some 10, .assign (.tmp 53), none)) rfl rfl (fun w' hS => val_assign rfl) ?_
    refine yS (by kernel_rfl : opAt F5.o7 9 = some (some 11, .assign (.tmp 54), none)) rfl rfl (fun w' hS => val_assign rfl) ?_
    refine Sch.nil ?_
    refine run_seq (x := F5.c21) (y := F5.c22) (by kernel_rfl) ?_
    refine run_plain (id := 8) (ops := F5.o8) [(0, true), (1, true), (2, false), (3, true), (4, true), (5, true), (6, true), (7, true)] (by kernel_rfl) (by kernel_rfl) ?_
    refine yS (by kernel_rfl : opAt F5.o8 0 = some (some 56, .move (.tmp 5), none)) rfl rfl (fun w' hS => val_move rfl) ?_
    refine yS (by kernel_rfl : opAt F5.o8 1 = some (some 57, .move (.tmp 4), none)) rfl rfl (fun w' hS => val_move rfl) ?_
    refine cS (by kernel_rfl : opAt F5.o8 2 = some (some 58, .call { callee := .value (.func 18), args := #[(.tmp 56), (.tmp 57)], argTypes := #[39, 39] }, none)) rfl rfl (ent Try.call18 rfl) (count_ok hF hb ha hsb hsa) ?_
    rintro vw14 w14 ⟨hv, hs⟩
    refine ⟨trivial, ?_⟩
    replace hF := hF.st hs
    replace hT := hT.trans hs (by simp)
    replace hl := hl.st hs (by first | decide | (simp <;> omega))
    replace hd := hd.st hs (by first | decide | (simp <;> omega)) (by first | decide | (simp <;> omega))
    replace ha := ha.st hs (by first | decide | (simp <;> omega))
    replace hb := hb.st hs (by first | decide | (simp <;> omega))
    replace g41 := g41.st hs (by first | decide | (simp <;> omega))
    replace g43 := g43.st hs (by first | decide | (simp <;> omega))
    replace g49 := g49.st hs (by first | decide | (simp <;> omega))
    replace g51 := g51.st hs (by first | decide | (simp <;> omega))
    rw [if_neg (by rw [hce2]; decide), hce2, countS_comm] at hv
    subst hv
    refine yS (by kernel_rfl : opAt F5.o8 3 = some (some 55, .move (.tmp 58), none)) rfl rfl (fun w' hS => val_move rfl) ?_
    refine yS (by kernel_rfl : opAt F5.o8 4 = some (some 59, .extract (.tmp 55) 0, none)) rfl rfl (fun w' hS => val_extract rfl rfl) ?_
    refine yS (by kernel_rfl : opAt F5.o8 5 = some (some 60, .extract (.tmp 55) 1, none)) rfl rfl (fun w' hS => val_extract rfl rfl) ?_
    refine yS (by kernel_rfl : opAt F5.o8 6 = some (some 12, .assign (.tmp 59), none)) rfl rfl (fun w' hS => val_assign rfl) ?_
    refine yS (by kernel_rfl : opAt F5.o8 7 = some (some 13, .assign (.tmp 60), none)) rfl rfl (fun w' hS => val_assign rfl) ?_
    refine Sch.nil ?_
    refine run_seq (x := F5.c23) (y := F5.c24) (by kernel_rfl) ?_
    refine run_plain (id := 9) (ops := F5.o9) [(0, true)] (by kernel_rfl) (by kernel_rfl) ?_
    refine yS (by kernel_rfl : opAt F5.o9 0 = some (some 14, .assign (.const (.int .i64 0)), none)) rfl rfl (fun w' hS => val_assign rfl) ?_
    refine Sch.nil ?_
    refine run_seq (x := F5.c25) (y := F5.c60) (by kernel_rfl) ?_
    refine run_seq (x := F5.c26) (y := F5.c27) (by kernel_rfl) ?_
    refine run_plain (id := 10) (ops := F5.o10) [(0, true), (1, true), (2, true)] (by kernel_rfl) (by kernel_rfl) ?_
    refine yS (by kernel_rfl : opAt F5.o10 0 = some (some 61, .move (.tmp 4), none)) rfl rfl (fun w' hS => val_move rfl) ?_
    refine yS (by kernel_rfl : opAt F5.o10 1 = some (some 62, .call { callee := .builtin .len, args := #[(.tmp 61)], argTypes := #[39] }, none)) rfl rfl (fun w' hS => ha.lenV rfl Try.underlying39 w' ) ?_
    refine yS (by kernel_rfl : opAt F5.o10 2 = some (some 63, .move (.const (.int .i64 0)), none)) rfl rfl (fun w' hS => val_move rfl) ?_
    refine Sch.nil ?_
    refine run_block (x := F5.c28) (id := 0) (by kernel_rfl) ?_
    refine run_loop (ι := Nat × (Nat → Nat)) (I := fun x w => x.1 ≤ a.length ∧ Lim w x.2 ∧ Stp [2, 3, 4, 5, 6, 7, 8, 9] w₀ (col1 C) w x.2 ∧ RV w (Mc x.2) a vw5 ∧ RV w (Mc x.2) b vw6) (e := fun x => [(5, vw6), (6, .int .i64 (countS a b : Nat)), (7, .int .i64 0), (8, .int .i64 (countS a b : Nat)), (9, .int .i64 0), (10, .int .i64 (countS a b : Nat)), (11, .int .i64 0), (12, .int .i64 (countS a b : Nat)), (13, .int .i64 0), (14, .int .i64 ((a.take x.1).foldl (cnt2 b) 0 : Nat)), (61, vw5), (62, .int .i64 a.length), (63, .int .i64 x.1)]) (m := fun x => a.length - x.1) (x₀ := (0, Cd)) (body := F5.c29) (by kernel_rfl) (sub_cons 5 rfl rfl (sub_cons 6 rfl rfl (sub_cons 7 rfl rfl (sub_cons 8 rfl rfl (sub_cons 9 rfl rfl (sub_cons 10 rfl rfl (sub_cons 11 rfl rfl (sub_cons 12 rfl rfl (sub_cons 13 rfl rfl (sub_cons 14 rfl rfl (sub_cons 61 rfl rfl (sub_cons 62 rfl rfl (sub_cons 63 rfl rfl (sub_nil _)))))))))))))) ?_ ?_
    · exact ⟨Nat.zero_le _, hF, hT, ha, hb⟩
    intro ⟨i, C1⟩ w15 hI next
    obtain ⟨hi, hF, hT, ha, hb⟩ := hI
    simp only at hi hF hT ha hb
    show Run _ _ _ _ [(5, vw6), (6, .int .i64 (countS a b : Nat)), (7, .int .i64 0), (8, .int .i64 (countS a b : Nat)), (9, .int .i64 0), (10, .int .i64 (countS a b : Nat)), (11, .int .i64 0), (12, .int .i64 (countS a b : Nat)), (13, .int .i64 0), (14, .int .i64 ((a.take i).foldl (cnt2 b) 0 : Nat)), (61, vw5), (62, .int .i64 a.length), (63, .int .i64 (i : Int))] _ _
    have hla := ha.le
    refine run_seq (x := F5.c30) (y := F5.c31) (by kernel_rfl) ?_
    refine run_plain (id := 11) (ops := F5.o11) [(0, true)] (by kernel_rfl) (by kernel_rfl) ?_
    refine yS (by kernel_rfl : opAt F5.o11 0 = some (some 64, .binOp .lss 3 (.tmp 63) (.tmp 62) 3, none)) rfl rfl (fun w' hS => val_lss rfl rfl) ?_
    refine Sch.nil ?_
    refine run_seq (x := F5.c32) (y := F5.c35) (by kernel_rfl) ?_
    refine run_if (x := F5.c33) (y := F5.c34) (o := .tmp 64) (by kernel_rfl) rfl (fun h64 => ?_) (fun h64 => ?_)
    · skip
      have hia : i < a.length := by omega
      refine run_skip (by kernel_rfl) ?_
      refine run_seq (x := F5.c36) (y := F5.c59) (by kernel_rfl) ?_
      refine run_block (x := F5.c37) (id := 1) (by kernel_rfl) ?_
      refine run_seq (x := F5.c38) (y := F5.c39) (by kernel_rfl) ?_
      refine run_plain (id := 12) (ops := F5.o12) [(0, true), (1, false), (2, false), (3, false)] (by kernel_rfl) (by kernel_rfl) ?_
      refine iS (e := 44) (by kernel_rfl : opAt F5.o12 0 = some (some 65, .indexAddr 39 (.tmp 61) (.tmp 63), none)) rfl rfl ha rfl (by kernel_rfl) rfl (by omega) (by omega) ?_
      intro b65 o65 h65
      try simp only [Int.toNat_natCast] at h65
      refine lNA (by kernel_rfl : opAt F5.o12 1 = some (some 66, .load 44 (.tmp 65), none)) rfl rfl trivial h65 (by kernel_rfl) (by kernel_rfl) rfl rfl ?_
      intro v66 g66
      obtain ⟨u66, rfl, gu66⟩ := rv_block' g66
      refine aS (by kernel_rfl : opAt F5.o12 2 = some (some 16, .alloc 44, none)) rfl rfl (a_alloc (cs := [.int .u64 0, .slice none 0 0]) hF 4 (by kernel_rfl)) ?_
      rintro _ w16 ⟨Cw16, bw16, rfl, hs, hx, hF⟩
      refine ⟨trivial, ?_⟩
      replace hT := hT.trans hs (by simp)
      replace ha := ha.st hs (by first | decide | (simp <;> omega))
      replace hb := hb.st hs (by first | decide | (simp <;> omega))
      replace h65 := h65.st hs (by first | decide | (simp <;> omega))
      replace gu66 := gu66.st hs (by first | decide | (simp <;> omega))
      refine aN (by kernel_rfl : opAt F5.o12 3 = some (none, .store 44 (.tmp 16) (.tmp 66), none)) rfl (a_storeAll (vs := [.int .u64 ((a[i]'hia)).hash, u66]) (n := 2) rfl rfl (by kernel_rfl) rfl rfl (by intro u hu; simp only [List.mem_cons, List.not_mem_nil, or_false] at hu; rcases hu with rfl | rfl <;> first | rfl | exact (gu66.one rfl).2) hx rfl) ?_
      rintro _ w17 ⟨rfl, hs, hx⟩
      refine ⟨trivial, ?_⟩
      replace hF := hF.st hs
      replace hT := hT.trans hs (by simp)
      replace ha := ha.st hs (by first | decide | (simp <;> omega))
      replace hb := hb.st hs (by first | decide | (simp <;> omega))
      replace h65 := h65.st hs (by first | decide | (simp <;> omega))
      replace gu66 := gu66.st hs (by first | decide | (simp <;> omega))
      refine Sch.nil ?_
      refine run_seq (x := F5.c40) (y := F5.c41) (by kernel_rfl) ?_
      refine run_plain (id := 13) (ops := F5.o13) [(0, true), (1, true), (2, true)] (by kernel_rfl) (by kernel_rfl) ?_
      refine yS (by kernel_rfl : opAt F5.o13 0 = some (some 67, .move (.tmp 5), none)) rfl rfl (fun w' hS => val_move rfl) ?_
      refine yS (by kernel_rfl : opAt F5.o13 1 = some (some 68, .call { callee := .builtin .len, args := #[(.tmp 67)], argTypes := #[39] }, none)) rfl rfl (fun w' hS => hb.lenV rfl Try.underlying39 w' ) ?_
      refine yS (by kernel_rfl : opAt F5.o13 2 = some (some 69, .move (.const (.int .i64 0)), none)) rfl rfl (fun w' hS => val_move rfl) ?_
      refine Sch.nil ?_
      refine run_block (x := F5.c42) (id := 2) (by kernel_rfl) ?_
      have next0 := next
      clear next
      refine run_loop (ι := Nat × (Nat → Nat)) (I := fun x w => x.1 ≤ b.length ∧ Lim w x.2 ∧ Stp [2, 3, 4, 5, 6, 7, 8, 9] w₀ (col1 C) w x.2 ∧ RV w (Mc x.2) a vw5 ∧ RV w (Mc x.2) b vw6 ∧ RV w (Mc x.2) (a[i]'hia).ids u66 ∧ OwnB w x.2 4 bw16 (.cells [.int .u64 (a[i]'hia).hash, u66].toArray 44)) (e := fun x => [(5, vw6), (6, .int .i64 (countS a b : Nat)), (7, .int .i64 0), (8, .int .i64 (countS a b : Nat)), (9, .int .i64 0), (10, .int .i64 (countS a b : Nat)), (11, .int .i64 0), (12, .int .i64 (countS a b : Nat)), (13, .int .i64 0), (14, .int .i64 ((b.take x.1).foldl (cnt3 (a[i]'hia)) ((a.take i).foldl (cnt2 b) 0) : Nat)), (16, .pointer (some ⟨bw16, 0, none⟩)), (61, vw5), (62, .int .i64 a.length), (63, .int .i64 i), (67, vw6), (68, .int .i64 b.length), (69, .int .i64 x.1)]) (m := fun x => b.length - x.1) (x₀ := (0, Cw16)) (body := F5.c43) (by kernel_rfl) (sub_cons 5 rfl rfl (sub_cons 6 rfl rfl (sub_cons 7 rfl rfl (sub_cons 8 rfl rfl (sub_cons 9 rfl rfl (sub_cons 10 rfl rfl (sub_cons 11 rfl rfl (sub_cons 12 rfl rfl (sub_cons 13 rfl rfl (sub_cons 14 rfl rfl (sub_cons 16 rfl rfl (sub_cons 61 rfl rfl (sub_cons 62 rfl rfl (sub_cons 63 rfl rfl (sub_cons 67 rfl rfl (sub_cons 68 rfl rfl (sub_cons 69 rfl rfl (sub_nil _)))))))))))))))))) ?_ ?_
      · exact ⟨Nat.zero_le _, hF, hT, ha, hb, gu66, hx⟩
      intro ⟨k, C2⟩ w18 hI next
      obtain ⟨hk, hF, hT, ha, hb, gu66, hx⟩ := hI
      simp only at hk hF hT ha hb gu66 hx
      show Run _ _ _ _ [(5, vw6), (6, .int .i64 (countS a b : Nat)), (7, .int .i64 0), (8, .int .i64 (countS a b : Nat)), (9, .int .i64 0), (10, .int .i64 (countS a b : Nat)), (11, .int .i64 0), (12, .int .i64 (countS a b : Nat)), (13, .int .i64 0), (14, .int .i64 ((b.take k).foldl (cnt3 (a[i]'hia)) ((a.take i).foldl (cnt2 b) 0) : Nat)), (16, .pointer (some ⟨bw16, 0, none⟩)), (61, vw5), (62, .int .i64 a.length), (63, .int .i64 i), (67, vw6), (68, .int .i64 b.length), (69, .int .i64 (k : Int))] _ _
      have hlb := hb.le
      have q1 := cnt1_le b (a.take i) 0
      have q2 := cnt2_le (a[i]'hia) (b.take k) ((a.take i).foldl (cnt2 b) 0)
      have q3 := Nat.mul_le_mul (totalN_take a i) (Nat.le_refl (totalN b))
      have q5 := Nat.mul_le_mul hta htb
      have q7 : (b.take k).foldl (cnt3 (a[i]'hia)) ((a.take i).foldl (cnt2 b) 0) ≤ 16384 := by
        have e : cnt2 (b.take k) ((a.take i).foldl (cnt2 b) 0) (a[i]'hia) = (b.take k).foldl (cnt3 (a[i]'hia)) ((a.take i).foldl (cnt2 b) 0) := rfl
        have q9 : totalN (b.take k) ≤ 64 := Nat.le_trans (totalN_take b k) htb
        have q10 := Nat.mul_le_mul (Nat.le_trans (ids_le hia) hta) q9
        omega
      refine run_seq (x := F5.c44) (y := F5.c45) (by kernel_rfl) ?_
      refine run_plain (id := 14) (ops := F5.o14) [(0, true)] (by kernel_rfl) (by kernel_rfl) ?_
      refine yS (by kernel_rfl : opAt F5.o14 0 = some (some 70, .binOp .lss 3 (.tmp 69) (.tmp 68) 3, none)) rfl rfl (fun w' hS => val_lss rfl rfl) ?_
      refine Sch.nil ?_
      refine run_seq (x := F5.c46) (y := F5.c49) (by kernel_rfl) ?_
      refine run_if (x := F5.c47) (y := F5.c48) (o := .tmp 70) (by kernel_rfl) rfl (fun h70 => ?_) (fun h70 => ?_)
      · skip
        have hkb2 : k < b.length := by omega
        refine run_skip (by kernel_rfl) ?_
        refine run_seq (x := F5.c50) (y := F5.c58) (by kernel_rfl) ?_
        refine run_block (x := F5.c51) (id := 3) (by kernel_rfl) ?_
        refine run_seq (x := F5.c52) (y := F5.c53) (by kernel_rfl) ?_
        refine run_plain (id := 15) (ops := F5.o15) [(0, true), (1, false), (2, false), (3, false)] (by kernel_rfl) (by kernel_rfl) ?_
        refine iS (e := 44) (by kernel_rfl : opAt F5.o15 0 = some (some 71, .indexAddr 39 (.tmp 67) (.tmp 69), none)) rfl rfl hb rfl (by kernel_rfl) rfl (by omega) (by omega) ?_
        intro b71 o71 h71
        try simp only [Int.toNat_natCast] at h71
        refine lNA (by kernel_rfl : opAt F5.o15 1 = some (some 72, .load 44 (.tmp 71), none)) rfl rfl trivial h71 (by kernel_rfl) (by kernel_rfl) rfl rfl ?_
        intro v72 g72
        obtain ⟨u72, rfl, gu72⟩ := rv_block' g72
        refine aS (by kernel_rfl : opAt F5.o15 2 = some (some 18, .alloc 44, none)) rfl rfl (a_alloc (cs := [.int .u64 0, .slice none 0 0]) hF 5 (by kernel_rfl)) ?_
        rintro _ w19 ⟨Cw19, bw19, rfl, hs, hy, hF⟩
        refine ⟨trivial, ?_⟩
        replace hT := hT.trans hs (by simp)
        replace ha := ha.st hs (by first | decide | (simp <;> omega))
        replace hb := hb.st hs (by first | decide | (simp <;> omega))
        replace gu66 := gu66.st hs (by first | decide | (simp <;> omega))
        replace hx := hx.st hs (by first | decide | (simp <;> omega))
        replace h71 := h71.st hs (by first | decide | (simp <;> omega))
        replace gu72 := gu72.st hs (by first | decide | (simp <;> omega))
        refine aN (by kernel_rfl : opAt F5.o15 3 = some (none, .store 44 (.tmp 18) (.tmp 72), none)) rfl (a_storeAll (vs := [.int .u64 ((b[k]'hkb2)).hash, u72]) (n := 2) rfl rfl (by kernel_rfl) rfl rfl (by intro u hu; simp only [List.mem_cons, List.not_mem_nil, or_false] at hu; rcases hu with rfl | rfl <;> first | rfl | exact (gu72.one rfl).2) hy rfl) ?_
        rintro _ w20 ⟨rfl, hs, hy⟩
        refine ⟨trivial, ?_⟩
        replace hF := hF.st hs
        replace hT := hT.trans hs (by simp)
        replace ha := ha.st hs (by first | decide | (simp <;> omega))
        replace hb := hb.st hs (by first | decide | (simp <;> omega))
        replace gu66 := gu66.st hs (by first | decide | (simp <;> omega))
        replace hx := hx.st hs (by first | decide | (simp <;> omega))
        replace h71 := h71.st hs (by first | decide | (simp <;> omega))
        replace gu72 := gu72.st hs (by first | decide | (simp <;> omega))
        refine Sch.nil ?_
        refine run_seq (x := F5.c54) (y := F5.c55) (by kernel_rfl) ?_
        refine run_plain (id := 16) (ops := F5.o16) [(0, true), (1, false), (2, true), (3, false), (4, true)] (by kernel_rfl) (by kernel_rfl) ?_
        refine yS (by kernel_rfl : opAt F5.o16 0 = some (some 73, .fieldAddr 44 (.tmp 16) 0, none)) rfl rfl (fun w' hS => val_fieldAddr (off := 0) (by kernel_rfl) rfl) ?_
        refine nS (by kernel_rfl : opAt F5.o16 1 = some (some 74, .load 42 (.tmp 73), none)) rfl rfl trivial (val_loadOwn hx.at_ (by kernel_rfl) rfl rfl) ?_
        refine yS (by kernel_rfl : opAt F5.o16 2 = some (some 75, .fieldAddr 44 (.tmp 18) 0, none)) rfl rfl (fun w' hS => val_fieldAddr (off := 0) (by kernel_rfl) rfl) ?_
        refine nS (by kernel_rfl : opAt F5.o16 3 = some (some 76, .load 42 (.tmp 75), none)) rfl rfl trivial (val_loadOwn hy.at_ (by kernel_rfl) rfl rfl) ?_
        refine yS (by kernel_rfl : opAt F5.o16 4 = some (some 77, .binOp .eql 42 (.tmp 74) (.tmp 76) 42, none)) rfl rfl (fun w' hS => val_eql rfl rfl) ?_
        refine Sch.nil ?_
        refine run_if (x := F5.c56) (y := F5.c57) (o := .tmp 77) (by kernel_rfl) rfl (fun h77 => ?_) (fun h77 => ?_)
        · skip
          refine run_plain (id := 17) (ops := F5.o17) [(0, true), (1, true), (2, false), (3, true), (4, true), (5, false), (6, true), (7, true), (8, true), (9, true)] (by kernel_rfl) (by kernel_rfl) ?_
          refine yS (by kernel_rfl : opAt F5.o17 0 = some (some 78, .move (.tmp 14), none)) rfl rfl (fun w' hS => val_move rfl) ?_
          refine yS (by kernel_rfl : opAt F5.o17 1 = some (some 79, .fieldAddr 44 (.tmp 16) 1, none)) rfl rfl (fun w' hS => val_fieldAddr (off := 1) (by kernel_rfl) rfl) ?_
          refine nS (by kernel_rfl : opAt F5.o17 2 = some (some 80, .load 22 (.tmp 79), none)) rfl rfl trivial (val_loadOwn hx.at_ (by kernel_rfl) rfl rfl) ?_
          refine yS (by kernel_rfl : opAt F5.o17 3 = some (some 81, .call { callee := .builtin .len, args := #[(.tmp 80)], argTypes := #[22] }, none)) rfl rfl (fun w' hS => gu66.lenV rfl Try.underlying22 w' ) ?_
          refine yS (by kernel_rfl : opAt F5.o17 4 = some (some 82, .fieldAddr 44 (.tmp 18) 1, none)) rfl rfl (fun w' hS => val_fieldAddr (off := 1) (by kernel_rfl) rfl) ?_
          refine nS (by kernel_rfl : opAt F5.o17 5 = some (some 83, .load 22 (.tmp 82), none)) rfl rfl trivial (val_loadOwn hy.at_ (by kernel_rfl) rfl rfl) ?_
          refine yS (by kernel_rfl : opAt F5.o17 6 = some (some 84, .call { callee := .builtin .len, args := #[(.tmp 83)], argTypes := #[22] }, none)) rfl rfl (fun w' hS => gu72.lenV rfl Try.underlying22 w' ) ?_
          have q20 := Nat.mul_le_mul (Nat.le_trans (ids_le hia) hta) (Nat.le_trans (ids_le hkb2) htb)
          have q21 : (((a[i]'hia).ids.length : Nat) : Int) * ((b[k]'hkb2).ids.length : Nat) = (((a[i]'hia).ids.length * (b[k]'hkb2).ids.length : Nat) : Int) := by simp
          refine yS (by kernel_rfl : opAt F5.o17 7 = some (some 85, .binOp .mul 3 (.tmp 81) (.tmp 84) 3, none)) rfl rfl (fun w' hS => val_is (val_muli rfl rfl (by rw [q21]; omega) (by rw [q21]; omega)) (congrArg (Value.int .i64) q21)) ?_
          refine yS (by kernel_rfl : opAt F5.o17 8 = some (some 86, .binOp .add 3 (.tmp 78) (.tmp 85) 3, none)) rfl rfl (fun w' hS => val_addi rfl rfl (by omega) (by omega)) ?_
          refine yS (by kernel_rfl : opAt F5.o17 9 = some (some 14, .assign (.tmp 86), none)) rfl rfl (fun w' hS => val_assign rfl) ?_
          refine Sch.nil ?_
          refine run_inBlock ?_
          refine run_plain (id := 18) (ops := F5.o18) [(0, true), (1, true)] (by kernel_rfl) (by kernel_rfl) ?_
          refine yS (by kernel_rfl : opAt F5.o18 0 = some (some 87, .binOp .add 3 (.tmp 69) (.const (.int .i64 1)) 3, none)) rfl rfl (fun w' hS => val_addi rfl rfl (by omega) (by omega)) ?_
          refine yS (by kernel_rfl : opAt F5.o18 1 = some (some 69, .move (.tmp 87), none)) rfl rfl (fun w' hS => val_move rfl) ?_
          refine Sch.nil ?_
          refine kp (sub_cons 5 rfl rfl (sub_cons 6 rfl rfl (sub_cons 7 rfl rfl (sub_cons 8 rfl rfl (sub_cons 9 rfl rfl (sub_cons 10 rfl rfl (sub_cons 11 rfl rfl (sub_cons 12 rfl rfl (sub_cons 13 rfl rfl (sub_cons 14 rfl (eq_int (by simp only; rw [foldl_take _ _ _ k hkb2]; simp only [cnt3, if_pos h77]; simp)) (sub_cons 16 rfl rfl (sub_cons 61 rfl rfl (sub_cons 62 rfl rfl (sub_cons 63 rfl rfl (sub_cons 67 rfl rfl (sub_cons 68 rfl rfl (sub_cons 69 rfl (eq_int (by simp)) (sub_nil _)))))))))))))))))) (next (k + 1, Cw19) _ ⟨by simp only; omega, hF, hT, ha, hb, gu66, hx⟩ (by simp only; omega))
        · skip
          refine run_skip (by kernel_rfl) ?_
          refine run_inBlock ?_
          refine run_plain (id := 18) (ops := F5.o18) [(0, true), (1, true)] (by kernel_rfl) (by kernel_rfl) ?_
          refine yS (by kernel_rfl : opAt F5.o18 0 = some (some 87, .binOp .add 3 (.tmp 69) (.const (.int .i64 1)) 3, none)) rfl rfl (fun w' hS => val_addi rfl rfl (by omega) (by omega)) ?_
          refine yS (by kernel_rfl : opAt F5.o18 1 = some (some 69, .move (.tmp 87), none)) rfl rfl (fun w' hS => val_move rfl) ?_
          refine Sch.nil ?_
          refine kp (sub_cons 5 rfl rfl (sub_cons 6 rfl rfl (sub_cons 7 rfl rfl (sub_cons 8 rfl rfl (sub_cons 9 rfl rfl (sub_cons 10 rfl rfl (sub_cons 11 rfl rfl (sub_cons 12 rfl rfl (sub_cons 13 rfl rfl (sub_cons 14 rfl (eq_int (by simp only; rw [foldl_take _ _ _ k hkb2]; simp only [cnt3, if_neg h77])) (sub_cons 16 rfl rfl (sub_cons 61 rfl rfl (sub_cons 62 rfl rfl (sub_cons 63 rfl rfl (sub_cons 67 rfl rfl (sub_cons 68 rfl rfl (sub_cons 69 rfl (eq_int (by simp)) (sub_nil _)))))))))))))))))) (next (k + 1, Cw19) _ ⟨by simp only; omega, hF, hT, ha, hb, gu66, hx⟩ (by simp only; omega))
      · skip
        have hkb2 : k = b.length := by omega
        subst hkb2
        refine run_exit (id := 2) (by kernel_rfl) rfl ?_
        refine run_inBlock ?_
        refine run_plain (id := 19) (ops := F5.o19) [(0, true), (1, true)] (by kernel_rfl) (by kernel_rfl) ?_
        refine yS (by kernel_rfl : opAt F5.o19 0 = some (some 88, .binOp .add 3 (.tmp 63) (.const (.int .i64 1)) 3, none)) rfl rfl (fun w' hS => val_addi rfl rfl (by omega) (by omega)) ?_
        refine yS (by kernel_rfl : opAt F5.o19 1 = some (some 63, .move (.tmp 88), none)) rfl rfl (fun w' hS => val_move rfl) ?_
        refine Sch.nil ?_
        refine kp (sub_cons 5 rfl rfl (sub_cons 6 rfl rfl (sub_cons 7 rfl rfl (sub_cons 8 rfl rfl (sub_cons 9 rfl rfl (sub_cons 10 rfl rfl (sub_cons 11 rfl rfl (sub_cons 12 rfl rfl (sub_cons 13 rfl rfl (sub_cons 14 rfl (eq_int (by simp only [List.take_length]; rw [foldl_take _ _ _ i hia]; rfl)) (sub_cons 61 rfl rfl (sub_cons 62 rfl rfl (sub_cons 63 rfl (eq_int (by simp)) (sub_nil _)))))))))))))) (next0 (i + 1, C2) _ ⟨by simp only; omega, hF, hT, ha, hb⟩ (by simp only; omega))
    · skip
      have hia : i = a.length := by omega
      subst hia
      rw [List.take_length]
      refine run_exit (id := 0) (by kernel_rfl) rfl ?_
      refine run_seq (x := F5.c61) (y := F5.c62) (by kernel_rfl) ?_
      refine run_plain (id := 20) (ops := F5.o20) [(0, true), (1, true), (2, true), (3, true), (4, true), (5, true), (6, true), (7, true), (8, true), (9, true), (10, true), (11, true), (12, true), (13, true), (14, true), (15, true), (16, true), (17, true), (18, true), (19, true), (20, true), (21, true), (22, true), (23, true), (24, true), (25, true), (26, true), (27, true), (28, true), (29, true), (30, true), (31, true), (32, true), (33, true), (34, true)] (by kernel_rfl) (by kernel_rfl) ?_
      refine yS (by kernel_rfl : opAt F5.o20 0 = some (some 89, .move (.tmp 7), none)) rfl rfl (fun w' hS => val_move rfl) ?_
      refine yS (by kernel_rfl : opAt F5.o20 1 = some (some 90, .binOp .eql 31 (.tmp 89) (.const (.int .i64 0)) 31, none)) rfl rfl (fun w' hS => val_T (val_eql rfl rfl) rfl) ?_
      refine yS (by kernel_rfl : opAt F5.o20 2 = some (some 91, .move (.tmp 90), none)) rfl rfl (fun w' hS => val_move rfl) ?_
      refine yS (by kernel_rfl : opAt F5.o20 3 = some (some 92, .move (.tmp 9), (some (2, true)))) rfl rfl (fun w' hS => val_move rfl) ?_
      refine yS (by kernel_rfl : opAt F5.o20 4 = some (some 93, .binOp .eql 31 (.tmp 92) (.const (.int .i64 0)) 31, (some (2, true)))) rfl rfl (fun w' hS => val_T (val_eql rfl rfl) rfl) ?_
      refine yS (by kernel_rfl : opAt F5.o20 5 = some (some 94, .pick (.tmp 91) (.tmp 93) (.const (.bool false)), none)) rfl rfl (fun w' hS => val_pick_t rfl rfl) ?_
      refine yS (by kernel_rfl : opAt F5.o20 6 = some (some 95, .move (.tmp 94), none)) rfl rfl (fun w' hS => val_move rfl) ?_
      refine yS (by kernel_rfl : opAt F5.o20 7 = some (some 96, .move (.tmp 11), (some (6, true)))) rfl rfl (fun w' hS => val_move rfl) ?_
      refine yS (by kernel_rfl : opAt F5.o20 8 = some (some 97, .binOp .eql 31 (.tmp 96) (.const (.int .i64 0)) 31, (some (6, true)))) rfl rfl (fun w' hS => val_T (val_eql rfl rfl) rfl) ?_
      refine yS (by kernel_rfl : opAt F5.o20 9 = some (some 98, .pick (.tmp 95) (.tmp 97) (.const (.bool false)), none)) rfl rfl (fun w' hS => val_pick_t rfl rfl) ?_
      refine yS (by kernel_rfl : opAt F5.o20 10 = some (some 99, .move (.tmp 98), none)) rfl rfl (fun w' hS => val_move rfl) ?_
      refine yS (by kernel_rfl : opAt F5.o20 11 = some (some 100, .move (.tmp 13), (some (10, true)))) rfl rfl (fun w' hS => val_move rfl) ?_
      refine yS (by kernel_rfl : opAt F5.o20 12 = some (some 101, .binOp .eql 31 (.tmp 100) (.const (.int .i64 0)) 31, (some (10, true)))) rfl rfl (fun w' hS => val_T (val_eql rfl rfl) rfl) ?_
      refine yS (by kernel_rfl : opAt F5.o20 13 = some (some 102, .pick (.tmp 99) (.tmp 101) (.const (.bool false)), none)) rfl rfl (fun w' hS => val_pick_t rfl rfl) ?_
      refine yS (by kernel_rfl : opAt F5.o20 14 = some (some 103, .move (.tmp 102), none)) rfl rfl (fun w' hS => val_move rfl) ?_
      refine yS (by kernel_rfl : opAt F5.o20 15 = some (some 104, .move (.tmp 6), (some (14, true)))) rfl rfl (fun w' hS => val_move rfl) ?_
      refine yS (by kernel_rfl : opAt F5.o20 16 = some (some 105, .move (.tmp 14), (some (14, true)))) rfl rfl (fun w' hS => val_move rfl) ?_
      refine yS (by kernel_rfl : opAt F5.o20 17 = some (some 106, .binOp .eql 3 (.tmp 104) (.tmp 105) 3, (some (14, true)))) rfl rfl (fun w' hS => val_T (val_eql rfl rfl) rfl) ?_
      refine yS (by kernel_rfl : opAt F5.o20 18 = some (some 107, .pick (.tmp 103) (.tmp 106) (.const (.bool false)), none)) rfl rfl (fun w' hS => val_pick_t rfl rfl) ?_
      refine yS (by kernel_rfl : opAt F5.o20 19 = some (some 108, .move (.tmp 107), none)) rfl rfl (fun w' hS => val_move rfl) ?_
      refine yS (by kernel_rfl : opAt F5.o20 20 = some (some 109, .move (.tmp 8), (some (19, true)))) rfl rfl (fun w' hS => val_move rfl) ?_
      refine yS (by kernel_rfl : opAt F5.o20 21 = some (some 110, .move (.tmp 6), (some (19, true)))) rfl rfl (fun w' hS => val_move rfl) ?_
      refine yS (by kernel_rfl : opAt F5.o20 22 = some (some 111, .binOp .eql 3 (.tmp 109) (.tmp 110) 3, (some (19, true)))) rfl rfl (fun w' hS => val_T (val_eql rfl rfl) rfl) ?_
      refine yS (by kernel_rfl : opAt F5.o20 23 = some (some 112, .pick (.tmp 108) (.tmp 111) (.const (.bool false)), none)) rfl rfl (fun w' hS => val_pick_t rfl rfl) ?_
      refine yS (by kernel_rfl : opAt F5.o20 24 = some (some 113, .move (.tmp 112), none)) rfl rfl (fun w' hS => val_move rfl) ?_
      refine yS (by kernel_rfl : opAt F5.o20 25 = some (some 114, .move (.tmp 10), (some (24, true)))) rfl rfl (fun w' hS => val_move rfl) ?_
      refine yS (by kernel_rfl : opAt F5.o20 26 = some (some 115, .move (.tmp 6), (some (24, true)))) rfl rfl (fun w' hS => val_move rfl) ?_
      refine yS (by kernel_rfl : opAt F5.o20 27 = some (some 116, .binOp .eql 3 (.tmp 114) (.tmp 115) 3, (some (24, true)))) rfl rfl (fun w' hS => val_T (val_eql rfl rfl) rfl) ?_
      refine yS (by kernel_rfl : opAt F5.o20 28 = some (some 117, .pick (.tmp 113) (.tmp 116) (.const (.bool false)), none)) rfl rfl (fun w' hS => val_pick_t rfl rfl) ?_
      refine yS (by kernel_rfl : opAt F5.o20 29 = some (some 118, .move (.tmp 117), none)) rfl rfl (fun w' hS => val_move rfl) ?_
      refine yS (by kernel_rfl : opAt F5.o20 30 = some (some 119, .move (.tmp 12), (some (29, true)))) rfl rfl (fun w' hS => val_move rfl) ?_
      refine yS (by kernel_rfl : opAt F5.o20 31 = some (some 120, .move (.tmp 6), (some (29, true)))) rfl rfl (fun w' hS => val_move rfl) ?_
      refine yS (by kernel_rfl : opAt F5.o20 32 = some (some 121, .binOp .eql 3 (.tmp 119) (.tmp 120) 3, (some (29, true)))) rfl rfl (fun w' hS => val_T (val_eql rfl rfl) rfl) ?_
      refine yS (by kernel_rfl : opAt F5.o20 33 = some (some 122, .pick (.tmp 118) (.tmp 121) (.const (.bool false)), none)) rfl rfl (fun w' hS => val_pick_t rfl rfl) ?_
      refine yS (by kernel_rfl : opAt F5.o20 34 = some (some 2, .assign (.tmp 122), none)) rfl rfl (fun w' hS => val_assign rfl) ?_
      refine Sch.nil ?_
      refine run_ret1 (by kernel_rfl) Try.func5 Try.results5 rfl ?_
      exact ⟨rfl, hT.out1 (by decide)⟩
namespace F5B
noncomputable def c0 : Code := bodyOf Try.f5
noncomputable def c1 : Code := cl c0
noncomputable def o0 : Array Oper := rops c1
noncomputable def c2 : Code := cr c0
noncomputable def c3 : Code := cl c2
noncomputable def c4 : Code := cl c3
noncomputable def o1 : Array Oper := rops c4
noncomputable def c5 : Code := cr c3
noncomputable def c6 : Code := cl c5
noncomputable def c7 : Code := cl c6
noncomputable def o2 : Array Oper := rops c7
noncomputable def c8 : Code := cr c6
noncomputable def c9 : Code := cr c5
noncomputable def c10 : Code := cr c2
noncomputable def c11 : Code := cl c10
noncomputable def o3 : Array Oper := rops c11
noncomputable def c12 : Code := cr c10
noncomputable def c13 : Code := cl c12
noncomputable def o4 : Array Oper := rops c13
noncomputable def c14 : Code := cr c12
noncomputable def c15 : Code := cl c14
noncomputable def o5 : Array Oper := rops c15
noncomputable def c16 : Code := cr c14
noncomputable def c17 : Code := cl c16
noncomputable def o6 : Array Oper := rops c17
noncomputable def c18 : Code := cr c16
noncomputable def c19 : Code := cl c18
noncomputable def o7 : Array Oper := rops c19
noncomputable def c20 : Code := cr c18
noncomputable def c21 : Code := cl c20
noncomputable def o8 : Array Oper := rops c21
noncomputable def c22 : Code := cr c20
noncomputable def c23 : Code := cl c22
noncomputable def o9 : Array Oper := rops c23
noncomputable def c24 : Code := cr c22
noncomputable def c25 : Code := cl c24
noncomputable def c26 : Code := cl c25
noncomputable def o10 : Array Oper := rops c26
noncomputable def c27 : Code := cr c25
noncomputable def c28 : Code := cl c27
noncomputable def c29 : Code := cl c28
noncomputable def c30 : Code := cl c29
noncomputable def o11 : Array Oper := rops c30
noncomputable def c31 : Code := cr c29
noncomputable def c32 : Code := cl c31
noncomputable def c33 : Code := cl c32
noncomputable def c34 : Code := cr c32
noncomputable def c35 : Code := cr c31
noncomputable def c36 : Code := cl c35
noncomputable def c37 : Code := cl c36
noncomputable def c38 : Code := cl c37
noncomputable def o12 : Array Oper := rops c38
noncomputable def c39 : Code := cr c37
noncomputable def c40 : Code := cl c39
noncomputable def o13 : Array Oper := rops c40
noncomputable def c41 : Code := cr c39
noncomputable def c42 : Code := cl c41
noncomputable def c43 : Code := cl c42
noncomputable def c44 : Code := cl c43
noncomputable def o14 : Array Oper := rops c44
noncomputable def c45 : Code := cr c43
noncomputable def c46 : Code := cl c45
noncomputable def c47 : Code := cl c46
noncomputable def c48 : Code := cr c46
noncomputable def c49 : Code := cr c45
noncomputable def c50 : Code := cl c49
noncomputable def c51 : Code := cl c50
noncomputable def c52 : Code := cl c51
noncomputable def o15 : Array Oper := rops c52
noncomputable def c53 : Code := cr c51
noncomputable def c54 : Code := cl c53
noncomputable def o16 : Array Oper := rops c54
noncomputable def c55 : Code := cr c53
noncomputable def c56 : Code := cl c55
noncomputable def o17 : Array Oper := rops c56
noncomputable def c57 : Code := cr c55
noncomputable def c58 : Code := cr c49
noncomputable def o18 : Array Oper := rops c58
noncomputable def c59 : Code := cr c35
noncomputable def o19 : Array Oper := rops c59
noncomputable def c60 : Code := cr c24
noncomputable def c61 : Code := cl c60
noncomputable def o20 : Array Oper := rops c61
noncomputable def c62 : Code := cr c60
end F5B
/-- .. where more is handed than it looks at. -/
theorem pairsSingle_big {w₀ : World} {C : Nat → Nat} {p : Option Addr} {n c : Nat} (hF : Lim w₀ C) (hn : 400 < n) : Calls Try.prog 5 #[.slice p n c] w₀ (Ret fun v w' => v = .bool true ∧ Stp [] w₀ C w' C) := by
  have hF0 := hF
  have hT := Stp.refl [2, 3, 4, 5, 6, 7, 8, 9] w₀ (col1 C)
  replace hF := hF.col1
  refine calls_start (c := F5B.c0) (N := 123) [.slice p n c] Try.func5 (by kernel_rfl) (by kernel_rfl) (by kernel_rfl) ?_
  show Run _ _ _ _ [(0, .slice p n c)] _ _
  refine run_seq (x := F5B.c1) (y := F5B.c2) (by kernel_rfl) ?_
  refine run_plain (id := 0) (ops := F5B.o0) [(0, true)] (by kernel_rfl) (by kernel_rfl) ?_
  refine yS (by kernel_rfl : opAt F5B.o0 0 = some (some 2, .assign (.const (.bool false)), none)) rfl rfl (fun w' hS => val_assign rfl) ?_
  refine Sch.nil ?_
  refine run_seq (x := F5B.c3) (y := F5B.c10) (by kernel_rfl) ?_
  refine run_seq (x := F5B.c4) (y := F5B.c5) (by kernel_rfl) ?_
  refine run_plain (id := 1) (ops := F5B.o1) [(0, false), (1, true), (2, true), (3, true), (4, false), (5, true), (6, true)] (by kernel_rfl) (by kernel_rfl) ?_
  refine cS (by kernel_rfl : opAt F5B.o1 0 = some (some 19, .call { callee := .value (.func 8), args := #[], argTypes := #[] }, none)) rfl rfl (ent Try.call8 rfl) (awake_ok hF) ?_
  rintro vw1 w1 ⟨rfl, hs⟩
  refine ⟨trivial, ?_⟩
  replace hF := hF.st hs
  replace hT := hT.trans hs (by simp)
  refine yS (by kernel_rfl : opAt F5B.o1 1 = some (some 20, .unOp .not 4 (.tmp 19), none)) rfl rfl (fun w' hS => val_not rfl) ?_
  refine yS (by kernel_rfl : opAt F5B.o1 2 = some (some 21, .move (.tmp 20), none)) rfl rfl (fun w' hS => val_move rfl) ?_
  refine yS (by kernel_rfl : opAt F5B.o1 3 = some (some 22, .move (.tmp 0), (some (2, false)))) rfl rfl (fun w' hS => val_move rfl) ?_
  refine cS (by kernel_rfl : opAt F5B.o1 4 = some (some 23, .call { callee := .value (.func 9), args := #[(.tmp 22)], argTypes := #[22] }, (some (2, false)))) rfl rfl (ent Try.call9 rfl) (few_ok _ _ _ _) ?_
  rintro vw2 w2 ⟨rfl, rfl⟩
  refine ⟨trivial, ?_⟩
  rw [decide_eq_false (show ¬ (n : Int) ≤ 400 by omega)]
  refine yS (by kernel_rfl : opAt F5B.o1 5 = some (some 24, .unOp .not 4 (.tmp 23), (some (2, false)))) rfl rfl (fun w' hS => val_not rfl) ?_
  refine yS (by kernel_rfl : opAt F5B.o1 6 = some (some 25, .pick (.tmp 21) (.const (.bool true)) (.tmp 24), none)) rfl rfl (fun w' hS => val_pick_f rfl rfl) ?_
  refine Sch.nil ?_
  refine run_cond (x := F5B.c6) (y := F5B.c9) (o := .tmp 25) (b := true) (by kernel_rfl) rfl (fun _ => ?_) (fun h => by cases h)
  refine run_seq (x := F5B.c7) (y := F5B.c8) (by kernel_rfl) ?_
  refine run_plain (id := 2) (ops := F5B.o2) [(0, false), (1, true)] (by kernel_rfl) (by kernel_rfl) ?_
  refine cS (by kernel_rfl : opAt F5B.o2 0 = some (some 26, .call { callee := .value (.func 8), args := #[], argTypes := #[] }, none)) rfl rfl (ent Try.call8 rfl) (awake_ok hF) ?_
  rintro vw3 w3 ⟨rfl, hs⟩
  refine ⟨trivial, ?_⟩
  replace hF := hF.st hs
  replace hT := hT.trans hs (by simp)
  refine yS (by kernel_rfl : opAt F5B.o2 1 = some (some 2, .assign (.tmp 26), none)) rfl rfl (fun w' hS => val_assign rfl) ?_
  refine Sch.nil ?_
  refine run_ret1 (by kernel_rfl) Try.func5 Try.results5 rfl ?_
  exact ⟨rfl, hT.out1 (by decide)⟩
end Go.Proofs.Ytejbklahkkjmhaa

