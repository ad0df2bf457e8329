/- Steps through functions of the program. -/
import Derived.Test.YtejbklahkkjmhaaKP9
import Derived.Test.YtejbklahkkjmhaaKPB
import Derived.Test.YtejbklahkkjmhaaKPairsInc
set_option linter.unusedVariables false
set_option linter.unusedSimpArgs false
set_option maxRecDepth 100000
set_option maxHeartbeats 400000
namespace Go.Proofs.Ytejbklahkkjmhaa
open Go.K Go.K.Rep

namespace F4
noncomputable def c0 : Code := bodyOf Try.f4
noncomputable def c1 : Code := cl c0
noncomputable def o0 : Array Oper := rops c1
noncomputable def c2 : Code := cr c0
noncomputable def c3 : Code := cl c2
noncomputable def c4 : Code := cl c3
noncomputable def o1 : Array Oper := rops c4
noncomputable def c5 : Code := cr c3
noncomputable def c6 : Code := cl c5
noncomputable def c7 : Code := cl c6
noncomputable def o2 : Array Oper := rops c7
noncomputable def c8 : Code := cr c6
noncomputable def c9 : Code := cr c5
noncomputable def c10 : Code := cr c2
noncomputable def c11 : Code := cl c10
noncomputable def o3 : Array Oper := rops c11
noncomputable def c12 : Code := cr c10
noncomputable def c13 : Code := cl c12
noncomputable def o4 : Array Oper := rops c13
noncomputable def c14 : Code := cr c12
noncomputable def c15 : Code := cl c14
noncomputable def o5 : Array Oper := rops c15
noncomputable def c16 : Code := cr c14
noncomputable def c17 : Code := cl c16
noncomputable def o6 : Array Oper := rops c17
noncomputable def c18 : Code := cr c16
noncomputable def c19 : Code := cl c18
noncomputable def o7 : Array Oper := rops c19
noncomputable def c20 : Code := cr c18
noncomputable def c21 : Code := cl c20
noncomputable def c22 : Code := cl c21
noncomputable def o8 : Array Oper := rops c22
noncomputable def c23 : Code := cr c21
noncomputable def c24 : Code := cl c23
noncomputable def c25 : Code := cl c24
noncomputable def c26 : Code := cl c25
noncomputable def c27 : Code := cl c26
noncomputable def o9 : Array Oper := rops c27
noncomputable def c28 : Code := cr c26
noncomputable def c29 : Code := cl c28
noncomputable def c30 : Code := cr c28
noncomputable def c31 : Code := cr c25
noncomputable def c32 : Code := cl c31
noncomputable def c33 : Code := cl c32
noncomputable def c34 : Code := cl c33
noncomputable def c35 : Code := cl c34
noncomputable def o11 : Array Oper := rops c35
noncomputable def c36 : Code := cr c34
noncomputable def c37 : Code := cl c36
noncomputable def c38 : Code := cr c36
noncomputable def c39 : Code := cr c33
noncomputable def c40 : Code := cl c39
noncomputable def o12 : Array Oper := rops c40
noncomputable def c41 : Code := cr c39
noncomputable def c42 : Code := cl c41
noncomputable def o13 : Array Oper := rops c42
noncomputable def c43 : Code := cr c41
noncomputable def c44 : Code := cl c43
noncomputable def c45 : Code := cl c44
noncomputable def o14 : Array Oper := rops c45
noncomputable def c46 : Code := cr c44
noncomputable def c47 : Code := cl c46
noncomputable def c48 : Code := cl c47
noncomputable def c49 : Code := cl c48
noncomputable def c50 : Code := cl c49
noncomputable def o15 : Array Oper := rops c50
noncomputable def c51 : Code := cr c49
noncomputable def c52 : Code := cl c51
noncomputable def c53 : Code := cr c51
noncomputable def c54 : Code := cr c48
noncomputable def c55 : Code := cl c54
noncomputable def c56 : Code := cl c55
noncomputable def c57 : Code := cl c56
noncomputable def o17 : Array Oper := rops c57
noncomputable def c58 : Code := cr c56
noncomputable def c59 : Code := cl c58
noncomputable def o18 : Array Oper := rops c59
noncomputable def c60 : Code := cr c58
noncomputable def c61 : Code := cr c54
noncomputable def o16 : Array Oper := rops c61
noncomputable def c62 : Code := cr c43
noncomputable def c63 : Code := cl c62
noncomputable def c64 : Code := cl c63
noncomputable def o19 : Array Oper := rops c64
noncomputable def c65 : Code := cr c63
noncomputable def c66 : Code := cl c65
noncomputable def c67 : Code := cl c66
noncomputable def o20 : Array Oper := rops c67
noncomputable def c68 : Code := cr c66
noncomputable def c69 : Code := cr c65
noncomputable def c70 : Code := cr c62
noncomputable def o21 : Array Oper := rops c70
noncomputable def c71 : Code := cr c31
noncomputable def o10 : Array Oper := rops c71
noncomputable def c72 : Code := cr c20
noncomputable def c73 : Code := cl c72
noncomputable def o22 : Array Oper := rops c73
noncomputable def c74 : Code := cr c72
noncomputable def c75 : Code := cl c74
noncomputable def o23 : Array Oper := rops c75
noncomputable def c76 : Code := cr c74
end F4
/-- The statement's function answers true. -/
theorem pairsInclusion_ok {w₀ : World} {C : Nat → Nat} {l : List Int} {vl : Value} (hF : Lim w₀ C) (hl : RV w₀ (Mc C) l vl) : Calls Try.prog 4 #[vl] w₀ (Ret fun v w' => v = .bool true ∧ Stp [] w₀ C w' C) := by
  have hF0 := hF
  have hT := Stp.refl [2, 3, 4, 5, 6, 7, 8, 9] w₀ (col1 C)
  replace hF := hF.col1
  replace hl : RV w₀ (Mc (col1 C)) l vl := by rw [Mc_col1]; exact hl
  refine calls_start (c := F4.c0) (N := 91) [vl] Try.func4 (by kernel_rfl) (by kernel_rfl) (by kernel_rfl) ?_
  show Run _ _ _ _ [(0, vl)] _ _
  refine run_seq (x := F4.c1) (y := F4.c2) (by kernel_rfl) ?_
  refine run_plain (id := 0) (ops := F4.o0) [(0, true)] (by kernel_rfl) (by kernel_rfl) ?_
  refine yS (by kernel_rfl : opAt F4.o0 0 = some (some 2, .assign (.const (.bool false)), none)) rfl rfl (fun w' hS => val_assign rfl) ?_
  refine Sch.nil ?_
  refine run_seq (x := F4.c3) (y := F4.c10) (by kernel_rfl) ?_
  refine run_seq (x := F4.c4) (y := F4.c5) (by kernel_rfl) ?_
  refine run_plain (id := 1) (ops := F4.o1) [(0, false), (1, true), (2, true), (3, true), (4, false), (5, true), (6, true)] (by kernel_rfl) (by kernel_rfl) ?_
  refine cS (by kernel_rfl : opAt F4.o1 0 = some (some 16, .call { callee := .value (.func 8), args := #[], argTypes := #[] }, none)) rfl rfl (ent Try.call8 rfl) (awake_ok hF) ?_
  rintro vw1 w1 ⟨rfl, hs⟩
  refine ⟨trivial, ?_⟩
  replace hF := hF.st hs
  replace hT := hT.trans hs (by simp)
  replace hl := hl.st hs (by first | decide | (simp <;> omega))
  refine yS (by kernel_rfl : opAt F4.o1 1 = some (some 17, .unOp .not 4 (.tmp 16), none)) rfl rfl (fun w' hS => val_not rfl) ?_
  refine yS (by kernel_rfl : opAt F4.o1 2 = some (some 18, .move (.tmp 17), none)) rfl rfl (fun w' hS => val_move rfl) ?_
  refine yS (by kernel_rfl : opAt F4.o1 3 = some (some 19, .move (.tmp 0), (some (2, false)))) rfl rfl (fun w' hS => val_move rfl) ?_
  refine cS (by kernel_rfl : opAt F4.o1 4 = some (some 20, .call { callee := .value (.func 9), args := #[(.tmp 19)], argTypes := #[22] }, (some (2, false)))) rfl rfl (ent Try.call9 rfl) (few_ok' hl) ?_
  rintro vw2 w2 ⟨rfl, rfl⟩
  refine ⟨trivial, ?_⟩
  refine yS (by kernel_rfl : opAt F4.o1 5 = some (some 21, .unOp .not 4 (.tmp 20), (some (2, false)))) rfl rfl (fun w' hS => val_notd rfl) ?_
  refine yS (by kernel_rfl : opAt F4.o1 6 = some (some 22, .pick (.tmp 18) (.const (.bool true)) (.tmp 21), none)) rfl rfl (fun w' hS => val_pick_f rfl rfl) ?_
  refine Sch.nil ?_
  refine run_if (x := F4.c6) (y := F4.c9) (o := .tmp 22) (by kernel_rfl) rfl (fun h22 => ?_) (fun h22 => ?_)
  · skip
    refine run_seq (x := F4.c7) (y := F4.c8) (by kernel_rfl) ?_
    refine run_plain (id := 2) (ops := F4.o2) [(0, false), (1, true)] (by kernel_rfl) (by kernel_rfl) ?_
    refine cS (by kernel_rfl : opAt F4.o2 0 = some (some 23, .call { callee := .value (.func 8), args := #[], argTypes := #[] }, none)) rfl rfl (ent Try.call8 rfl) (awake_ok hF) ?_
    rintro vw3 w3 ⟨rfl, hs⟩
    refine ⟨trivial, ?_⟩
    replace hF := hF.st hs
    replace hT := hT.trans hs (by simp)
    replace hl := hl.st hs (by first | decide | (simp <;> omega))
    refine yS (by kernel_rfl : opAt F4.o2 1 = some (some 2, .assign (.tmp 23), none)) rfl rfl (fun w' hS => val_assign rfl) ?_
    refine Sch.nil ?_
    refine run_ret1 (by kernel_rfl) Try.func4 Try.results4 rfl ?_
    exact ⟨rfl, hT.out1 (by decide)⟩
  · skip
    refine run_skip (by kernel_rfl) ?_
    refine run_seq (x := F4.c11) (y := F4.c12) (by kernel_rfl) ?_
    refine run_plain (id := 3) (ops := F4.o3) [(0, true), (1, false), (2, true)] (by kernel_rfl) (by kernel_rfl) ?_
    refine yS (by kernel_rfl : opAt F4.o3 0 = some (some 24, .move (.tmp 0), none)) rfl rfl (fun w' hS => val_move rfl) ?_
    refine cS (by kernel_rfl : opAt F4.o3 1 = some (some 25, .call { callee := .value (.func 10), args := #[(.tmp 24)], argTypes := #[22] }, none)) rfl rfl (ent Try.call10 rfl) (new_ok hF hl) ?_
    rintro vw4 w4 ⟨Cd, bd, rfl, hs, hF, hd⟩
    refine ⟨trivial, ?_⟩
    replace hT := hT.trans hs (by simp)
    replace hl := hl.st hs (by first | decide | (simp <;> omega))
    obtain ⟨d0, hd0⟩ : ∃ d0 : Dk, d0 = ⟨l, 0, 11400714819323198485⟩ := ⟨_, rfl⟩
    rw [← hd0] at hd
    have hdl0 : d0.list.length ≤ 140737488355328 := by rw [hd0]; exact hl.le
    refine yS (by kernel_rfl : opAt F4.o3 2 = some (some 3, .assign (.tmp 25), none)) rfl rfl (fun w' hS => val_assign rfl) ?_
    refine Sch.nil ?_
    refine run_seq (x := F4.c13) (y := F4.c14) (by kernel_rfl) ?_
    refine run_plain (id := 4) (ops := F4.o4) [(0, true), (1, false), (2, true), (3, true)] (by kernel_rfl) (by kernel_rfl) ?_
    refine yS (by kernel_rfl : opAt F4.o4 0 = some (some 26, .move (.tmp 3), none)) rfl rfl (fun w' hS => val_move rfl) ?_
    refine cS (by kernel_rfl : opAt F4.o4 1 = some (some 27, .call { callee := .value (.func 11), args := #[(.tmp 26), (.const (.int .i64 4))], argTypes := #[25, 3] }, none)) rfl rfl (ent Try.call11 rfl) (next_ok (d := d0) (n := 4) hF (by decide) hd hdl0 (by omega)) ?_
    rintro vw5 w5 ⟨rfl, hs, hd⟩
    refine ⟨trivial, ?_⟩
    replace hF := hF.st hs
    replace hT := hT.trans hs (by simp)
    replace hl := hl.st hs (by first | decide | (simp <;> omega))
    have hrn1 := d0.num_range (n := 4) (by omega)
    obtain ⟨n1, hnn1⟩ : ∃ n1 : Nat, d0.num 4 = n1 := ⟨_, (Int.toNat_of_nonneg hrn1.1).symm⟩
    rw [hnn1] at hrn1 ⊢
    obtain ⟨d1, hd1⟩ : ∃ d1, d1 = d0.after 4 := ⟨_, rfl⟩
    rw [← hd1] at hd
    have hdl1 : d1.list.length ≤ 140737488355328 := by rw [hd1, Dk.after_list]; exact hdl0
    refine yS (by kernel_rfl : opAt F4.o4 2 = some (some 28, .binOp .add 3 (.const (.int .i64 1)) (.tmp 27) 3, none)) rfl rfl (fun w' hS => val_is (val_addi rfl rfl (by omega) (by omega)) (congrArg (Value.int .i64) (show (1 : Int) + n1 = ((n1 + 1 : Nat) : Int) from by omega))) ?_
    refine yS (by kernel_rfl : opAt F4.o4 3 = some (some 4, .assign (.tmp 28), none)) rfl rfl (fun w' hS => val_assign rfl) ?_
    refine Sch.nil ?_
    refine run_seq (x := F4.c15) (y := F4.c16) (by kernel_rfl) ?_
    refine run_plain (id := 5) (ops := F4.o5) [(0, true), (1, true), (2, false), (3, true), (4, true), (5, false), (6, true), (7, true)] (by kernel_rfl) (by kernel_rfl) ?_
    refine yS (by kernel_rfl : opAt F4.o5 0 = some (some 29, .move (.tmp 3), none)) rfl rfl (fun w' hS => val_move rfl) ?_
    refine yS (by kernel_rfl : opAt F4.o5 1 = some (some 30, .move (.tmp 4), none)) rfl rfl (fun w' hS => val_move rfl) ?_
    refine cS (by kernel_rfl : opAt F4.o5 2 = some (some 31, .call { callee := .value (.func 12), args := #[(.tmp 29), (.tmp 30), (.const (.int .i64 10))], argTypes := #[25, 3, 3] }, none)) rfl rfl (ent Try.call12 rfl) (blockLists_ok (d := d1) (keys := n1 + 1) (most := 10) hF (by decide) hd hdl1 (by omega) (by decide)) ?_
    rintro vw6 w6 ⟨hs, ha, hd⟩
    refine ⟨trivial, ?_⟩
    replace hF := hF.st hs
    replace hT := hT.trans hs (by simp)
    replace hl := hl.st hs (by first | decide | (simp <;> omega))
    obtain ⟨d2, hd2⟩ : ∃ d2, d2 = (listsSt d1 10 (n1 + 1)).1 := ⟨_, rfl⟩
    obtain ⟨a, hda⟩ : ∃ a, a = (listsSt d1 10 (n1 + 1)).2 := ⟨_, rfl⟩
    rw [← hd2] at hd
    rw [← hda] at ha
    have hdl2 : d2.list.length ≤ 140737488355328 := by rw [hd2, listsSt_list]; exact hdl1
    have hla : a.length = n1 + 1 := by rw [hda]; exact listsSt_len _ _ _
    have hsa : ∀ x ∈ a, total x ≤ 4611686018427387904 := fun x hx => by
      rw [hda] at hx
      have := listsSt_total _ _ x hx
      omega
    refine yS (by kernel_rfl : opAt F4.o5 3 = some (some 32, .move (.tmp 3), none)) rfl rfl (fun w' hS => val_move rfl) ?_
    refine yS (by kernel_rfl : opAt F4.o5 4 = some (some 33, .move (.tmp 4), none)) rfl rfl (fun w' hS => val_move rfl) ?_
    refine cS (by kernel_rfl : opAt F4.o5 5 = some (some 34, .call { callee := .value (.func 12), args := #[(.tmp 32), (.tmp 33), (.const (.int .i64 10))], argTypes := #[25, 3, 3] }, none)) rfl rfl (ent Try.call12 rfl) (blockLists_ok (d := d2) (keys := n1 + 1) (most := 10) hF (by decide) hd hdl2 (by omega) (by decide)) ?_
    rintro vw7 w7 ⟨hs, hb, hd⟩
    refine ⟨trivial, ?_⟩
    replace hF := hF.st hs
    replace hT := hT.trans hs (by simp)
    replace hl := hl.st hs (by first | decide | (simp <;> omega))
    replace ha := ha.st hs (by first | decide | (simp <;> omega))
    obtain ⟨d3, hd3⟩ : ∃ d3, d3 = (listsSt d2 10 (n1 + 1)).1 := ⟨_, rfl⟩
    obtain ⟨b, hdb⟩ : ∃ b, b = (listsSt d2 10 (n1 + 1)).2 := ⟨_, rfl⟩
    rw [← hd3] at hd
    rw [← hdb] at hb
    have hdl3 : d3.list.length ≤ 140737488355328 := by rw [hd3, listsSt_list]; exact hdl2
    have hlb : b.length = n1 + 1 := by rw [hdb]; exact listsSt_len _ _ _
    have hsb : ∀ x ∈ b, total x ≤ 4611686018427387904 := fun x hx => by
      rw [hdb] at hx
      have := listsSt_total _ _ x hx
      omega
    refine yS (by kernel_rfl : opAt F4.o5 6 = some (some 5, .assign (.tmp 31), none)) rfl rfl (fun w' hS => val_assign rfl) ?_
    refine yS (by kernel_rfl : opAt F4.o5 7 = some (some 6, .assign (.tmp 34), none)) rfl rfl (fun w' hS => val_assign rfl) ?_
    refine Sch.nil ?_
    refine run_seq (x := F4.c17) (y := F4.c18) (by kernel_rfl) ?_
    refine run_plain (id := 6) (ops := F4.o6) [(0, true), (1, true), (2, true), (3, true), (4, false), (5, true), (6, true)] (by kernel_rfl) (by kernel_rfl) ?_
    refine yS (by kernel_rfl : opAt F4.o6 0 = some (some 35, .move (.tmp 3), none)) rfl rfl (fun w' hS => val_move rfl) ?_
    refine yS (by kernel_rfl : opAt F4.o6 1 = some (some 36, .move (.tmp 4), none)) rfl rfl (fun w' hS => val_move rfl) ?_
    obtain ⟨z, hz, hz8, hz1⟩ : ∃ z : Nat, z = 2 ^ (n1 + 1) ∧ z ≤ 16 ∧ 2 ≤ z := ⟨_, rfl, Nat.pow_le_pow_right (n := 2) (by decide) (show n1 + 1 ≤ 4 by omega), Nat.pow_le_pow_right (n := 2) (by decide) (show 1 ≤ n1 + 1 by omega)⟩
    refine yS (by kernel_rfl : opAt F4.o6 2 = some (some 37, .binOp .shl 3 (.const (.int .i64 1)) (.tmp 36) 3, none)) rfl rfl (fun w' hS => val_shlE (r := (z : Int)) rfl rfl (by omega) (by rw [hz]; exact shl1N (by omega))) ?_
    refine yS (by kernel_rfl : opAt F4.o6 3 = some (some 38, .binOp .sub 3 (.tmp 37) (.const (.int .i64 1)) 3, none)) rfl rfl (fun w' hS => val_subi rfl rfl (by omega) (by omega)) ?_
    refine cS (by kernel_rfl : opAt F4.o6 4 = some (some 39, .call { callee := .value (.func 11), args := #[(.tmp 35), (.tmp 38)], argTypes := #[25, 3] }, none)) rfl rfl (ent Try.call11 rfl) (next_ok (d := d3) (n := ((z : Int) - 1)) hF (by decide) hd hdl3 (by omega)) ?_
    rintro vw8 w8 ⟨rfl, hs, hd⟩
    refine ⟨trivial, ?_⟩
    replace hF := hF.st hs
    replace hT := hT.trans hs (by simp)
    replace hl := hl.st hs (by first | decide | (simp <;> omega))
    replace ha := ha.st hs (by first | decide | (simp <;> omega))
    replace hb := hb.st hs (by first | decide | (simp <;> omega))
    have hrmk0 := d3.num_range (n := ((z : Int) - 1)) (by omega)
    obtain ⟨mk0, hnmk0⟩ : ∃ mk0 : Nat, d3.num ((z : Int) - 1) = mk0 := ⟨_, (Int.toNat_of_nonneg hrmk0.1).symm⟩
    rw [hnmk0] at hrmk0 ⊢
    obtain ⟨d4, hd4⟩ : ∃ d4, d4 = d3.after ((z : Int) - 1) := ⟨_, rfl⟩
    rw [← hd4] at hd
    have hdl4 : d4.list.length ≤ 140737488355328 := by rw [hd4, Dk.after_list]; exact hdl3
    refine yS (by kernel_rfl : opAt F4.o6 5 = some (some 40, .binOp .add 3 (.const (.int .i64 1)) (.tmp 39) 3, none)) rfl rfl (fun w' hS => val_is (val_addi rfl rfl (by omega) (by omega)) (congrArg (Value.int .i64) (show (1 : Int) + mk0 = ((mk0 + 1 : Nat) : Int) from by omega))) ?_
    refine yS (by kernel_rfl : opAt F4.o6 6 = some (some 7, .assign (.tmp 40), none)) rfl rfl (fun w' hS => val_assign rfl) ?_
    refine Sch.nil ?_
    refine run_seq (x := F4.c19) (y := F4.c20) (by kernel_rfl) ?_
    refine run_plain (id := 7) (ops := F4.o7) [(0, true)] (by kernel_rfl) (by kernel_rfl) ?_
    refine yS (by kernel_rfl : opAt F4.o7 0 = some (some 8, .assign (.const (.int .i64 0)), none)) rfl rfl (fun w' hS => val_assign rfl) ?_
    refine Sch.nil ?_
    refine run_seq (x := F4.c21) (y := F4.c72) (by kernel_rfl) ?_
    refine run_seq (x := F4.c22) (y := F4.c23) (by kernel_rfl) ?_
    refine run_plain (id := 8) (ops := F4.o8) [(0, true)] (by kernel_rfl) (by kernel_rfl) ?_
    refine yS (by kernel_rfl : opAt F4.o8 0 = some (some 9, .assign (.const (.int .i64 1)), none)) rfl rfl (fun w' hS => val_assign rfl) ?_
    refine Sch.nil ?_
    have hchk : ∀ m : Nat, m < z → checkM a b (m : Int) = 0 := fun m hm => by rw [hda, hdb]; exact checkM_dealt d1 d2 (by decide) (by omega) (by rw [← hz]; omega)
    have hlenA : (agrI a b a.length).length ≤ 32768 := by
      have h1 := agrI_len (checkM_valid (hchk 0 (by omega))) (by omega) a.length (Nat.le_refl _)
      omega
    refine run_block (x := F4.c24) (id := 0) (by kernel_rfl) ?_
    refine run_loop (ι := Nat × (Nat → Nat)) (I := fun x w => x.1 ≤ mk0 + 1 ∧ Lim w x.2 ∧ Stp [2, 3, 4, 5, 6, 7, 8, 9] w₀ (col1 C) w x.2 ∧ RV w (Mc x.2) a vw6 ∧ RV w (Mc x.2) b vw7) (e := fun x => [(4, .int .i64 (n1 + 1 : Nat)), (5, vw6), (6, vw7), (7, .int .i64 (mk0 + 1 : Nat)), (8, (.int .i64 (accI a b (mk0 + 1) (n1 + 1) x.1))), (9, .int .i64 (x.1 + 1 : Nat))]) (m := fun x => mk0 + 1 - x.1) (x₀ := (0, Cd)) (body := F4.c25) (by kernel_rfl) (sub_cons 4 rfl rfl (sub_cons 5 rfl rfl (sub_cons 6 rfl rfl (sub_cons 7 rfl rfl (sub_cons 8 rfl rfl (sub_cons 9 rfl rfl (sub_nil _))))))) ?_ ?_
    · exact ⟨Nat.zero_le _, hF, hT, ha, hb⟩
    intro ⟨k, C1⟩ w9 hI next
    obtain ⟨hk, hF, hT, ha, hb⟩ := hI
    simp only at hk hF hT ha hb
    show Run _ _ _ _ [(4, .int .i64 (n1 + 1 : Nat)), (5, vw6), (6, vw7), (7, .int .i64 (mk0 + 1 : Nat)), (8, (.int .i64 (accI a b (mk0 + 1) (n1 + 1) k))), (9, .int .i64 (k + 1 : Nat))] _ _
    have hab := accI_bound a b (mk0 + 1) (n1 + 1) k
    have hab2 := Nat.mul_le_mul (show k ≤ 16 by omega) hlenA
    have hag : agreeS a b (k + 1) ≤ 32768 := Nat.le_trans (List.length_filter_le _ _) hlenA
    refine run_seq (x := F4.c26) (y := F4.c31) (by kernel_rfl) ?_
    refine run_seq (x := F4.c27) (y := F4.c28) (by kernel_rfl) ?_
    refine run_plain (id := 9) (ops := F4.o9) [(0, true), (1, true), (2, true)] (by kernel_rfl) (by kernel_rfl) ?_
    refine yS (by kernel_rfl : opAt F4.o9 0 = some (some 41, .move (.tmp 9), none)) rfl rfl (fun w' hS => val_move rfl) ?_
    refine yS (by kernel_rfl : opAt F4.o9 1 = some (some 42, .move (.tmp 7), none)) rfl rfl (fun w' hS => val_move rfl) ?_
    refine yS (by kernel_rfl : opAt F4.o9 2 = some (some 43, .binOp .leq 3 (.tmp 41) (.tmp 42) 3, none)) rfl rfl (fun w' hS => val_leq rfl rfl) ?_
    refine Sch.nil ?_
    refine run_if (x := F4.c29) (y := F4.c30) (o := .tmp 43) (by kernel_rfl) rfl (fun h43 => ?_) (fun h43 => ?_)
    · skip
      have hkM : k < mk0 + 1 := by omega
      refine run_skip (by kernel_rfl) ?_
      refine run_seq (x := F4.c32) (y := F4.c71) (by kernel_rfl) ?_
      refine run_block (x := F4.c33) (id := 1) (by kernel_rfl) ?_
      refine run_seq (x := F4.c34) (y := F4.c39) (by kernel_rfl) ?_
      refine run_seq (x := F4.c35) (y := F4.c36) (by kernel_rfl) ?_
      refine run_plain (id := 11) (ops := F4.o11) [(0, true), (1, true), (2, true), (3, true), (4, true)] (by kernel_rfl) (by kernel_rfl) ?_
      refine yS (by kernel_rfl : opAt F4.o11 0 = some (some 46, .move (.tmp 9), none)) rfl rfl (fun w' hS => val_move rfl) ?_
      refine yS (by kernel_rfl : opAt F4.o11 1 = some (some 47, .move (.tmp 7), none)) rfl rfl (fun w' hS => val_move rfl) ?_
      refine yS (by kernel_rfl : opAt F4.o11 2 = some (some 48, .binOp .and 3 (.tmp 46) (.tmp 47) 3, none)) rfl rfl (fun w' hS => val_andE (r := ((k + 1 &&& (mk0 + 1) : Nat) : Int)) rfl rfl (bits_and (by omega) (by omega))) ?_
      refine yS (by kernel_rfl : opAt F4.o11 3 = some (some 49, .move (.tmp 9), none)) rfl rfl (fun w' hS => val_move rfl) ?_
      refine yS (by kernel_rfl : opAt F4.o11 4 = some (some 50, .binOp .neq 3 (.tmp 48) (.tmp 49) 3, none)) rfl rfl (fun w' hS => val_neq rfl rfl) ?_
      refine Sch.nil ?_
      refine run_if (x := F4.c37) (y := F4.c38) (o := .tmp 50) (by kernel_rfl) rfl (fun h50 => ?_) (fun h50 => ?_)
      · skip
        have h50 : ¬ (k + 1 &&& (mk0 + 1)) = k + 1 := by omega
        refine run_exit (id := 1) (by kernel_rfl) rfl ?_
        refine run_plain (id := 10) (ops := F4.o10) [(0, true), (1, true), (2, true)] (by kernel_rfl) (by kernel_rfl) ?_
        refine yS (by kernel_rfl : opAt F4.o10 0 = some (some 44, .move (.tmp 9), none)) rfl rfl (fun w' hS => val_move rfl) ?_
        refine yS (by kernel_rfl : opAt F4.o10 1 = some (some 45, .binOp .add 3 (.tmp 44) (.const (.int .i64 1)) 3, none)) rfl rfl (fun w' hS => val_addi rfl rfl (by omega) (by omega)) ?_
        refine yS (by kernel_rfl : opAt F4.o10 2 = some (some 9, .assign (.tmp 45), none)) rfl rfl (fun w' hS => val_assign rfl) ?_
        refine Sch.nil ?_
        refine kp (sub_cons 4 rfl rfl (sub_cons 5 rfl rfl (sub_cons 6 rfl rfl (sub_cons 7 rfl rfl (sub_cons 8 rfl (eq_int (by simp only [accI]; rw [if_neg h50])) (sub_cons 9 rfl (eq_int (by simp)) (sub_nil _))))))) (next (k + 1, C1) _ ⟨by simp only; omega, hF, hT, ha, hb⟩ (by simp only; omega))
      · skip
        have h50 : (k + 1 &&& (mk0 + 1)) = k + 1 := by omega
        refine run_skip (by kernel_rfl) ?_
        refine run_seq (x := F4.c40) (y := F4.c41) (by kernel_rfl) ?_
        refine run_plain (id := 12) (ops := F4.o12) [(0, true), (1, true), (2, true), (3, false), (4, true), (5, true), (6, true), (7, true), (8, true)] (by kernel_rfl) (by kernel_rfl) ?_
        refine yS (by kernel_rfl : opAt F4.o12 0 = some (some 52, .move (.tmp 5), none)) rfl rfl (fun w' hS => val_move rfl) ?_
        refine yS (by kernel_rfl : opAt F4.o12 1 = some (some 53, .move (.tmp 6), none)) rfl rfl (fun w' hS => val_move rfl) ?_
        refine yS (by kernel_rfl : opAt F4.o12 2 = some (some 54, .move (.tmp 9), none)) rfl rfl (fun w' hS => val_move rfl) ?_
        refine cS (by kernel_rfl : opAt F4.o12 3 = some (some 55, .call { callee := .value (.func 16), args := #[(.tmp 52), (.tmp 53), (.tmp 54)], argTypes := #[28, 28, 3] }, none)) rfl rfl (ent Try.call16 rfl) (agreeing_ok (mask := ((k + 1 : Nat) : Int)) hF ha hb hsa hsb) ?_
        rintro vw10 w10 ⟨hv, hs⟩
        refine ⟨trivial, ?_⟩
        replace hF := hF.st hs
        replace hT := hT.trans hs (by simp)
        replace ha := ha.st hs (by first | decide | (simp <;> omega))
        replace hb := hb.st hs (by first | decide | (simp <;> omega))
        have hck := hchk (k + 1) (by omega)
        rw [if_neg (by rw [hck]; omega), hck, Int.toNat_natCast] at hv
        subst hv
        refine yS (by kernel_rfl : opAt F4.o12 4 = some (some 51, .move (.tmp 55), none)) rfl rfl (fun w' hS => val_move rfl) ?_
        refine yS (by kernel_rfl : opAt F4.o12 5 = some (some 56, .extract (.tmp 51) 0, none)) rfl rfl (fun w' hS => val_extract rfl rfl) ?_
        refine yS (by kernel_rfl : opAt F4.o12 6 = some (some 57, .extract (.tmp 51) 1, none)) rfl rfl (fun w' hS => val_extract rfl rfl) ?_
        refine yS (by kernel_rfl : opAt F4.o12 7 = some (some 10, .assign (.tmp 56), none)) rfl rfl (fun w' hS => val_assign rfl) ?_
        refine yS (by kernel_rfl : opAt F4.o12 8 = some (some 11, .assign (.tmp 57), none)) rfl rfl (fun w' hS => val_assign rfl) ?_
        refine Sch.nil ?_
        refine run_seq (x := F4.c42) (y := F4.c43) (by kernel_rfl) ?_
        refine run_plain (id := 13) (ops := F4.o13) [(0, true)] (by kernel_rfl) (by kernel_rfl) ?_
        refine yS (by kernel_rfl : opAt F4.o13 0 = some (some 12, .assign (.const (.int .i64 (-1))), none)) rfl rfl (fun w' hS => val_assign rfl) ?_
        refine Sch.nil ?_
        refine run_seq (x := F4.c44) (y := F4.c62) (by kernel_rfl) ?_
        refine run_seq (x := F4.c45) (y := F4.c46) (by kernel_rfl) ?_
        refine run_plain (id := 14) (ops := F4.o14) [(0, true)] (by kernel_rfl) (by kernel_rfl) ?_
        refine yS (by kernel_rfl : opAt F4.o14 0 = some (some 13, .assign (.const (.int .i64 0)), none)) rfl rfl (fun w' hS => val_assign rfl) ?_
        refine Sch.nil ?_
        refine run_block (x := F4.c47) (id := 2) (by kernel_rfl) ?_
        have next0x := next
        clear next
        refine run_loop (ι := Nat × (Nat → Nat)) (I := fun x w => x.1 ≤ n1 + 1 ∧ Lim w x.2 ∧ Stp [2, 3, 4, 5, 6, 7, 8, 9] w₀ (col1 C) w x.2 ∧ RV w (Mc x.2) a vw6 ∧ RV w (Mc x.2) b vw7) (e := fun x => [(4, .int .i64 (n1 + 1 : Nat)), (5, vw6), (6, vw7), (7, .int .i64 (mk0 + 1 : Nat)), (8, (.int .i64 (accI a b (mk0 + 1) (n1 + 1) k))), (9, .int .i64 (k + 1 : Nat)), (10, .int .i64 (agreeS a b (k + 1) : Nat)), (11, .int .i64 0), (12, (.int .i64 (sg (k + 1) x.1))), (13, .int .i64 x.1)]) (m := fun x => n1 + 1 - x.1) (x₀ := (0, C1)) (body := F4.c48) (by kernel_rfl) (sub_cons 4 rfl rfl (sub_cons 5 rfl rfl (sub_cons 6 rfl rfl (sub_cons 7 rfl rfl (sub_cons 8 rfl rfl (sub_cons 9 rfl rfl (sub_cons 10 rfl rfl (sub_cons 11 rfl rfl (sub_cons 12 rfl rfl (sub_cons 13 rfl rfl (sub_nil _))))))))))) ?_ ?_
        · exact ⟨Nat.zero_le _, hF, hT, ha, hb⟩
        intro ⟨i, C2⟩ w11 hI next
        obtain ⟨hi, hF, hT, ha, hb⟩ := hI
        simp only at hi hF hT ha hb
        show Run _ _ _ _ [(4, .int .i64 (n1 + 1 : Nat)), (5, vw6), (6, vw7), (7, .int .i64 (mk0 + 1 : Nat)), (8, (.int .i64 (accI a b (mk0 + 1) (n1 + 1) k))), (9, .int .i64 (k + 1 : Nat)), (10, .int .i64 (agreeS a b (k + 1) : Nat)), (11, .int .i64 0), (12, (.int .i64 (sg (k + 1) i))), (13, .int .i64 (i : Int))] _ _
        have hsg := sg_val (k + 1) i
        refine run_seq (x := F4.c49) (y := F4.c54) (by kernel_rfl) ?_
        refine run_seq (x := F4.c50) (y := F4.c51) (by kernel_rfl) ?_
        refine run_plain (id := 15) (ops := F4.o15) [(0, true), (1, true), (2, true)] (by kernel_rfl) (by kernel_rfl) ?_
        refine yS (by kernel_rfl : opAt F4.o15 0 = some (some 58, .move (.tmp 13), none)) rfl rfl (fun w' hS => val_move rfl) ?_
        refine yS (by kernel_rfl : opAt F4.o15 1 = some (some 59, .move (.tmp 4), none)) rfl rfl (fun w' hS => val_move rfl) ?_
        refine yS (by kernel_rfl : opAt F4.o15 2 = some (some 60, .binOp .lss 3 (.tmp 58) (.tmp 59) 3, none)) rfl rfl (fun w' hS => val_lss rfl rfl) ?_
        refine Sch.nil ?_
        refine run_if (x := F4.c52) (y := F4.c53) (o := .tmp 60) (by kernel_rfl) rfl (fun h60 => ?_) (fun h60 => ?_)
        · skip
          have hin : i < n1 + 1 := by omega
          refine run_skip (by kernel_rfl) ?_
          refine run_seq (x := F4.c55) (y := F4.c61) (by kernel_rfl) ?_
          refine run_block (x := F4.c56) (id := 3) (by kernel_rfl) ?_
          refine run_seq (x := F4.c57) (y := F4.c58) (by kernel_rfl) ?_
          refine run_plain (id := 17) (ops := F4.o17) [(0, true), (1, true), (2, true), (3, true), (4, true)] (by kernel_rfl) (by kernel_rfl) ?_
          refine yS (by kernel_rfl : opAt F4.o17 0 = some (some 63, .move (.tmp 9), none)) rfl rfl (fun w' hS => val_move rfl) ?_
          refine yS (by kernel_rfl : opAt F4.o17 1 = some (some 64, .move (.tmp 13), none)) rfl rfl (fun w' hS => val_move rfl) ?_
          refine yS (by kernel_rfl : opAt F4.o17 2 = some (some 65, .binOp .shr 3 (.tmp 63) (.tmp 64) 3, none)) rfl rfl (fun w' hS => val_shrE (r := (((k + 1) / 2 ^ i : Nat) : Int)) rfl rfl (by omega) (shrN (by omega))) ?_
          refine yS (by kernel_rfl : opAt F4.o17 3 = some (some 66, .binOp .and 3 (.tmp 65) (.const (.int .i64 1)) 3, none)) rfl rfl (fun w' hS => val_andE (r := (((k + 1) / 2 ^ i &&& 1 : Nat) : Int)) rfl rfl (bits_and (n := 1) (Nat.lt_of_le_of_lt (Nat.div_le_self _ _) (by omega)) (by decide))) ?_
          refine yS (by kernel_rfl : opAt F4.o17 4 = some (some 67, .binOp .eql 3 (.tmp 66) (.const (.int .i64 1)) 3, none)) rfl rfl (fun w' hS => val_eql rfl rfl) ?_
          refine Sch.nil ?_
          refine run_if (x := F4.c59) (y := F4.c60) (o := .tmp 67) (by kernel_rfl) rfl (fun h67 => ?_) (fun h67 => ?_)
          · skip
            have hbt : (k + 1).testBit i = true := by rw [← bit_test]; exact decide_eq_true h67
            refine run_plain (id := 18) (ops := F4.o18) [(0, true), (1, true), (2, true)] (by kernel_rfl) (by kernel_rfl) ?_
            refine yS (by kernel_rfl : opAt F4.o18 0 = some (some 68, .move (.tmp 12), none)) rfl rfl (fun w' hS => val_move rfl) ?_
            refine yS (by kernel_rfl : opAt F4.o18 1 = some (some 69, .unOp .neg 3 (.tmp 68), none)) rfl rfl (fun w' hS => val_is (val_neg rfl) (congrArg (Value.int .i64) ((wrap_i64 (by omega) (by omega)).trans (Int.zero_sub (sg (k + 1) i))))) ?_
            refine yS (by kernel_rfl : opAt F4.o18 2 = some (some 12, .assign (.tmp 69), none)) rfl rfl (fun w' hS => val_assign rfl) ?_
            refine Sch.nil ?_
            refine run_inBlock ?_
            refine run_plain (id := 16) (ops := F4.o16) [(0, true), (1, true), (2, true)] (by kernel_rfl) (by kernel_rfl) ?_
            refine yS (by kernel_rfl : opAt F4.o16 0 = some (some 61, .move (.tmp 13), none)) rfl rfl (fun w' hS => val_move rfl) ?_
            refine yS (by kernel_rfl : opAt F4.o16 1 = some (some 62, .binOp .add 3 (.tmp 61) (.const (.int .i64 1)) 3, none)) rfl rfl (fun w' hS => val_addi rfl rfl (by omega) (by omega)) ?_
            refine yS (by kernel_rfl : opAt F4.o16 2 = some (some 13, .assign (.tmp 62), none)) rfl rfl (fun w' hS => val_assign rfl) ?_
            refine Sch.nil ?_
            refine kp (sub_cons 4 rfl rfl (sub_cons 5 rfl rfl (sub_cons 6 rfl rfl (sub_cons 7 rfl rfl (sub_cons 8 rfl rfl (sub_cons 9 rfl rfl (sub_cons 10 rfl rfl (sub_cons 11 rfl rfl (sub_cons 12 rfl (eq_int (by simp only [sg]; rw [if_pos hbt])) (sub_cons 13 rfl (eq_int (by simp)) (sub_nil _))))))))))) (next (i + 1, C2) _ ⟨by simp only; omega, hF, hT, ha, hb⟩ (by simp only; omega))
          · skip
            have hbt : (k + 1).testBit i = false := by rw [← bit_test]; exact decide_eq_false h67
            refine run_skip (by kernel_rfl) ?_
            refine run_inBlock ?_
            refine run_plain (id := 16) (ops := F4.o16) [(0, true), (1, true), (2, true)] (by kernel_rfl) (by kernel_rfl) ?_
            refine yS (by kernel_rfl : opAt F4.o16 0 = some (some 61, .move (.tmp 13), none)) rfl rfl (fun w' hS => val_move rfl) ?_
            refine yS (by kernel_rfl : opAt F4.o16 1 = some (some 62, .binOp .add 3 (.tmp 61) (.const (.int .i64 1)) 3, none)) rfl rfl (fun w' hS => val_addi rfl rfl (by omega) (by omega)) ?_
            refine yS (by kernel_rfl : opAt F4.o16 2 = some (some 13, .assign (.tmp 62), none)) rfl rfl (fun w' hS => val_assign rfl) ?_
            refine Sch.nil ?_
            refine kp (sub_cons 4 rfl rfl (sub_cons 5 rfl rfl (sub_cons 6 rfl rfl (sub_cons 7 rfl rfl (sub_cons 8 rfl rfl (sub_cons 9 rfl rfl (sub_cons 10 rfl rfl (sub_cons 11 rfl rfl (sub_cons 12 rfl (eq_int (by simp only [sg]; rw [if_neg (by rw [hbt]; decide)])) (sub_cons 13 rfl (eq_int (by simp)) (sub_nil _))))))))))) (next (i + 1, C2) _ ⟨by simp only; omega, hF, hT, ha, hb⟩ (by simp only; omega))
        · skip
          obtain rfl : i = n1 + 1 := by omega
          refine run_exit (id := 2) (by kernel_rfl) rfl ?_
          refine run_seq (x := F4.c63) (y := F4.c70) (by kernel_rfl) ?_
          refine run_seq (x := F4.c64) (y := F4.c65) (by kernel_rfl) ?_
          refine run_plain (id := 19) (ops := F4.o19) [(0, true), (1, true)] (by kernel_rfl) (by kernel_rfl) ?_
          refine yS (by kernel_rfl : opAt F4.o19 0 = some (some 70, .move (.tmp 11), none)) rfl rfl (fun w' hS => val_move rfl) ?_
          refine yS (by kernel_rfl : opAt F4.o19 1 = some (some 71, .binOp .neq 31 (.tmp 70) (.const (.int .i64 0)) 31, none)) rfl rfl (fun w' hS => val_F (val_neq rfl rfl) (by decide)) ?_
          refine Sch.nil ?_
          refine run_cond (x := F4.c66) (y := F4.c69) (o := .tmp 71) (b := false) (by kernel_rfl) rfl (fun h => by cases h) (fun _ => ?_)
          refine run_skip (by kernel_rfl) ?_
          refine run_plain (id := 21) (ops := F4.o21) [(0, true), (1, true), (2, true), (3, true), (4, true), (5, true)] (by kernel_rfl) (by kernel_rfl) ?_
          refine yS (by kernel_rfl : opAt F4.o21 0 = some (some 72, .move (.tmp 8), none)) rfl rfl (fun w' hS => val_move rfl) ?_
          refine yS (by kernel_rfl : opAt F4.o21 1 = some (some 73, .move (.tmp 12), none)) rfl rfl (fun w' hS => val_move rfl) ?_
          refine yS (by kernel_rfl : opAt F4.o21 2 = some (some 74, .move (.tmp 10), none)) rfl rfl (fun w' hS => val_move rfl) ?_
          have hpr : -((agreeS a b (k + 1) : Nat) : Int) ≤ sg (k + 1) (n1 + 1) * ((agreeS a b (k + 1) : Nat) : Int) ∧ sg (k + 1) (n1 + 1) * ((agreeS a b (k + 1) : Nat) : Int) ≤ ((agreeS a b (k + 1) : Nat) : Int) := by
            rcases hsg with h | h <;> rw [h] <;> omega
          refine yS (by kernel_rfl : opAt F4.o21 3 = some (some 75, .binOp .mul 3 (.tmp 73) (.tmp 74) 3, none)) rfl rfl (fun w' hS => val_muli rfl rfl (by omega) (by omega)) ?_
          refine yS (by kernel_rfl : opAt F4.o21 4 = some (some 76, .binOp .add 3 (.tmp 72) (.tmp 75) 3, none)) rfl rfl (fun w' hS => val_addi rfl rfl (by omega) (by omega)) ?_
          refine yS (by kernel_rfl : opAt F4.o21 5 = some (some 8, .assign (.tmp 76), none)) rfl rfl (fun w' hS => val_assign rfl) ?_
          refine Sch.nil ?_
          refine run_inBlock ?_
          refine run_plain (id := 10) (ops := F4.o10) [(0, true), (1, true), (2, true)] (by kernel_rfl) (by kernel_rfl) ?_
          refine yS (by kernel_rfl : opAt F4.o10 0 = some (some 44, .move (.tmp 9), none)) rfl rfl (fun w' hS => val_move rfl) ?_
          refine yS (by kernel_rfl : opAt F4.o10 1 = some (some 45, .binOp .add 3 (.tmp 44) (.const (.int .i64 1)) 3, none)) rfl rfl (fun w' hS => val_addi rfl rfl (by omega) (by omega)) ?_
          refine yS (by kernel_rfl : opAt F4.o10 2 = some (some 9, .assign (.tmp 45), none)) rfl rfl (fun w' hS => val_assign rfl) ?_
          refine Sch.nil ?_
          refine kp (sub_cons 4 rfl rfl (sub_cons 5 rfl rfl (sub_cons 6 rfl rfl (sub_cons 7 rfl rfl (sub_cons 8 rfl (eq_int (by simp only [accI]; rw [if_pos h50])) (sub_cons 9 rfl (eq_int (by simp)) (sub_nil _))))))) (next0x (k + 1, C2) _ ⟨by simp only; omega, hF, hT, ha, hb⟩ (by simp only; omega))
    · skip
      obtain rfl : k = mk0 + 1 := by omega
      refine run_exit (id := 0) (by kernel_rfl) rfl ?_
      refine run_seq (x := F4.c73) (y := F4.c74) (by kernel_rfl) ?_
      refine run_plain (id := 22) (ops := F4.o22) [(0, true), (1, true), (2, true), (3, false), (4, true), (5, true), (6, true), (7, true), (8, true)] (by kernel_rfl) (by kernel_rfl) ?_
      refine yS (by kernel_rfl : opAt F4.o22 0 = some (some 78, .move (.tmp 5), none)) rfl rfl (fun w' hS => val_move rfl) ?_
      refine yS (by kernel_rfl : opAt F4.o22 1 = some (some 79, .move (.tmp 6), none)) rfl rfl (fun w' hS => val_move rfl) ?_
      refine yS (by kernel_rfl : opAt F4.o22 2 = some (some 80, .move (.tmp 7), none)) rfl rfl (fun w' hS => val_move rfl) ?_
      refine cS (by kernel_rfl : opAt F4.o22 3 = some (some 81, .call { callee := .value (.func 14), args := #[(.tmp 78), (.tmp 79), (.tmp 80)], argTypes := #[28, 28, 3] }, none)) rfl rfl (ent Try.call14 rfl) (union_ok (mask := ((mk0 + 1 : Nat) : Int)) hF ha hb hsa hsb) ?_
      rintro vw12 w12 ⟨hv, hs⟩
      refine ⟨trivial, ?_⟩
      replace hF := hF.st hs
      replace hT := hT.trans hs (by simp)
      replace ha := ha.st hs (by first | decide | (simp <;> omega))
      replace hb := hb.st hs (by first | decide | (simp <;> omega))
      have hck := hchk (mk0 + 1) (by omega)
      rw [hck, if_neg (by decide), Int.toNat_natCast] at hv
      subst hv
      refine yS (by kernel_rfl : opAt F4.o22 4 = some (some 77, .move (.tmp 81), none)) rfl rfl (fun w' hS => val_move rfl) ?_
      refine yS (by kernel_rfl : opAt F4.o22 5 = some (some 82, .extract (.tmp 77) 0, none)) rfl rfl (fun w' hS => val_extract rfl rfl) ?_
      refine yS (by kernel_rfl : opAt F4.o22 6 = some (some 83, .extract (.tmp 77) 1, none)) rfl rfl (fun w' hS => val_extract rfl rfl) ?_
      refine yS (by kernel_rfl : opAt F4.o22 7 = some (some 14, .assign (.tmp 82), none)) rfl rfl (fun w' hS => val_assign rfl) ?_
      refine yS (by kernel_rfl : opAt F4.o22 8 = some (some 15, .assign (.tmp 83), none)) rfl rfl (fun w' hS => val_assign rfl) ?_
      refine Sch.nil ?_
      refine run_seq (x := F4.c75) (y := F4.c76) (by kernel_rfl) ?_
      refine run_plain (id := 23) (ops := F4.o23) [(0, true), (1, true), (2, true), (3, true), (4, true), (5, true), (6, true), (7, true)] (by kernel_rfl) (by kernel_rfl) ?_
      refine yS (by kernel_rfl : opAt F4.o23 0 = some (some 84, .move (.tmp 15), none)) rfl rfl (fun w' hS => val_move rfl) ?_
      refine yS (by kernel_rfl : opAt F4.o23 1 = some (some 85, .binOp .eql 31 (.tmp 84) (.const (.int .i64 0)) 31, none)) rfl rfl (fun w' hS => val_T (val_eql rfl rfl) rfl) ?_
      refine yS (by kernel_rfl : opAt F4.o23 2 = some (some 86, .move (.tmp 85), none)) rfl rfl (fun w' hS => val_move rfl) ?_
      refine yS (by kernel_rfl : opAt F4.o23 3 = some (some 87, .move (.tmp 14), (some (2, true)))) rfl rfl (fun w' hS => val_move rfl) ?_
      refine yS (by kernel_rfl : opAt F4.o23 4 = some (some 88, .move (.tmp 8), (some (2, true)))) rfl rfl (fun w' hS => val_move rfl) ?_
      refine yS (by kernel_rfl : opAt F4.o23 5 = some (some 89, .binOp .eql 3 (.tmp 87) (.tmp 88) 3, (some (2, true)))) rfl rfl (fun w' hS => val_T (val_eql rfl rfl) (accI_all a b hla (by omega) (by rw [← hz]; omega)).symm) ?_
      refine yS (by kernel_rfl : opAt F4.o23 6 = some (some 90, .pick (.tmp 86) (.tmp 89) (.const (.bool false)), none)) rfl rfl (fun w' hS => val_pick_t rfl rfl) ?_
      refine yS (by kernel_rfl : opAt F4.o23 7 = some (some 2, .assign (.tmp 90), none)) rfl rfl (fun w' hS => val_assign rfl) ?_
      refine Sch.nil ?_
      refine run_ret1 (by kernel_rfl) Try.func4 Try.results4 rfl ?_
      exact ⟨rfl, hT.out1 (by decide)⟩
namespace F4B
noncomputable def c0 : Code := bodyOf Try.f4
noncomputable def c1 : Code := cl c0
noncomputable def o0 : Array Oper := rops c1
noncomputable def c2 : Code := cr c0
noncomputable def c3 : Code := cl c2
noncomputable def c4 : Code := cl c3
noncomputable def o1 : Array Oper := rops c4
noncomputable def c5 : Code := cr c3
noncomputable def c6 : Code := cl c5
noncomputable def c7 : Code := cl c6
noncomputable def o2 : Array Oper := rops c7
noncomputable def c8 : Code := cr c6
noncomputable def c9 : Code := cr c5
noncomputable def c10 : Code := cr c2
noncomputable def c11 : Code := cl c10
noncomputable def o3 : Array Oper := rops c11
noncomputable def c12 : Code := cr c10
noncomputable def c13 : Code := cl c12
noncomputable def o4 : Array Oper := rops c13
noncomputable def c14 : Code := cr c12
noncomputable def c15 : Code := cl c14
noncomputable def o5 : Array Oper := rops c15
noncomputable def c16 : Code := cr c14
noncomputable def c17 : Code := cl c16
noncomputable def o6 : Array Oper := rops c17
noncomputable def c18 : Code := cr c16
noncomputable def c19 : Code := cl c18
noncomputable def o7 : Array Oper := rops c19
noncomputable def c20 : Code := cr c18
noncomputable def c21 : Code := cl c20
noncomputable def c22 : Code := cl c21
noncomputable def o8 : Array Oper := rops c22
noncomputable def c23 : Code := cr c21
noncomputable def c24 : Code := cl c23
noncomputable def c25 : Code := cl c24
noncomputable def c26 : Code := cl c25
noncomputable def c27 : Code := cl c26
noncomputable def o9 : Array Oper := rops c27
noncomputable def c28 : Code := cr c26
noncomputable def c29 : Code := cl c28
noncomputable def c30 : Code := cr c28
noncomputable def c31 : Code := cr c25
noncomputable def c32 : Code := cl c31
noncomputable def c33 : Code := cl c32
noncomputable def c34 : Code := cl c33
noncomputable def c35 : Code := cl c34
noncomputable def o11 : Array Oper := rops c35
noncomputable def c36 : Code := cr c34
noncomputable def c37 : Code := cl c36
noncomputable def c38 : Code := cr c36
noncomputable def c39 : Code := cr c33
noncomputable def c40 : Code := cl c39
noncomputable def o12 : Array Oper := rops c40
noncomputable def c41 : Code := cr c39
noncomputable def c42 : Code := cl c41
noncomputable def o13 : Array Oper := rops c42
noncomputable def c43 : Code := cr c41
noncomputable def c44 : Code := cl c43
noncomputable def c45 : Code := cl c44
noncomputable def o14 : Array Oper := rops c45
noncomputable def c46 : Code := cr c44
noncomputable def c47 : Code := cl c46
noncomputable def c48 : Code := cl c47
noncomputable def c49 : Code := cl c48
noncomputable def c50 : Code := cl c49
noncomputable def o15 : Array Oper := rops c50
noncomputable def c51 : Code := cr c49
noncomputable def c52 : Code := cl c51
noncomputable def c53 : Code := cr c51
noncomputable def c54 : Code := cr c48
noncomputable def c55 : Code := cl c54
noncomputable def c56 : Code := cl c55
noncomputable def c57 : Code := cl c56
noncomputable def o17 : Array Oper := rops c57
noncomputable def c58 : Code := cr c56
noncomputable def c59 : Code := cl c58
noncomputable def o18 : Array Oper := rops c59
noncomputable def c60 : Code := cr c58
noncomputable def c61 : Code := cr c54
noncomputable def o16 : Array Oper := rops c61
noncomputable def c62 : Code := cr c43
noncomputable def c63 : Code := cl c62
noncomputable def c64 : Code := cl c63
noncomputable def o19 : Array Oper := rops c64
noncomputable def c65 : Code := cr c63
noncomputable def c66 : Code := cl c65
noncomputable def c67 : Code := cl c66
noncomputable def o20 : Array Oper := rops c67
noncomputable def c68 : Code := cr c66
noncomputable def c69 : Code := cr c65
noncomputable def c70 : Code := cr c62
noncomputable def o21 : Array Oper := rops c70
noncomputable def c71 : Code := cr c31
noncomputable def o10 : Array Oper := rops c71
noncomputable def c72 : Code := cr c20
noncomputable def c73 : Code := cl c72
noncomputable def o22 : Array Oper := rops c73
noncomputable def c74 : Code := cr c72
noncomputable def c75 : Code := cl c74
noncomputable def o23 : Array Oper := rops c75
noncomputable def c76 : Code := cr c74
end F4B
/-- .. where more is handed than it looks at. -/
theorem pairsInclusion_big {w₀ : World} {C : Nat → Nat} {p : Option Addr} {n c : Nat} (hF : Lim w₀ C) (hn : 400 < n) : Calls Try.prog 4 #[.slice p n c] w₀ (Ret fun v w' => v = .bool true ∧ Stp [] w₀ C w' C) := by
  have hF0 := hF
  have hT := Stp.refl [2, 3, 4, 5, 6, 7, 8, 9] w₀ (col1 C)
  replace hF := hF.col1
  refine calls_start (c := F4B.c0) (N := 91) [.slice p n c] Try.func4 (by kernel_rfl) (by kernel_rfl) (by kernel_rfl) ?_
  show Run _ _ _ _ [(0, .slice p n c)] _ _
  refine run_seq (x := F4B.c1) (y := F4B.c2) (by kernel_rfl) ?_
  refine run_plain (id := 0) (ops := F4B.o0) [(0, true)] (by kernel_rfl) (by kernel_rfl) ?_
  refine yS (by kernel_rfl : opAt F4B.o0 0 = some (some 2, .assign (.const (.bool false)), none)) rfl rfl (fun w' hS => val_assign rfl) ?_
  refine Sch.nil ?_
  refine run_seq (x := F4B.c3) (y := F4B.c10) (by kernel_rfl) ?_
  refine run_seq (x := F4B.c4) (y := F4B.c5) (by kernel_rfl) ?_
  refine run_plain (id := 1) (ops := F4B.o1) [(0, false), (1, true), (2, true), (3, true), (4, false), (5, true), (6, true)] (by kernel_rfl) (by kernel_rfl) ?_
  refine cS (by kernel_rfl : opAt F4B.o1 0 = some (some 16, .call { callee := .value (.func 8), args := #[], argTypes := #[] }, none)) rfl rfl (ent Try.call8 rfl) (awake_ok hF) ?_
  rintro vw1 w1 ⟨rfl, hs⟩
  refine ⟨trivial, ?_⟩
  replace hF := hF.st hs
  replace hT := hT.trans hs (by simp)
  refine yS (by kernel_rfl : opAt F4B.o1 1 = some (some 17, .unOp .not 4 (.tmp 16), none)) rfl rfl (fun w' hS => val_not rfl) ?_
  refine yS (by kernel_rfl : opAt F4B.o1 2 = some (some 18, .move (.tmp 17), none)) rfl rfl (fun w' hS => val_move rfl) ?_
  refine yS (by kernel_rfl : opAt F4B.o1 3 = some (some 19, .move (.tmp 0), (some (2, false)))) rfl rfl (fun w' hS => val_move rfl) ?_
  refine cS (by kernel_rfl : opAt F4B.o1 4 = some (some 20, .call { callee := .value (.func 9), args := #[(.tmp 19)], argTypes := #[22] }, (some (2, false)))) rfl rfl (ent Try.call9 rfl) (few_ok _ _ _ _) ?_
  rintro vw2 w2 ⟨rfl, rfl⟩
  refine ⟨trivial, ?_⟩
  rw [decide_eq_false (show ¬ (n : Int) ≤ 400 by omega)]
  refine yS (by kernel_rfl : opAt F4B.o1 5 = some (some 21, .unOp .not 4 (.tmp 20), (some (2, false)))) rfl rfl (fun w' hS => val_not rfl) ?_
  refine yS (by kernel_rfl : opAt F4B.o1 6 = some (some 22, .pick (.tmp 18) (.const (.bool true)) (.tmp 21), none)) rfl rfl (fun w' hS => val_pick_f rfl rfl) ?_
  refine Sch.nil ?_
  refine run_cond (x := F4B.c6) (y := F4B.c9) (o := .tmp 22) (b := true) (by kernel_rfl) rfl (fun _ => ?_) (fun h => by cases h)
  refine run_seq (x := F4B.c7) (y := F4B.c8) (by kernel_rfl) ?_
  refine run_plain (id := 2) (ops := F4B.o2) [(0, false), (1, true)] (by kernel_rfl) (by kernel_rfl) ?_
  refine cS (by kernel_rfl : opAt F4B.o2 0 = some (some 23, .call { callee := .value (.func 8), args := #[], argTypes := #[] }, none)) rfl rfl (ent Try.call8 rfl) (awake_ok hF) ?_
  rintro vw3 w3 ⟨rfl, hs⟩
  refine ⟨trivial, ?_⟩
  replace hF := hF.st hs
  replace hT := hT.trans hs (by simp)
  refine yS (by kernel_rfl : opAt F4B.o2 1 = some (some 2, .assign (.tmp 23), none)) rfl rfl (fun w' hS => val_assign rfl) ?_
  refine Sch.nil ?_
  refine run_ret1 (by kernel_rfl) Try.func4 Try.results4 rfl ?_
  exact ⟨rfl, hT.out1 (by decide)⟩
end Go.Proofs.Ytejbklahkkjmhaa

