/- Steps through functions of the program. -/
import Derived.Test.YtejbklahkkjmhaaKP8
import Derived.Test.YtejbklahkkjmhaaKPairsLaw
set_option linter.unusedVariables false
set_option linter.unusedSimpArgs false
set_option maxRecDepth 100000
set_option maxHeartbeats 400000
namespace Go.Proofs.Ytejbklahkkjmhaa
open Go.K Go.K.Rep

theorem few_ok' {w : World} {M : Nat → Prop} {l : List Int} {vl : Value} (hl : RV w M l vl) : Calls Try.prog 9 #[vl] w (Ret fun v w' => v = .bool (decide ((l.length : Int) ≤ 400)) ∧ w' = w) := by
  obtain ⟨a, c, rfl⟩ := hl.len
  exact few_ok _ _ _ _
namespace F3
noncomputable def c0 : Code := bodyOf Try.f3
noncomputable def c1 : Code := cl c0
noncomputable def o0 : Array Oper := rops c1
noncomputable def c2 : Code := cr c0
noncomputable def c3 : Code := cl c2
noncomputable def c4 : Code := cl c3
noncomputable def o1 : Array Oper := rops c4
noncomputable def c5 : Code := cr c3
noncomputable def c6 : Code := cl c5
noncomputable def c7 : Code := cl c6
noncomputable def o2 : Array Oper := rops c7
noncomputable def c8 : Code := cr c6
noncomputable def c9 : Code := cr c5
noncomputable def c10 : Code := cr c2
noncomputable def c11 : Code := cl c10
noncomputable def o3 : Array Oper := rops c11
noncomputable def c12 : Code := cr c10
noncomputable def c13 : Code := cl c12
noncomputable def o4 : Array Oper := rops c13
noncomputable def c14 : Code := cr c12
noncomputable def c15 : Code := cl c14
noncomputable def o5 : Array Oper := rops c15
noncomputable def c16 : Code := cr c14
noncomputable def c17 : Code := cl c16
noncomputable def o6 : Array Oper := rops c17
noncomputable def c18 : Code := cr c16
noncomputable def c19 : Code := cl c18
noncomputable def o7 : Array Oper := rops c19
noncomputable def c20 : Code := cr c18
noncomputable def c21 : Code := cl c20
noncomputable def o8 : Array Oper := rops c21
noncomputable def c22 : Code := cr c20
noncomputable def c23 : Code := cl c22
noncomputable def c24 : Code := cl c23
noncomputable def o9 : Array Oper := rops c24
noncomputable def c25 : Code := cr c23
noncomputable def c26 : Code := cl c25
noncomputable def c27 : Code := cl c26
noncomputable def o10 : Array Oper := rops c27
noncomputable def c28 : Code := cr c26
noncomputable def c29 : Code := cr c25
noncomputable def c30 : Code := cr c22
noncomputable def c31 : Code := cl c30
noncomputable def c32 : Code := cl c31
noncomputable def o11 : Array Oper := rops c32
noncomputable def c33 : Code := cr c31
noncomputable def c34 : Code := cl c33
noncomputable def c35 : Code := cl c34
noncomputable def c36 : Code := cl c35
noncomputable def o12 : Array Oper := rops c36
noncomputable def c37 : Code := cr c35
noncomputable def c38 : Code := cl c37
noncomputable def c39 : Code := cl c38
noncomputable def c40 : Code := cr c38
noncomputable def c41 : Code := cr c37
noncomputable def c42 : Code := cl c41
noncomputable def c43 : Code := cl c42
noncomputable def c44 : Code := cl c43
noncomputable def o13 : Array Oper := rops c44
noncomputable def c45 : Code := cr c43
noncomputable def c46 : Code := cl c45
noncomputable def c47 : Code := cl c46
noncomputable def o14 : Array Oper := rops c47
noncomputable def c48 : Code := cr c46
noncomputable def c49 : Code := cl c48
noncomputable def c50 : Code := cl c49
noncomputable def o15 : Array Oper := rops c50
noncomputable def c51 : Code := cr c49
noncomputable def c52 : Code := cr c48
noncomputable def c53 : Code := cr c45
noncomputable def c54 : Code := cl c53
noncomputable def o16 : Array Oper := rops c54
noncomputable def c55 : Code := cr c53
noncomputable def c56 : Code := cl c55
noncomputable def c57 : Code := cl c56
noncomputable def o17 : Array Oper := rops c57
noncomputable def c58 : Code := cr c56
noncomputable def c59 : Code := cl c58
noncomputable def c60 : Code := cl c59
noncomputable def c61 : Code := cl c60
noncomputable def c62 : Code := cl c61
noncomputable def o18 : Array Oper := rops c62
noncomputable def c63 : Code := cr c61
noncomputable def c64 : Code := cl c63
noncomputable def c65 : Code := cr c63
noncomputable def c66 : Code := cr c60
noncomputable def c67 : Code := cl c66
noncomputable def c68 : Code := cl c67
noncomputable def o20 : Array Oper := rops c68
noncomputable def c69 : Code := cr c66
noncomputable def o19 : Array Oper := rops c69
noncomputable def c70 : Code := cr c55
noncomputable def c71 : Code := cl c70
noncomputable def o21 : Array Oper := rops c71
noncomputable def c72 : Code := cr c70
noncomputable def c73 : Code := cl c72
noncomputable def c74 : Code := cl c73
noncomputable def o22 : Array Oper := rops c74
noncomputable def c75 : Code := cr c73
noncomputable def c76 : Code := cr c72
noncomputable def c77 : Code := cr c41
noncomputable def o23 : Array Oper := rops c77
noncomputable def c78 : Code := cr c30
noncomputable def c79 : Code := cl c78
noncomputable def o24 : Array Oper := rops c79
noncomputable def c80 : Code := cr c78
end F3
/-- The statement's function answers true. -/
theorem pairsList_ok {w₀ : World} {C : Nat → Nat} {l : List Int} {vl : Value} (hF : Lim w₀ C) (hl : RV w₀ (Mc C) l vl) : Calls Try.prog 3 #[vl] w₀ (Ret fun v w' => v = .bool true ∧ Stp [] w₀ C w' C) := by
  have hF0 := hF
  have hT := Stp.refl [2, 3, 4, 5, 6, 7, 8, 9] w₀ (col1 C)
  replace hF := hF.col1
  replace hl : RV w₀ (Mc (col1 C)) l vl := by rw [Mc_col1]; exact hl
  refine calls_start (c := F3.c0) (N := 135) [vl] Try.func3 (by kernel_rfl) (by kernel_rfl) (by kernel_rfl) ?_
  show Run _ _ _ _ [(0, vl)] _ _
  refine run_seq (x := F3.c1) (y := F3.c2) (by kernel_rfl) ?_
  refine run_plain (id := 0) (ops := F3.o0) [(0, true)] (by kernel_rfl) (by kernel_rfl) ?_
  refine yS (by kernel_rfl : opAt F3.o0 0 = some (some 2, .assign (.const (.bool false)), none)) rfl rfl (fun w' hS => val_assign rfl) ?_
  refine Sch.nil ?_
  refine run_seq (x := F3.c3) (y := F3.c10) (by kernel_rfl) ?_
  refine run_seq (x := F3.c4) (y := F3.c5) (by kernel_rfl) ?_
  refine run_plain (id := 1) (ops := F3.o1) [(0, false), (1, true), (2, true), (3, true), (4, false), (5, true), (6, true)] (by kernel_rfl) (by kernel_rfl) ?_
  refine cS (by kernel_rfl : opAt F3.o1 0 = some (some 16, .call { callee := .value (.func 8), args := #[], argTypes := #[] }, none)) rfl rfl (ent Try.call8 rfl) (awake_ok hF) ?_
  rintro vw1 w1 ⟨rfl, hs⟩
  refine ⟨trivial, ?_⟩
  replace hF := hF.st hs
  replace hT := hT.trans hs (by simp)
  replace hl := hl.st hs (by first | decide | (simp <;> omega))
  refine yS (by kernel_rfl : opAt F3.o1 1 = some (some 17, .unOp .not 4 (.tmp 16), none)) rfl rfl (fun w' hS => val_not rfl) ?_
  refine yS (by kernel_rfl : opAt F3.o1 2 = some (some 18, .move (.tmp 17), none)) rfl rfl (fun w' hS => val_move rfl) ?_
  refine yS (by kernel_rfl : opAt F3.o1 3 = some (some 19, .move (.tmp 0), (some (2, false)))) rfl rfl (fun w' hS => val_move rfl) ?_
  refine cS (by kernel_rfl : opAt F3.o1 4 = some (some 20, .call { callee := .value (.func 9), args := #[(.tmp 19)], argTypes := #[22] }, (some (2, false)))) rfl rfl (ent Try.call9 rfl) (few_ok' hl) ?_
  rintro vw2 w2 ⟨rfl, rfl⟩
  refine ⟨trivial, ?_⟩
  refine yS (by kernel_rfl : opAt F3.o1 5 = some (some 21, .unOp .not 4 (.tmp 20), (some (2, false)))) rfl rfl (fun w' hS => val_notd rfl) ?_
  refine yS (by kernel_rfl : opAt F3.o1 6 = some (some 22, .pick (.tmp 18) (.const (.bool true)) (.tmp 21), none)) rfl rfl (fun w' hS => val_pick_f rfl rfl) ?_
  refine Sch.nil ?_
  refine run_if (x := F3.c6) (y := F3.c9) (o := .tmp 22) (by kernel_rfl) rfl (fun h22 => ?_) (fun h22 => ?_)
  · skip
    refine run_seq (x := F3.c7) (y := F3.c8) (by kernel_rfl) ?_
    refine run_plain (id := 2) (ops := F3.o2) [(0, false), (1, true)] (by kernel_rfl) (by kernel_rfl) ?_
    refine cS (by kernel_rfl : opAt F3.o2 0 = some (some 23, .call { callee := .value (.func 8), args := #[], argTypes := #[] }, none)) rfl rfl (ent Try.call8 rfl) (awake_ok hF) ?_
    rintro vw3 w3 ⟨rfl, hs⟩
    refine ⟨trivial, ?_⟩
    replace hF := hF.st hs
    replace hT := hT.trans hs (by simp)
    replace hl := hl.st hs (by first | decide | (simp <;> omega))
    refine yS (by kernel_rfl : opAt F3.o2 1 = some (some 2, .assign (.tmp 23), none)) rfl rfl (fun w' hS => val_assign rfl) ?_
    refine Sch.nil ?_
    refine run_ret1 (by kernel_rfl) Try.func3 Try.results3 rfl ?_
    exact ⟨rfl, hT.out1 (by decide)⟩
  · skip
    refine run_skip (by kernel_rfl) ?_
    refine run_seq (x := F3.c11) (y := F3.c12) (by kernel_rfl) ?_
    refine run_plain (id := 3) (ops := F3.o3) [(0, true), (1, false), (2, true)] (by kernel_rfl) (by kernel_rfl) ?_
    refine yS (by kernel_rfl : opAt F3.o3 0 = some (some 24, .move (.tmp 0), none)) rfl rfl (fun w' hS => val_move rfl) ?_
    refine cS (by kernel_rfl : opAt F3.o3 1 = some (some 25, .call { callee := .value (.func 10), args := #[(.tmp 24)], argTypes := #[22] }, none)) rfl rfl (ent Try.call10 rfl) (new_ok hF hl) ?_
    rintro vw4 w4 ⟨Cd, bd, rfl, hs, hF, hd⟩
    refine ⟨trivial, ?_⟩
    replace hT := hT.trans hs (by simp)
    replace hl := hl.st hs (by first | decide | (simp <;> omega))
    obtain ⟨d0, hd0⟩ : ∃ d0 : Dk, d0 = ⟨l, 0, 11400714819323198485⟩ := ⟨_, rfl⟩
    rw [← hd0] at hd
    have hdl0 : d0.list.length ≤ 140737488355328 := by rw [hd0]; exact hl.le
    refine yS (by kernel_rfl : opAt F3.o3 2 = some (some 3, .assign (.tmp 25), none)) rfl rfl (fun w' hS => val_assign rfl) ?_
    refine Sch.nil ?_
    refine run_seq (x := F3.c13) (y := F3.c14) (by kernel_rfl) ?_
    refine run_plain (id := 4) (ops := F3.o4) [(0, true), (1, false), (2, true), (3, true)] (by kernel_rfl) (by kernel_rfl) ?_
    refine yS (by kernel_rfl : opAt F3.o4 0 = some (some 26, .move (.tmp 3), none)) rfl rfl (fun w' hS => val_move rfl) ?_
    refine cS (by kernel_rfl : opAt F3.o4 1 = some (some 27, .call { callee := .value (.func 11), args := #[(.tmp 26), (.const (.int .i64 3))], argTypes := #[25, 3] }, none)) rfl rfl (ent Try.call11 rfl) (next_ok (d := d0) (n := 3) hF (by decide) hd hdl0 (by omega)) ?_
    rintro vw5 w5 ⟨rfl, hs, hd⟩
    refine ⟨trivial, ?_⟩
    replace hF := hF.st hs
    replace hT := hT.trans hs (by simp)
    replace hl := hl.st hs (by first | decide | (simp <;> omega))
    have hrn1 := d0.num_range (n := 3) (by omega)
    obtain ⟨n1, hnn1⟩ : ∃ n1 : Nat, d0.num 3 = n1 := ⟨_, (Int.toNat_of_nonneg hrn1.1).symm⟩
    rw [hnn1] at hrn1 ⊢
    obtain ⟨d1, hd1⟩ : ∃ d1, d1 = d0.after 3 := ⟨_, rfl⟩
    rw [← hd1] at hd
    have hdl1 : d1.list.length ≤ 140737488355328 := by rw [hd1, Dk.after_list]; exact hdl0
    refine yS (by kernel_rfl : opAt F3.o4 2 = some (some 28, .binOp .add 3 (.const (.int .i64 1)) (.tmp 27) 3, none)) rfl rfl (fun w' hS => val_is (val_addi rfl rfl (by omega) (by omega)) (congrArg (Value.int .i64) (show (1 : Int) + n1 = ((n1 + 1 : Nat) : Int) from by omega))) ?_
    refine yS (by kernel_rfl : opAt F3.o4 3 = some (some 4, .assign (.tmp 28), none)) rfl rfl (fun w' hS => val_assign rfl) ?_
    refine Sch.nil ?_
    refine run_seq (x := F3.c15) (y := F3.c16) (by kernel_rfl) ?_
    refine run_plain (id := 5) (ops := F3.o5) [(0, true), (1, true), (2, false), (3, true), (4, true), (5, false), (6, true), (7, true)] (by kernel_rfl) (by kernel_rfl) ?_
    refine yS (by kernel_rfl : opAt F3.o5 0 = some (some 29, .move (.tmp 3), none)) rfl rfl (fun w' hS => val_move rfl) ?_
    refine yS (by kernel_rfl : opAt F3.o5 1 = some (some 30, .move (.tmp 4), none)) rfl rfl (fun w' hS => val_move rfl) ?_
    refine cS (by kernel_rfl : opAt F3.o5 2 = some (some 31, .call { callee := .value (.func 12), args := #[(.tmp 29), (.tmp 30), (.const (.int .i64 10))], argTypes := #[25, 3, 3] }, none)) rfl rfl (ent Try.call12 rfl) (blockLists_ok (d := d1) (keys := n1 + 1) (most := 10) hF (by decide) hd hdl1 (by omega) (by decide)) ?_
    rintro vw6 w6 ⟨hs, ha, hd⟩
    refine ⟨trivial, ?_⟩
    replace hF := hF.st hs
    replace hT := hT.trans hs (by simp)
    replace hl := hl.st hs (by first | decide | (simp <;> omega))
    obtain ⟨d2, hd2⟩ : ∃ d2, d2 = (listsSt d1 10 (n1 + 1)).1 := ⟨_, rfl⟩
    obtain ⟨a, hda⟩ : ∃ a, a = (listsSt d1 10 (n1 + 1)).2 := ⟨_, rfl⟩
    rw [← hd2] at hd
    rw [← hda] at ha
    have hdl2 : d2.list.length ≤ 140737488355328 := by rw [hd2, listsSt_list]; exact hdl1
    have hla : a.length = n1 + 1 := by rw [hda]; exact listsSt_len _ _ _
    have hsa : ∀ x ∈ a, total x ≤ 4611686018427387904 := fun x hx => by
      rw [hda] at hx
      have := listsSt_total _ _ x hx
      omega
    refine yS (by kernel_rfl : opAt F3.o5 3 = some (some 32, .move (.tmp 3), none)) rfl rfl (fun w' hS => val_move rfl) ?_
    refine yS (by kernel_rfl : opAt F3.o5 4 = some (some 33, .move (.tmp 4), none)) rfl rfl (fun w' hS => val_move rfl) ?_
    refine cS (by kernel_rfl : opAt F3.o5 5 = some (some 34, .call { callee := .value (.func 12), args := #[(.tmp 32), (.tmp 33), (.const (.int .i64 10))], argTypes := #[25, 3, 3] }, none)) rfl rfl (ent Try.call12 rfl) (blockLists_ok (d := d2) (keys := n1 + 1) (most := 10) hF (by decide) hd hdl2 (by omega) (by decide)) ?_
    rintro vw7 w7 ⟨hs, hb, hd⟩
    refine ⟨trivial, ?_⟩
    replace hF := hF.st hs
    replace hT := hT.trans hs (by simp)
    replace hl := hl.st hs (by first | decide | (simp <;> omega))
    replace ha := ha.st hs (by first | decide | (simp <;> omega))
    obtain ⟨d3, hd3⟩ : ∃ d3, d3 = (listsSt d2 10 (n1 + 1)).1 := ⟨_, rfl⟩
    obtain ⟨b, hdb⟩ : ∃ b, b = (listsSt d2 10 (n1 + 1)).2 := ⟨_, rfl⟩
    rw [← hd3] at hd
    rw [← hdb] at hb
    have hdl3 : d3.list.length ≤ 140737488355328 := by rw [hd3, listsSt_list]; exact hdl2
    have hlb : b.length = n1 + 1 := by rw [hdb]; exact listsSt_len _ _ _
    have hsb : ∀ x ∈ b, total x ≤ 4611686018427387904 := fun x hx => by
      rw [hdb] at hx
      have := listsSt_total _ _ x hx
      omega
    refine yS (by kernel_rfl : opAt F3.o5 6 = some (some 5, .assign (.tmp 31), none)) rfl rfl (fun w' hS => val_assign rfl) ?_
    refine yS (by kernel_rfl : opAt F3.o5 7 = some (some 6, .assign (.tmp 34), none)) rfl rfl (fun w' hS => val_assign rfl) ?_
    refine Sch.nil ?_
    refine run_seq (x := F3.c17) (y := F3.c18) (by kernel_rfl) ?_
    refine run_plain (id := 6) (ops := F3.o6) [(0, true), (1, true), (2, true), (3, false), (4, true)] (by kernel_rfl) (by kernel_rfl) ?_
    refine yS (by kernel_rfl : opAt F3.o6 0 = some (some 35, .move (.tmp 3), none)) rfl rfl (fun w' hS => val_move rfl) ?_
    refine yS (by kernel_rfl : opAt F3.o6 1 = some (some 36, .move (.tmp 4), none)) rfl rfl (fun w' hS => val_move rfl) ?_
    obtain ⟨z, hz, hz8, hz1⟩ : ∃ z : Nat, z = 2 ^ (n1 + 1) ∧ z ≤ 8 ∧ 1 ≤ z := ⟨_, rfl, Nat.pow_le_pow_right (n := 2) (by decide) (show n1 + 1 ≤ 3 by omega), Nat.one_le_two_pow⟩
    refine yS (by kernel_rfl : opAt F3.o6 2 = some (some 37, .binOp .shl 3 (.const (.int .i64 1)) (.tmp 36) 3, none)) rfl rfl (fun w' hS => val_shlE (r := (z : Int)) rfl rfl (by omega) (by rw [hz]; exact shl1N (by omega))) ?_
    refine cS (by kernel_rfl : opAt F3.o6 3 = some (some 38, .call { callee := .value (.func 11), args := #[(.tmp 35), (.tmp 37)], argTypes := #[25, 3] }, none)) rfl rfl (ent Try.call11 rfl) (next_ok (d := d3) (n := (z : Int)) hF (by decide) hd hdl3 (by omega)) ?_
    rintro vw8 w8 ⟨rfl, hs, hd⟩
    refine ⟨trivial, ?_⟩
    replace hF := hF.st hs
    replace hT := hT.trans hs (by simp)
    replace hl := hl.st hs (by first | decide | (simp <;> omega))
    replace ha := ha.st hs (by first | decide | (simp <;> omega))
    replace hb := hb.st hs (by first | decide | (simp <;> omega))
    have hrmk := d3.num_range (n := (z : Int)) (by omega)
    obtain ⟨mk, hnmk⟩ : ∃ mk : Nat, d3.num (z : Int) = mk := ⟨_, (Int.toNat_of_nonneg hrmk.1).symm⟩
    rw [hnmk] at hrmk ⊢
    obtain ⟨d4, hd4⟩ : ∃ d4, d4 = d3.after (z : Int) := ⟨_, rfl⟩
    rw [← hd4] at hd
    have hdl4 : d4.list.length ≤ 140737488355328 := by rw [hd4, Dk.after_list]; exact hdl3
    refine yS (by kernel_rfl : opAt F3.o6 4 = some (some 7, .assign (.tmp 38), none)) rfl rfl (fun w' hS => val_assign rfl) ?_
    refine Sch.nil ?_
    refine run_seq (x := F3.c19) (y := F3.c20) (by kernel_rfl) ?_
    refine run_plain (id := 7) (ops := F3.o7) [(0, true), (1, true), (2, true), (3, false), (4, true), (5, true), (6, true), (7, true), (8, true)] (by kernel_rfl) (by kernel_rfl) ?_
    refine yS (by kernel_rfl : opAt F3.o7 0 = some (some 40, .move (.tmp 5), none)) rfl rfl (fun w' hS => val_move rfl) ?_
    refine yS (by kernel_rfl : opAt F3.o7 1 = some (some 41, .move (.tmp 6), none)) rfl rfl (fun w' hS => val_move rfl) ?_
    refine yS (by kernel_rfl : opAt F3.o7 2 = some (some 42, .move (.tmp 7), none)) rfl rfl (fun w' hS => val_move rfl) ?_
    have hz0 : checkM a b (mk : Int) = 0 := by rw [hda, hdb]; exact checkM_dealt d1 d2 (by decide) (by omega) (by rw [← hz]; omega)
    refine cS (by kernel_rfl : opAt F3.o7 3 = some (some 43, .call { callee := .value (.func 13), args := #[(.tmp 40), (.tmp 41), (.tmp 42)], argTypes := #[28, 28, 3] }, none)) rfl rfl (ent Try.call13 rfl) (list_ok (mask := (mk : Int)) hF ha hb hsa hsb) ?_
    rintro vw9 w9 ⟨ul, hv, hs, hl⟩
    refine ⟨trivial, ?_⟩
    replace hF := hF.st hs
    replace hT := hT.trans hs (by simp)
    replace hd := hd.st hs (by first | decide | (simp <;> omega)) (by first | decide | (simp <;> omega))
    replace ha := ha.st hs (by first | decide | (simp <;> omega))
    replace hb := hb.st hs (by first | decide | (simp <;> omega))
    rw [if_neg (by rw [hz0]; decide), show ((mk : Int)).toNat = mk from by simp] at hl
    rw [hz0] at hv
    subst hv
    obtain ⟨L, hL⟩ : ∃ L, L = listS a b mk := ⟨_, rfl⟩
    rw [← hL] at hl
    have hst : ∀ i (h : i < L.length) (h0 : 0 < i), ¬ (L[i].a < L[i - 1].a ∨ L[i - 1].a = L[i].a ∧ L[i].b ≤ L[i - 1].b) := fun i h h0 => by subst hL; exact listS_strict a b mk (by omega) h
    have hfd : ∀ i (h : i < L.length), foundS a b mk L[i] (n1 + 1) = true := fun i h => by subst hL; rw [← hla]; exact foundS_list h
    refine yS (by kernel_rfl : opAt F3.o7 4 = some (some 39, .move (.tmp 43), none)) rfl rfl (fun w' hS => val_move rfl) ?_
    refine yS (by kernel_rfl : opAt F3.o7 5 = some (some 44, .extract (.tmp 39) 0, none)) rfl rfl (fun w' hS => val_extract rfl rfl) ?_
    refine yS (by kernel_rfl : opAt F3.o7 6 = some (some 45, .extract (.tmp 39) 1, none)) rfl rfl (fun w' hS => val_extract rfl rfl) ?_
    refine yS (by kernel_rfl : opAt F3.o7 7 = some (some 8, .assign (.tmp 44), none)) rfl rfl (fun w' hS => val_assign rfl) ?_
    refine yS (by kernel_rfl : opAt F3.o7 8 = some (some 9, .assign (.tmp 45), none)) rfl rfl (fun w' hS => val_assign rfl) ?_
    refine Sch.nil ?_
    refine run_seq (x := F3.c21) (y := F3.c22) (by kernel_rfl) ?_
    refine run_plain (id := 8) (ops := F3.o8) [(0, true), (1, true), (2, true), (3, false), (4, true), (5, true), (6, true), (7, true), (8, true)] (by kernel_rfl) (by kernel_rfl) ?_
    refine yS (by kernel_rfl : opAt F3.o8 0 = some (some 47, .move (.tmp 5), none)) rfl rfl (fun w' hS => val_move rfl) ?_
    refine yS (by kernel_rfl : opAt F3.o8 1 = some (some 48, .move (.tmp 6), none)) rfl rfl (fun w' hS => val_move rfl) ?_
    refine yS (by kernel_rfl : opAt F3.o8 2 = some (some 49, .move (.tmp 7), none)) rfl rfl (fun w' hS => val_move rfl) ?_
    refine cS (by kernel_rfl : opAt F3.o8 3 = some (some 50, .call { callee := .value (.func 14), args := #[(.tmp 47), (.tmp 48), (.tmp 49)], argTypes := #[28, 28, 3] }, none)) rfl rfl (ent Try.call14 rfl) (union_ok (mask := (mk : Int)) hF ha hb hsa hsb) ?_
    rintro vw10 w10 ⟨hv, hs⟩
    refine ⟨trivial, ?_⟩
    replace hF := hF.st hs
    replace hT := hT.trans hs (by simp)
    replace hl := hl.st hs (by first | decide | (simp <;> omega))
    replace hd := hd.st hs (by first | decide | (simp <;> omega)) (by first | decide | (simp <;> omega))
    replace ha := ha.st hs (by first | decide | (simp <;> omega))
    replace hb := hb.st hs (by first | decide | (simp <;> omega))
    rw [hz0, if_neg (by decide), show ((mk : Int)).toNat = mk from by simp, ← hL] at hv
    subst hv
    refine yS (by kernel_rfl : opAt F3.o8 4 = some (some 46, .move (.tmp 50), none)) rfl rfl (fun w' hS => val_move rfl) ?_
    refine yS (by kernel_rfl : opAt F3.o8 5 = some (some 51, .extract (.tmp 46) 0, none)) rfl rfl (fun w' hS => val_extract rfl rfl) ?_
    refine yS (by kernel_rfl : opAt F3.o8 6 = some (some 52, .extract (.tmp 46) 1, none)) rfl rfl (fun w' hS => val_extract rfl rfl) ?_
    refine yS (by kernel_rfl : opAt F3.o8 7 = some (some 10, .assign (.tmp 51), none)) rfl rfl (fun w' hS => val_assign rfl) ?_
    refine yS (by kernel_rfl : opAt F3.o8 8 = some (some 11, .assign (.tmp 52), none)) rfl rfl (fun w' hS => val_assign rfl) ?_
    refine Sch.nil ?_
    refine run_seq (x := F3.c23) (y := F3.c30) (by kernel_rfl) ?_
    refine run_seq (x := F3.c24) (y := F3.c25) (by kernel_rfl) ?_
    refine run_plain (id := 9) (ops := F3.o9) [(0, true), (1, true), (2, true), (3, true), (4, true), (5, true), (6, true), (7, true), (8, true), (9, true), (10, true), (11, true)] (by kernel_rfl) (by kernel_rfl) ?_
    refine yS (by kernel_rfl : opAt F3.o9 0 = some (some 53, .move (.tmp 9), none)) rfl rfl (fun w' hS => val_move rfl) ?_
    refine yS (by kernel_rfl : opAt F3.o9 1 = some (some 54, .binOp .neq 31 (.tmp 53) (.const (.int .i64 0)) 31, none)) rfl rfl (fun w' hS => val_F (val_neq rfl rfl) (by decide)) ?_
    refine yS (by kernel_rfl : opAt F3.o9 2 = some (some 55, .move (.tmp 54), none)) rfl rfl (fun w' hS => val_move rfl) ?_
    refine yS (by kernel_rfl : opAt F3.o9 3 = some (some 56, .move (.tmp 11), (some (2, false)))) rfl rfl (fun w' hS => val_move rfl) ?_
    refine yS (by kernel_rfl : opAt F3.o9 4 = some (some 57, .binOp .neq 31 (.tmp 56) (.const (.int .i64 0)) 31, (some (2, false)))) rfl rfl (fun w' hS => val_F (val_neq rfl rfl) (by decide)) ?_
    refine yS (by kernel_rfl : opAt F3.o9 5 = some (some 58, .pick (.tmp 55) (.const (.bool true)) (.tmp 57), none)) rfl rfl (fun w' hS => val_pick_f rfl rfl) ?_
    refine yS (by kernel_rfl : opAt F3.o9 6 = some (some 59, .move (.tmp 58), none)) rfl rfl (fun w' hS => val_move rfl) ?_
    refine yS (by kernel_rfl : opAt F3.o9 7 = some (some 60, .move (.tmp 8), (some (6, false)))) rfl rfl (fun w' hS => val_move rfl) ?_
    refine yS (by kernel_rfl : opAt F3.o9 8 = some (some 61, .call { callee := .builtin .len, args := #[(.tmp 60)], argTypes := #[30] }, (some (6, false)))) rfl rfl (fun w' hS => hl.lenV rfl Try.underlying30 w' ) ?_
    refine yS (by kernel_rfl : opAt F3.o9 9 = some (some 62, .move (.tmp 10), (some (6, false)))) rfl rfl (fun w' hS => val_move rfl) ?_
    refine yS (by kernel_rfl : opAt F3.o9 10 = some (some 63, .binOp .neq 3 (.tmp 61) (.tmp 62) 3, (some (6, false)))) rfl rfl (fun w' hS => val_F (val_neq rfl rfl) (fun h => h rfl)) ?_
    refine yS (by kernel_rfl : opAt F3.o9 11 = some (some 64, .pick (.tmp 59) (.const (.bool true)) (.tmp 63), none)) rfl rfl (fun w' hS => val_pick_f rfl rfl) ?_
    refine Sch.nil ?_
    refine run_cond (x := F3.c26) (y := F3.c29) (o := .tmp 64) (b := false) (by kernel_rfl) rfl (fun h => by cases h) (fun _ => ?_)
    refine run_skip (by kernel_rfl) ?_
    refine run_seq (x := F3.c31) (y := F3.c78) (by kernel_rfl) ?_
    refine run_seq (x := F3.c32) (y := F3.c33) (by kernel_rfl) ?_
    refine run_plain (id := 11) (ops := F3.o11) [(0, true), (1, true), (2, true)] (by kernel_rfl) (by kernel_rfl) ?_
    refine yS (by kernel_rfl : opAt F3.o11 0 = some (some 65, .move (.tmp 8), none)) rfl rfl (fun w' hS => val_move rfl) ?_
    refine yS (by kernel_rfl : opAt F3.o11 1 = some (some 66, .call { callee := .builtin .len, args := #[(.tmp 65)], argTypes := #[30] }, none)) rfl rfl (fun w' hS => hl.lenV rfl Try.underlying30 w' ) ?_
    refine yS (by kernel_rfl : opAt F3.o11 2 = some (some 67, .move (.const (.int .i64 0)), none)) rfl rfl (fun w' hS => val_move rfl) ?_
    refine Sch.nil ?_
    refine run_block (x := F3.c34) (id := 0) (by kernel_rfl) ?_
    refine run_loop (ι := Nat × (Nat → Nat)) (I := fun x w => x.1 ≤ L.length ∧ Lim w x.2 ∧ Stp [2, 3, 4, 5, 6, 7, 8, 9] w₀ (col1 C) w x.2 ∧ RV w (Mc x.2) a vw6 ∧ RV w (Mc x.2) b vw7 ∧ RV w (Mc x.2) L ul) (e := fun x => [(4, .int .i64 (n1 + 1 : Nat)), (5, vw6), (6, vw7), (7, .int .i64 (mk : Int)), (8, ul), (65, ul), (66, .int .i64 L.length), (67, .int .i64 x.1)]) (m := fun x => L.length - x.1) (x₀ := (0, Cd)) (body := F3.c35) (by kernel_rfl) (sub_cons 4 rfl rfl (sub_cons 5 rfl rfl (sub_cons 6 rfl rfl (sub_cons 7 rfl rfl (sub_cons 8 rfl rfl (sub_cons 65 rfl rfl (sub_cons 66 rfl rfl (sub_cons 67 rfl rfl (sub_nil _))))))))) ?_ ?_
    · exact ⟨Nat.zero_le _, hF, hT, ha, hb, hl⟩
    intro ⟨i, C1⟩ w11 hI next
    obtain ⟨hi, hF, hT, ha, hb, hl⟩ := hI
    simp only at hi hF hT ha hb hl
    show Run _ _ _ _ [(4, .int .i64 (n1 + 1 : Nat)), (5, vw6), (6, vw7), (7, .int .i64 (mk : Int)), (8, ul), (65, ul), (66, .int .i64 L.length), (67, .int .i64 (i : Int))] _ _
    have hll := hl.le
    refine run_seq (x := F3.c36) (y := F3.c37) (by kernel_rfl) ?_
    refine run_plain (id := 12) (ops := F3.o12) [(0, true)] (by kernel_rfl) (by kernel_rfl) ?_
    refine yS (by kernel_rfl : opAt F3.o12 0 = some (some 68, .binOp .lss 3 (.tmp 67) (.tmp 66) 3, none)) rfl rfl (fun w' hS => val_lss rfl rfl) ?_
    refine Sch.nil ?_
    refine run_seq (x := F3.c38) (y := F3.c41) (by kernel_rfl) ?_
    refine run_if (x := F3.c39) (y := F3.c40) (o := .tmp 68) (by kernel_rfl) rfl (fun h68 => ?_) (fun h68 => ?_)
    · skip
      have hil : i < L.length := by omega
      refine run_skip (by kernel_rfl) ?_
      refine run_seq (x := F3.c42) (y := F3.c77) (by kernel_rfl) ?_
      refine run_block (x := F3.c43) (id := 1) (by kernel_rfl) ?_
      refine run_seq (x := F3.c44) (y := F3.c45) (by kernel_rfl) ?_
      refine run_plain (id := 13) (ops := F3.o13) [(0, true), (1, true), (2, false), (3, false), (4, true), (5, false)] (by kernel_rfl) (by kernel_rfl) ?_
      refine yS (by kernel_rfl : opAt F3.o13 0 = some (some 69, .move (.tmp 67), none)) rfl rfl (fun w' hS => val_move rfl) ?_
      refine iS (e := 37) (by kernel_rfl : opAt F3.o13 1 = some (some 70, .indexAddr 30 (.tmp 65) (.tmp 67), none)) rfl rfl hl rfl (by kernel_rfl) rfl (by omega) (by omega) ?_
      intro b70 o70 h70
      try simp only [Int.toNat_natCast] at h70
      refine lNA (by kernel_rfl : opAt F3.o13 2 = some (some 71, .load 37 (.tmp 70), none)) rfl rfl trivial h70 (by kernel_rfl) (by kernel_rfl) rfl rfl ?_
      intro v71 g71
      obtain rfl := rv_couple.1 g71
      refine aS (by kernel_rfl : opAt F3.o13 3 = some (some 13, .alloc 37, none)) rfl rfl (a_alloc (cs := [.int .i64 0, .int .i64 0]) hF 4 (by kernel_rfl)) ?_
      rintro _ w12 ⟨Cw12, bw12, rfl, hs, hx, hF⟩
      refine ⟨trivial, ?_⟩
      replace hT := hT.trans hs (by simp)
      replace ha := ha.st hs (by first | decide | (simp <;> omega))
      replace hb := hb.st hs (by first | decide | (simp <;> omega))
      replace hl := hl.st hs (by first | decide | (simp <;> omega))
      replace h70 := h70.st hs (by first | decide | (simp <;> omega))
      refine yS (by kernel_rfl : opAt F3.o13 4 = some (some 12, .assign (.tmp 69), none)) rfl rfl (fun w' hS => val_assign rfl) ?_
      refine aN (by kernel_rfl : opAt F3.o13 5 = some (none, .store 37 (.tmp 13) (.tmp 71), none)) rfl (a_storeAll (vs := [.int .i64 (L[i]'hil).a, .int .i64 (L[i]'hil).b]) (n := 2) rfl rfl (by kernel_rfl) rfl rfl (by intro u hu; simp only [List.mem_cons, List.not_mem_nil, or_false] at hu; rcases hu with rfl | rfl <;> rfl) hx rfl) ?_
      rintro _ w13 ⟨rfl, hs, hx⟩
      refine ⟨trivial, ?_⟩
      replace hF := hF.st hs
      replace hT := hT.trans hs (by simp)
      replace ha := ha.st hs (by first | decide | (simp <;> omega))
      replace hb := hb.st hs (by first | decide | (simp <;> omega))
      replace hl := hl.st hs (by first | decide | (simp <;> omega))
      replace h70 := h70.st hs (by first | decide | (simp <;> omega))
      refine Sch.nil ?_
      refine run_seq (x := F3.c46) (y := F3.c53) (by kernel_rfl) ?_
      refine run_seq (x := F3.c47) (y := F3.c48) (by kernel_rfl) ?_
      refine run_cut 106 (false) (Cw12) ?_ ?_
      · intro hcut
        by_cases hA : (0 : Int) < i
        · skip
          by_cases hB : (L[i]'hil).a < (L[i - 1]'(by omega)).a
          · skip
            refine run_draw (id := 14) (ops := F3.o14) [] (Cw12) [(0, true), (1, true), (2, true), (3, true), (4, true), (5, true), (6, true), (7, true), (8, true), (9, true), (10, true), (11, true), (12, true), (13, true), (14, true), (15, true), (16, true), (17, true), (18, true), (19, true), (20, true), (21, true), (22, true), (23, true), (24, true), (25, true), (26, true), (27, true), (28, true), (29, true), (30, true), (31, true), (32, true), (33, true), (34, true)] Try_mixed (by kernel_rfl) (by kernel_rfl) (by kernel_rfl) ?_
            intro w14 hs
            replace hF := hF.st hs
            replace hT := hT.trans hs (by simp)
            replace ha := ha.st hs (by first | decide | (simp <;> omega))
            replace hb := hb.st hs (by first | decide | (simp <;> omega))
            replace hl := hl.st hs (by first | decide | (simp <;> omega))
            replace h70 := h70.st hs (by first | decide | (simp <;> omega))
            replace hx := hx.st hs (by first | decide | (simp <;> omega))
            have hst1 := hst i hil
            refine yS (by kernel_rfl : opAt F3.o14 0 = some (some 72, .move (.tmp 12), none)) rfl rfl (fun w' hS => val_move rfl) ?_
            refine yS (by kernel_rfl : opAt F3.o14 1 = some (some 73, .binOp .gtr 3 (.tmp 72) (.const (.int .i64 0)) 3, none)) rfl rfl (fun w' hS => val_T (val_gtr rfl rfl) hA) ?_
            refine yS (by kernel_rfl : opAt F3.o14 2 = some (some 74, .move (.tmp 73), none)) rfl rfl (fun w' hS => val_move rfl) ?_
            refine yS (by kernel_rfl : opAt F3.o14 3 = some (some 75, .move (.tmp 8), (some (2, true)))) rfl rfl (fun w' hS => val_move rfl) ?_
            refine yS (by kernel_rfl : opAt F3.o14 4 = some (some 76, .move (.tmp 12), (some (2, true)))) rfl rfl (fun w' hS => val_move rfl) ?_
            refine yS (by kernel_rfl : opAt F3.o14 5 = some (some 77, .binOp .sub 3 (.tmp 76) (.const (.int .i64 1)) 3, (some (2, true)))) rfl rfl (fun w' hS => val_subi rfl rfl (by omega) (by omega)) ?_
            refine iS (e := 37) (by kernel_rfl : opAt F3.o14 6 = some (some 78, .indexAddr 30 (.tmp 75) (.tmp 77), (some (2, true)))) rfl rfl hl rfl (by kernel_rfl) rfl (by omega) (by omega) ?_
            intro b78 o78 h78
            try simp only [Int.toNat_natCast] at h78
            have h79 := RA.ca h78
            refine yS (by kernel_rfl : opAt F3.o14 7 = some (some 79, .fieldAddr 37 (.tmp 78) 0, (some (2, true)))) rfl rfl (fun w' hS => val_fieldAddr (off := 0) (by kernel_rfl) rfl) ?_
            refine lS (by kernel_rfl : opAt F3.o14 8 = some (some 80, .load 3 (.tmp 79), (some (2, true)))) rfl rfl (fun w' hS => h79.stay hS (by decide)) h79 (by kernel_rfl) rfl rfl ?_
            intro v80 g80
            obtain rfl := rv_int.1 g80
            refine yS (by kernel_rfl : opAt F3.o14 9 = some (some 81, .fieldAddr 37 (.tmp 13) 0, (some (2, true)))) rfl rfl (fun w' hS => val_fieldAddr (off := 0) (by kernel_rfl) rfl) ?_
            refine yS (by kernel_rfl : opAt F3.o14 10 = some (some 82, .load 3 (.tmp 81), (some (2, true)))) rfl rfl (fun w' hS => val_loadOwn (hx.stay hS (by decide)) (by kernel_rfl) rfl rfl) ?_
            refine yS (by kernel_rfl : opAt F3.o14 11 = some (some 83, .binOp .gtr 3 (.tmp 80) (.tmp 82) 3, (some (2, true)))) rfl rfl (fun w' hS => val_T (val_gtr rfl rfl) (by simpa [show ((i : Int) - 1).toNat = i - 1 from by omega] using hB)) ?_
            refine yS (by kernel_rfl : opAt F3.o14 12 = some (some 84, .move (.tmp 83), (some (2, true)))) rfl rfl (fun w' hS => val_move rfl) ?_
            refine pS (by kernel_rfl : opAt F3.o14 13 = some (some 85, .move (.tmp 8), (some (12, false)))) rfl rfl ?_
            refine pS (by kernel_rfl : opAt F3.o14 14 = some (some 86, .move (.tmp 12), (some (12, false)))) rfl rfl ?_
            refine pS (by kernel_rfl : opAt F3.o14 15 = some (some 87, .binOp .sub 3 (.tmp 86) (.const (.int .i64 1)) 3, (some (12, false)))) rfl rfl ?_
            refine pS (by kernel_rfl : opAt F3.o14 16 = some (some 88, .indexAddr 30 (.tmp 85) (.tmp 87), (some (12, false)))) rfl rfl ?_
            refine pS (by kernel_rfl : opAt F3.o14 17 = some (some 89, .fieldAddr 37 (.tmp 88) 0, (some (12, false)))) rfl rfl ?_
            refine pS (by kernel_rfl : opAt F3.o14 18 = some (some 90, .load 3 (.tmp 89), (some (12, false)))) rfl rfl ?_
            refine pS (by kernel_rfl : opAt F3.o14 19 = some (some 91, .fieldAddr 37 (.tmp 13) 0, (some (12, false)))) rfl rfl ?_
            refine pS (by kernel_rfl : opAt F3.o14 20 = some (some 92, .load 3 (.tmp 91), (some (12, false)))) rfl rfl ?_
            refine pS (by kernel_rfl : opAt F3.o14 21 = some (some 93, .binOp .eql 3 (.tmp 90) (.tmp 92) 3, (some (12, false)))) rfl rfl ?_
            refine pS (by kernel_rfl : opAt F3.o14 22 = some (some 94, .move (.tmp 93), (some (12, false)))) rfl rfl ?_
            refine pS (by kernel_rfl : opAt F3.o14 23 = some (some 95, .move (.tmp 8), (some (22, true)))) rfl rfl ?_
            refine pS (by kernel_rfl : opAt F3.o14 24 = some (some 96, .move (.tmp 12), (some (22, true)))) rfl rfl ?_
            refine pS (by kernel_rfl : opAt F3.o14 25 = some (some 97, .binOp .sub 3 (.tmp 96) (.const (.int .i64 1)) 3, (some (22, true)))) rfl rfl ?_
            refine pS (by kernel_rfl : opAt F3.o14 26 = some (some 98, .indexAddr 30 (.tmp 95) (.tmp 97), (some (22, true)))) rfl rfl ?_
            refine pS (by kernel_rfl : opAt F3.o14 27 = some (some 99, .fieldAddr 37 (.tmp 98) 1, (some (22, true)))) rfl rfl ?_
            refine pS (by kernel_rfl : opAt F3.o14 28 = some (some 100, .load 3 (.tmp 99), (some (22, true)))) rfl rfl ?_
            refine pS (by kernel_rfl : opAt F3.o14 29 = some (some 101, .fieldAddr 37 (.tmp 13) 1, (some (22, true)))) rfl rfl ?_
            refine pS (by kernel_rfl : opAt F3.o14 30 = some (some 102, .load 3 (.tmp 101), (some (22, true)))) rfl rfl ?_
            refine pS (by kernel_rfl : opAt F3.o14 31 = some (some 103, .binOp .geq 3 (.tmp 100) (.tmp 102) 3, (some (22, true)))) rfl rfl ?_
            refine pS (by kernel_rfl : opAt F3.o14 32 = some (some 104, .pick (.tmp 94) (.tmp 103) (.const (.bool false)), (some (12, false)))) rfl rfl ?_
            refine yS (by kernel_rfl : opAt F3.o14 33 = some (some 105, .pick (.tmp 84) (.const (.bool true)) (.tmp 104), (some (2, true)))) rfl rfl (fun w' hS => val_pick_t rfl rfl) ?_
            refine yS (by kernel_rfl : opAt F3.o14 34 = some (some 106, .pick (.tmp 74) (.tmp 105) (.const (.bool false)), none)) rfl rfl (fun w' hS => val_pick_t rfl rfl) ?_
            exact Sch.nil (hcut _ _ _ hs rfl (by exact absurd (Or.inl hB) (hst1 (by omega))) (sub_skip rfl (sub_skip rfl (sub_skip rfl (sub_skip rfl (sub_skip rfl (sub_skip rfl (sub_skip rfl (sub_skip rfl (sub_skip rfl (sub_skip rfl (sub_skip rfl (sub_skip rfl (sub_skip rfl (sub_skip rfl (sub_skip rfl (sub_skip rfl (sub_skip rfl (sub_skip rfl (sub_skip rfl (sub_skip rfl (sub_skip rfl (sub_skip rfl (sub_skip rfl (sub_skip rfl (sub_skip rfl (sub_skip rfl (sub_skip rfl (sub_skip rfl (sub_skip rfl (sub_skip rfl (sub_skip rfl (sub_skip rfl (sub_skip rfl (sub_skip rfl (sub_skip rfl (Sub.refl _)))))))))))))))))))))))))))))))))))))
          · skip
            by_cases hC : (L[i - 1]'(by omega)).a = (L[i]'hil).a
            · skip
              refine run_draw (id := 14) (ops := F3.o14) [] (Cw12) [(0, true), (1, true), (2, true), (3, true), (4, true), (5, true), (6, true), (7, true), (8, true), (9, true), (10, true), (11, true), (12, true), (13, true), (14, true), (15, true), (16, true), (17, true), (18, true), (19, true), (20, true), (21, true), (22, true), (23, true), (24, true), (25, true), (26, true), (27, true), (28, true), (29, true), (30, true), (31, true), (32, true), (33, true), (34, true)] Try_mixed (by kernel_rfl) (by kernel_rfl) (by kernel_rfl) ?_
              intro w15 hs
              replace hF := hF.st hs
              replace hT := hT.trans hs (by simp)
              replace ha := ha.st hs (by first | decide | (simp <;> omega))
              replace hb := hb.st hs (by first | decide | (simp <;> omega))
              replace hl := hl.st hs (by first | decide | (simp <;> omega))
              replace h70 := h70.st hs (by first | decide | (simp <;> omega))
              replace hx := hx.st hs (by first | decide | (simp <;> omega))
              have hst1 := hst i hil
              refine yS (by kernel_rfl : opAt F3.o14 0 = some (some 72, .move (.tmp 12), none)) rfl rfl (fun w' hS => val_move rfl) ?_
              refine yS (by kernel_rfl : opAt F3.o14 1 = some (some 73, .binOp .gtr 3 (.tmp 72) (.const (.int .i64 0)) 3, none)) rfl rfl (fun w' hS => val_T (val_gtr rfl rfl) hA) ?_
              refine yS (by kernel_rfl : opAt F3.o14 2 = some (some 74, .move (.tmp 73), none)) rfl rfl (fun w' hS => val_move rfl) ?_
              refine yS (by kernel_rfl : opAt F3.o14 3 = some (some 75, .move (.tmp 8), (some (2, true)))) rfl rfl (fun w' hS => val_move rfl) ?_
              refine yS (by kernel_rfl : opAt F3.o14 4 = some (some 76, .move (.tmp 12), (some (2, true)))) rfl rfl (fun w' hS => val_move rfl) ?_
              refine yS (by kernel_rfl : opAt F3.o14 5 = some (some 77, .binOp .sub 3 (.tmp 76) (.const (.int .i64 1)) 3, (some (2, true)))) rfl rfl (fun w' hS => val_subi rfl rfl (by omega) (by omega)) ?_
              refine iS (e := 37) (by kernel_rfl : opAt F3.o14 6 = some (some 78, .indexAddr 30 (.tmp 75) (.tmp 77), (some (2, true)))) rfl rfl hl rfl (by kernel_rfl) rfl (by omega) (by omega) ?_
              intro b78 o78 h78
              try simp only [Int.toNat_natCast] at h78
              have h79 := RA.ca h78
              refine yS (by kernel_rfl : opAt F3.o14 7 = some (some 79, .fieldAddr 37 (.tmp 78) 0, (some (2, true)))) rfl rfl (fun w' hS => val_fieldAddr (off := 0) (by kernel_rfl) rfl) ?_
              refine lS (by kernel_rfl : opAt F3.o14 8 = some (some 80, .load 3 (.tmp 79), (some (2, true)))) rfl rfl (fun w' hS => h79.stay hS (by decide)) h79 (by kernel_rfl) rfl rfl ?_
              intro v80 g80
              obtain rfl := rv_int.1 g80
              refine yS (by kernel_rfl : opAt F3.o14 9 = some (some 81, .fieldAddr 37 (.tmp 13) 0, (some (2, true)))) rfl rfl (fun w' hS => val_fieldAddr (off := 0) (by kernel_rfl) rfl) ?_
              refine yS (by kernel_rfl : opAt F3.o14 10 = some (some 82, .load 3 (.tmp 81), (some (2, true)))) rfl rfl (fun w' hS => val_loadOwn (hx.stay hS (by decide)) (by kernel_rfl) rfl rfl) ?_
              refine yS (by kernel_rfl : opAt F3.o14 11 = some (some 83, .binOp .gtr 3 (.tmp 80) (.tmp 82) 3, (some (2, true)))) rfl rfl (fun w' hS => val_F (val_gtr rfl rfl) (by simpa [show ((i : Int) - 1).toNat = i - 1 from by omega] using hB)) ?_
              refine yS (by kernel_rfl : opAt F3.o14 12 = some (some 84, .move (.tmp 83), (some (2, true)))) rfl rfl (fun w' hS => val_move rfl) ?_
              refine yS (by kernel_rfl : opAt F3.o14 13 = some (some 85, .move (.tmp 8), (some (12, false)))) rfl rfl (fun w' hS => val_move rfl) ?_
              refine yS (by kernel_rfl : opAt F3.o14 14 = some (some 86, .move (.tmp 12), (some (12, false)))) rfl rfl (fun w' hS => val_move rfl) ?_
              refine yS (by kernel_rfl : opAt F3.o14 15 = some (some 87, .binOp .sub 3 (.tmp 86) (.const (.int .i64 1)) 3, (some (12, false)))) rfl rfl (fun w' hS => val_subi rfl rfl (by omega) (by omega)) ?_
              refine iS (e := 37) (by kernel_rfl : opAt F3.o14 16 = some (some 88, .indexAddr 30 (.tmp 85) (.tmp 87), (some (12, false)))) rfl rfl hl rfl (by kernel_rfl) rfl (by omega) (by omega) ?_
              intro b88 o88 h88
              try simp only [Int.toNat_natCast] at h88
              have h89 := RA.ca h88
              refine yS (by kernel_rfl : opAt F3.o14 17 = some (some 89, .fieldAddr 37 (.tmp 88) 0, (some (12, false)))) rfl rfl (fun w' hS => val_fieldAddr (off := 0) (by kernel_rfl) rfl) ?_
              refine lS (by kernel_rfl : opAt F3.o14 18 = some (some 90, .load 3 (.tmp 89), (some (12, false)))) rfl rfl (fun w' hS => h89.stay hS (by decide)) h89 (by kernel_rfl) rfl rfl ?_
              intro v90 g90
              obtain rfl := rv_int.1 g90
              refine yS (by kernel_rfl : opAt F3.o14 19 = some (some 91, .fieldAddr 37 (.tmp 13) 0, (some (12, false)))) rfl rfl (fun w' hS => val_fieldAddr (off := 0) (by kernel_rfl) rfl) ?_
              refine yS (by kernel_rfl : opAt F3.o14 20 = some (some 92, .load 3 (.tmp 91), (some (12, false)))) rfl rfl (fun w' hS => val_loadOwn (hx.stay hS (by decide)) (by kernel_rfl) rfl rfl) ?_
              refine yS (by kernel_rfl : opAt F3.o14 21 = some (some 93, .binOp .eql 3 (.tmp 90) (.tmp 92) 3, (some (12, false)))) rfl rfl (fun w' hS => val_T (val_eql rfl rfl) (by simpa [show ((i : Int) - 1).toNat = i - 1 from by omega] using hC)) ?_
              refine yS (by kernel_rfl : opAt F3.o14 22 = some (some 94, .move (.tmp 93), (some (12, false)))) rfl rfl (fun w' hS => val_move rfl) ?_
              refine yS (by kernel_rfl : opAt F3.o14 23 = some (some 95, .move (.tmp 8), (some (22, true)))) rfl rfl (fun w' hS => val_move rfl) ?_
              refine yS (by kernel_rfl : opAt F3.o14 24 = some (some 96, .move (.tmp 12), (some (22, true)))) rfl rfl (fun w' hS => val_move rfl) ?_
              refine yS (by kernel_rfl : opAt F3.o14 25 = some (some 97, .binOp .sub 3 (.tmp 96) (.const (.int .i64 1)) 3, (some (22, true)))) rfl rfl (fun w' hS => val_subi rfl rfl (by omega) (by omega)) ?_
              refine iS (e := 37) (by kernel_rfl : opAt F3.o14 26 = some (some 98, .indexAddr 30 (.tmp 95) (.tmp 97), (some (22, true)))) rfl rfl hl rfl (by kernel_rfl) rfl (by omega) (by omega) ?_
              intro b98 o98 h98
              try simp only [Int.toNat_natCast] at h98
              have h99 := RA.cb h98
              refine yS (by kernel_rfl : opAt F3.o14 27 = some (some 99, .fieldAddr 37 (.tmp 98) 1, (some (22, true)))) rfl rfl (fun w' hS => val_fieldAddr (off := 1) (by kernel_rfl) rfl) ?_
              refine lS (by kernel_rfl : opAt F3.o14 28 = some (some 100, .load 3 (.tmp 99), (some (22, true)))) rfl rfl (fun w' hS => h99.stay hS (by decide)) h99 (by kernel_rfl) rfl rfl ?_
              intro v100 g100
              obtain rfl := rv_int.1 g100
              refine yS (by kernel_rfl : opAt F3.o14 29 = some (some 101, .fieldAddr 37 (.tmp 13) 1, (some (22, true)))) rfl rfl (fun w' hS => val_fieldAddr (off := 1) (by kernel_rfl) rfl) ?_
              refine yS (by kernel_rfl : opAt F3.o14 30 = some (some 102, .load 3 (.tmp 101), (some (22, true)))) rfl rfl (fun w' hS => val_loadOwn (hx.stay hS (by decide)) (by kernel_rfl) rfl rfl) ?_
              refine yS (by kernel_rfl : opAt F3.o14 31 = some (some 103, .binOp .geq 3 (.tmp 100) (.tmp 102) 3, (some (22, true)))) rfl rfl (fun w' hS => val_geq rfl rfl) ?_
              refine yS (by kernel_rfl : opAt F3.o14 32 = some (some 104, .pick (.tmp 94) (.tmp 103) (.const (.bool false)), (some (12, false)))) rfl rfl (fun w' hS => val_pick_t rfl rfl) ?_
              refine yS (by kernel_rfl : opAt F3.o14 33 = some (some 105, .pick (.tmp 84) (.const (.bool true)) (.tmp 104), (some (2, true)))) rfl rfl (fun w' hS => val_pick_f rfl rfl) ?_
              refine yS (by kernel_rfl : opAt F3.o14 34 = some (some 106, .pick (.tmp 74) (.tmp 105) (.const (.bool false)), none)) rfl rfl (fun w' hS => val_pick_t rfl rfl) ?_
              exact Sch.nil (hcut _ _ _ hs rfl (by rw [decide_eq_false]; simp only [show ((i : Int) - 1).toNat = i - 1 from by omega]; exact fun h => hst1 (by omega) (Or.inr ⟨hC, h⟩)) (sub_skip rfl (sub_skip rfl (sub_skip rfl (sub_skip rfl (sub_skip rfl (sub_skip rfl (sub_skip rfl (sub_skip rfl (sub_skip rfl (sub_skip rfl (sub_skip rfl (sub_skip rfl (sub_skip rfl (sub_skip rfl (sub_skip rfl (sub_skip rfl (sub_skip rfl (sub_skip rfl (sub_skip rfl (sub_skip rfl (sub_skip rfl (sub_skip rfl (sub_skip rfl (sub_skip rfl (sub_skip rfl (sub_skip rfl (sub_skip rfl (sub_skip rfl (sub_skip rfl (sub_skip rfl (sub_skip rfl (sub_skip rfl (sub_skip rfl (sub_skip rfl (sub_skip rfl (Sub.refl _)))))))))))))))))))))))))))))))))))))
            · skip
              refine run_draw (id := 14) (ops := F3.o14) [] (Cw12) [(0, true), (1, true), (2, true), (3, true), (4, true), (5, true), (6, true), (7, true), (8, true), (9, true), (10, true), (11, true), (12, true), (13, true), (14, true), (15, true), (16, true), (17, true), (18, true), (19, true), (20, true), (21, true), (22, true), (23, true), (24, true), (25, true), (26, true), (27, true), (28, true), (29, true), (30, true), (31, true), (32, true), (33, true), (34, true)] Try_mixed (by kernel_rfl) (by kernel_rfl) (by kernel_rfl) ?_
              intro w16 hs
              replace hF := hF.st hs
              replace hT := hT.trans hs (by simp)
              replace ha := ha.st hs (by first | decide | (simp <;> omega))
              replace hb := hb.st hs (by first | decide | (simp <;> omega))
              replace hl := hl.st hs (by first | decide | (simp <;> omega))
              replace h70 := h70.st hs (by first | decide | (simp <;> omega))
              replace hx := hx.st hs (by first | decide | (simp <;> omega))
              have hst1 := hst i hil
              refine yS (by kernel_rfl : opAt F3.o14 0 = some (some 72, .move (.tmp 12), none)) rfl rfl (fun w' hS => val_move rfl) ?_
              refine yS (by kernel_rfl : opAt F3.o14 1 = some (some 73, .binOp .gtr 3 (.tmp 72) (.const (.int .i64 0)) 3, none)) rfl rfl (fun w' hS => val_T (val_gtr rfl rfl) hA) ?_
              refine yS (by kernel_rfl : opAt F3.o14 2 = some (some 74, .move (.tmp 73), none)) rfl rfl (fun w' hS => val_move rfl) ?_
              refine yS (by kernel_rfl : opAt F3.o14 3 = some (some 75, .move (.tmp 8), (some (2, true)))) rfl rfl (fun w' hS => val_move rfl) ?_
              refine yS (by kernel_rfl : opAt F3.o14 4 = some (some 76, .move (.tmp 12), (some (2, true)))) rfl rfl (fun w' hS => val_move rfl) ?_
              refine yS (by kernel_rfl : opAt F3.o14 5 = some (some 77, .binOp .sub 3 (.tmp 76) (.const (.int .i64 1)) 3, (some (2, true)))) rfl rfl (fun w' hS => val_subi rfl rfl (by omega) (by omega)) ?_
              refine iS (e := 37) (by kernel_rfl : opAt F3.o14 6 = some (some 78, .indexAddr 30 (.tmp 75) (.tmp 77), (some (2, true)))) rfl rfl hl rfl (by kernel_rfl) rfl (by omega) (by omega) ?_
              intro b78 o78 h78
              try simp only [Int.toNat_natCast] at h78
              have h79 := RA.ca h78
              refine yS (by kernel_rfl : opAt F3.o14 7 = some (some 79, .fieldAddr 37 (.tmp 78) 0, (some (2, true)))) rfl rfl (fun w' hS => val_fieldAddr (off := 0) (by kernel_rfl) rfl) ?_
              refine lS (by kernel_rfl : opAt F3.o14 8 = some (some 80, .load 3 (.tmp 79), (some (2, true)))) rfl rfl (fun w' hS => h79.stay hS (by decide)) h79 (by kernel_rfl) rfl rfl ?_
              intro v80 g80
              obtain rfl := rv_int.1 g80
              refine yS (by kernel_rfl : opAt F3.o14 9 = some (some 81, .fieldAddr 37 (.tmp 13) 0, (some (2, true)))) rfl rfl (fun w' hS => val_fieldAddr (off := 0) (by kernel_rfl) rfl) ?_
              refine yS (by kernel_rfl : opAt F3.o14 10 = some (some 82, .load 3 (.tmp 81), (some (2, true)))) rfl rfl (fun w' hS => val_loadOwn (hx.stay hS (by decide)) (by kernel_rfl) rfl rfl) ?_
              refine yS (by kernel_rfl : opAt F3.o14 11 = some (some 83, .binOp .gtr 3 (.tmp 80) (.tmp 82) 3, (some (2, true)))) rfl rfl (fun w' hS => val_F (val_gtr rfl rfl) (by simpa [show ((i : Int) - 1).toNat = i - 1 from by omega] using hB)) ?_
              refine yS (by kernel_rfl : opAt F3.o14 12 = some (some 84, .move (.tmp 83), (some (2, true)))) rfl rfl (fun w' hS => val_move rfl) ?_
              refine yS (by kernel_rfl : opAt F3.o14 13 = some (some 85, .move (.tmp 8), (some (12, false)))) rfl rfl (fun w' hS => val_move rfl) ?_
              refine yS (by kernel_rfl : opAt F3.o14 14 = some (some 86, .move (.tmp 12), (some (12, false)))) rfl rfl (fun w' hS => val_move rfl) ?_
              refine yS (by kernel_rfl : opAt F3.o14 15 = some (some 87, .binOp .sub 3 (.tmp 86) (.const (.int .i64 1)) 3, (some (12, false)))) rfl rfl (fun w' hS => val_subi rfl rfl (by omega) (by omega)) ?_
              refine iS (e := 37) (by kernel_rfl : opAt F3.o14 16 = some (some 88, .indexAddr 30 (.tmp 85) (.tmp 87), (some (12, false)))) rfl rfl hl rfl (by kernel_rfl) rfl (by omega) (by omega) ?_
              intro b88 o88 h88
              try simp only [Int.toNat_natCast] at h88
              have h89 := RA.ca h88
              refine yS (by kernel_rfl : opAt F3.o14 17 = some (some 89, .fieldAddr 37 (.tmp 88) 0, (some (12, false)))) rfl rfl (fun w' hS => val_fieldAddr (off := 0) (by kernel_rfl) rfl) ?_
              refine lS (by kernel_rfl : opAt F3.o14 18 = some (some 90, .load 3 (.tmp 89), (some (12, false)))) rfl rfl (fun w' hS => h89.stay hS (by decide)) h89 (by kernel_rfl) rfl rfl ?_
              intro v90 g90
              obtain rfl := rv_int.1 g90
              refine yS (by kernel_rfl : opAt F3.o14 19 = some (some 91, .fieldAddr 37 (.tmp 13) 0, (some (12, false)))) rfl rfl (fun w' hS => val_fieldAddr (off := 0) (by kernel_rfl) rfl) ?_
              refine yS (by kernel_rfl : opAt F3.o14 20 = some (some 92, .load 3 (.tmp 91), (some (12, false)))) rfl rfl (fun w' hS => val_loadOwn (hx.stay hS (by decide)) (by kernel_rfl) rfl rfl) ?_
              refine yS (by kernel_rfl : opAt F3.o14 21 = some (some 93, .binOp .eql 3 (.tmp 90) (.tmp 92) 3, (some (12, false)))) rfl rfl (fun w' hS => val_F (val_eql rfl rfl) (by simpa [show ((i : Int) - 1).toNat = i - 1 from by omega] using hC)) ?_
              refine yS (by kernel_rfl : opAt F3.o14 22 = some (some 94, .move (.tmp 93), (some (12, false)))) rfl rfl (fun w' hS => val_move rfl) ?_
              refine pS (by kernel_rfl : opAt F3.o14 23 = some (some 95, .move (.tmp 8), (some (22, true)))) rfl rfl ?_
              refine pS (by kernel_rfl : opAt F3.o14 24 = some (some 96, .move (.tmp 12), (some (22, true)))) rfl rfl ?_
              refine pS (by kernel_rfl : opAt F3.o14 25 = some (some 97, .binOp .sub 3 (.tmp 96) (.const (.int .i64 1)) 3, (some (22, true)))) rfl rfl ?_
              refine pS (by kernel_rfl : opAt F3.o14 26 = some (some 98, .indexAddr 30 (.tmp 95) (.tmp 97), (some (22, true)))) rfl rfl ?_
              refine pS (by kernel_rfl : opAt F3.o14 27 = some (some 99, .fieldAddr 37 (.tmp 98) 1, (some (22, true)))) rfl rfl ?_
              refine pS (by kernel_rfl : opAt F3.o14 28 = some (some 100, .load 3 (.tmp 99), (some (22, true)))) rfl rfl ?_
              refine pS (by kernel_rfl : opAt F3.o14 29 = some (some 101, .fieldAddr 37 (.tmp 13) 1, (some (22, true)))) rfl rfl ?_
              refine pS (by kernel_rfl : opAt F3.o14 30 = some (some 102, .load 3 (.tmp 101), (some (22, true)))) rfl rfl ?_
              refine pS (by kernel_rfl : opAt F3.o14 31 = some (some 103, .binOp .geq 3 (.tmp 100) (.tmp 102) 3, (some (22, true)))) rfl rfl ?_
              refine yS (by kernel_rfl : opAt F3.o14 32 = some (some 104, .pick (.tmp 94) (.tmp 103) (.const (.bool false)), (some (12, false)))) rfl rfl (fun w' hS => val_pick_f rfl rfl) ?_
              refine yS (by kernel_rfl : opAt F3.o14 33 = some (some 105, .pick (.tmp 84) (.const (.bool true)) (.tmp 104), (some (2, true)))) rfl rfl (fun w' hS => val_pick_f rfl rfl) ?_
              refine yS (by kernel_rfl : opAt F3.o14 34 = some (some 106, .pick (.tmp 74) (.tmp 105) (.const (.bool false)), none)) rfl rfl (fun w' hS => val_pick_t rfl rfl) ?_
              exact Sch.nil (hcut _ _ _ hs rfl (rfl) (sub_skip rfl (sub_skip rfl (sub_skip rfl (sub_skip rfl (sub_skip rfl (sub_skip rfl (sub_skip rfl (sub_skip rfl (sub_skip rfl (sub_skip rfl (sub_skip rfl (sub_skip rfl (sub_skip rfl (sub_skip rfl (sub_skip rfl (sub_skip rfl (sub_skip rfl (sub_skip rfl (sub_skip rfl (sub_skip rfl (sub_skip rfl (sub_skip rfl (sub_skip rfl (sub_skip rfl (sub_skip rfl (sub_skip rfl (sub_skip rfl (sub_skip rfl (sub_skip rfl (sub_skip rfl (sub_skip rfl (sub_skip rfl (sub_skip rfl (sub_skip rfl (sub_skip rfl (Sub.refl _)))))))))))))))))))))))))))))))))))))
        · skip
          refine run_draw (id := 14) (ops := F3.o14) [] (Cw12) [(0, true), (1, true), (2, true), (3, true), (4, true), (5, true), (6, true), (7, true), (8, true), (9, true), (10, true), (11, true), (12, true), (13, true), (14, true), (15, true), (16, true), (17, true), (18, true), (19, true), (20, true), (21, true), (22, true), (23, true), (24, true), (25, true), (26, true), (27, true), (28, true), (29, true), (30, true), (31, true), (32, true), (33, true), (34, true)] Try_mixed (by kernel_rfl) (by kernel_rfl) (by kernel_rfl) ?_
          intro w17 hs
          replace hF := hF.st hs
          replace hT := hT.trans hs (by simp)
          replace ha := ha.st hs (by first | decide | (simp <;> omega))
          replace hb := hb.st hs (by first | decide | (simp <;> omega))
          replace hl := hl.st hs (by first | decide | (simp <;> omega))
          replace h70 := h70.st hs (by first | decide | (simp <;> omega))
          replace hx := hx.st hs (by first | decide | (simp <;> omega))
          have hst1 := hst i hil
          refine yS (by kernel_rfl : opAt F3.o14 0 = some (some 72, .move (.tmp 12), none)) rfl rfl (fun w' hS => val_move rfl) ?_
          refine yS (by kernel_rfl : opAt F3.o14 1 = some (some 73, .binOp .gtr 3 (.tmp 72) (.const (.int .i64 0)) 3, none)) rfl rfl (fun w' hS => val_F (val_gtr rfl rfl) hA) ?_
          refine yS (by kernel_rfl : opAt F3.o14 2 = some (some 74, .move (.tmp 73), none)) rfl rfl (fun w' hS => val_move rfl) ?_
          refine pS (by kernel_rfl : opAt F3.o14 3 = some (some 75, .move (.tmp 8), (some (2, true)))) rfl rfl ?_
          refine pS (by kernel_rfl : opAt F3.o14 4 = some (some 76, .move (.tmp 12), (some (2, true)))) rfl rfl ?_
          refine pS (by kernel_rfl : opAt F3.o14 5 = some (some 77, .binOp .sub 3 (.tmp 76) (.const (.int .i64 1)) 3, (some (2, true)))) rfl rfl ?_
          refine pS (by kernel_rfl : opAt F3.o14 6 = some (some 78, .indexAddr 30 (.tmp 75) (.tmp 77), (some (2, true)))) rfl rfl ?_
          refine pS (by kernel_rfl : opAt F3.o14 7 = some (some 79, .fieldAddr 37 (.tmp 78) 0, (some (2, true)))) rfl rfl ?_
          refine pS (by kernel_rfl : opAt F3.o14 8 = some (some 80, .load 3 (.tmp 79), (some (2, true)))) rfl rfl ?_
          refine pS (by kernel_rfl : opAt F3.o14 9 = some (some 81, .fieldAddr 37 (.tmp 13) 0, (some (2, true)))) rfl rfl ?_
          refine pS (by kernel_rfl : opAt F3.o14 10 = some (some 82, .load 3 (.tmp 81), (some (2, true)))) rfl rfl ?_
          refine pS (by kernel_rfl : opAt F3.o14 11 = some (some 83, .binOp .gtr 3 (.tmp 80) (.tmp 82) 3, (some (2, true)))) rfl rfl ?_
          refine pS (by kernel_rfl : opAt F3.o14 12 = some (some 84, .move (.tmp 83), (some (2, true)))) rfl rfl ?_
          refine pS (by kernel_rfl : opAt F3.o14 13 = some (some 85, .move (.tmp 8), (some (12, false)))) rfl rfl ?_
          refine pS (by kernel_rfl : opAt F3.o14 14 = some (some 86, .move (.tmp 12), (some (12, false)))) rfl rfl ?_
          refine pS (by kernel_rfl : opAt F3.o14 15 = some (some 87, .binOp .sub 3 (.tmp 86) (.const (.int .i64 1)) 3, (some (12, false)))) rfl rfl ?_
          refine pS (by kernel_rfl : opAt F3.o14 16 = some (some 88, .indexAddr 30 (.tmp 85) (.tmp 87), (some (12, false)))) rfl rfl ?_
          refine pS (by kernel_rfl : opAt F3.o14 17 = some (some 89, .fieldAddr 37 (.tmp 88) 0, (some (12, false)))) rfl rfl ?_
          refine pS (by kernel_rfl : opAt F3.o14 18 = some (some 90, .load 3 (.tmp 89), (some (12, false)))) rfl rfl ?_
          refine pS (by kernel_rfl : opAt F3.o14 19 = some (some 91, .fieldAddr 37 (.tmp 13) 0, (some (12, false)))) rfl rfl ?_
          refine pS (by kernel_rfl : opAt F3.o14 20 = some (some 92, .load 3 (.tmp 91), (some (12, false)))) rfl rfl ?_
          refine pS (by kernel_rfl : opAt F3.o14 21 = some (some 93, .binOp .eql 3 (.tmp 90) (.tmp 92) 3, (some (12, false)))) rfl rfl ?_
          refine pS (by kernel_rfl : opAt F3.o14 22 = some (some 94, .move (.tmp 93), (some (12, false)))) rfl rfl ?_
          refine pS (by kernel_rfl : opAt F3.o14 23 = some (some 95, .move (.tmp 8), (some (22, true)))) rfl rfl ?_
          refine pS (by kernel_rfl : opAt F3.o14 24 = some (some 96, .move (.tmp 12), (some (22, true)))) rfl rfl ?_
          refine pS (by kernel_rfl : opAt F3.o14 25 = some (some 97, .binOp .sub 3 (.tmp 96) (.const (.int .i64 1)) 3, (some (22, true)))) rfl rfl ?_
          refine pS (by kernel_rfl : opAt F3.o14 26 = some (some 98, .indexAddr 30 (.tmp 95) (.tmp 97), (some (22, true)))) rfl rfl ?_
          refine pS (by kernel_rfl : opAt F3.o14 27 = some (some 99, .fieldAddr 37 (.tmp 98) 1, (some (22, true)))) rfl rfl ?_
          refine pS (by kernel_rfl : opAt F3.o14 28 = some (some 100, .load 3 (.tmp 99), (some (22, true)))) rfl rfl ?_
          refine pS (by kernel_rfl : opAt F3.o14 29 = some (some 101, .fieldAddr 37 (.tmp 13) 1, (some (22, true)))) rfl rfl ?_
          refine pS (by kernel_rfl : opAt F3.o14 30 = some (some 102, .load 3 (.tmp 101), (some (22, true)))) rfl rfl ?_
          refine pS (by kernel_rfl : opAt F3.o14 31 = some (some 103, .binOp .geq 3 (.tmp 100) (.tmp 102) 3, (some (22, true)))) rfl rfl ?_
          refine pS (by kernel_rfl : opAt F3.o14 32 = some (some 104, .pick (.tmp 94) (.tmp 103) (.const (.bool false)), (some (12, false)))) rfl rfl ?_
          refine pS (by kernel_rfl : opAt F3.o14 33 = some (some 105, .pick (.tmp 84) (.const (.bool true)) (.tmp 104), (some (2, true)))) rfl rfl ?_
          refine yS (by kernel_rfl : opAt F3.o14 34 = some (some 106, .pick (.tmp 74) (.tmp 105) (.const (.bool false)), none)) rfl rfl (fun w' hS => val_pick_f rfl rfl) ?_
          exact Sch.nil (hcut _ _ _ hs rfl (rfl) (sub_skip rfl (sub_skip rfl (sub_skip rfl (sub_skip rfl (sub_skip rfl (sub_skip rfl (sub_skip rfl (sub_skip rfl (sub_skip rfl (sub_skip rfl (sub_skip rfl (sub_skip rfl (sub_skip rfl (sub_skip rfl (sub_skip rfl (sub_skip rfl (sub_skip rfl (sub_skip rfl (sub_skip rfl (sub_skip rfl (sub_skip rfl (sub_skip rfl (sub_skip rfl (sub_skip rfl (sub_skip rfl (sub_skip rfl (sub_skip rfl (sub_skip rfl (sub_skip rfl (sub_skip rfl (sub_skip rfl (sub_skip rfl (sub_skip rfl (sub_skip rfl (sub_skip rfl (Sub.refl _)))))))))))))))))))))))))))))))))))))
      intro w18 hs
      replace hF := hF.st hs
      replace hT := hT.trans hs (by simp)
      replace ha := ha.st hs (by first | decide | (simp <;> omega))
      replace hb := hb.st hs (by first | decide | (simp <;> omega))
      replace hl := hl.st hs (by first | decide | (simp <;> omega))
      replace h70 := h70.st hs (by first | decide | (simp <;> omega))
      replace hx := hx.st hs (by first | decide | (simp <;> omega))
      refine run_cond (x := F3.c49) (y := F3.c52) (o := .tmp 106) (b := false) (by kernel_rfl) rfl (fun h => by cases h) (fun _ => ?_)
      refine run_skip (by kernel_rfl) ?_
      refine run_seq (x := F3.c54) (y := F3.c55) (by kernel_rfl) ?_
      refine run_plain (id := 16) (ops := F3.o16) [(0, true)] (by kernel_rfl) (by kernel_rfl) ?_
      refine yS (by kernel_rfl : opAt F3.o16 0 = some (some 14, .assign (.const (.bool false)), none)) rfl rfl (fun w' hS => val_assign rfl) ?_
      refine Sch.nil ?_
      refine run_seq (x := F3.c56) (y := F3.c70) (by kernel_rfl) ?_
      refine run_seq (x := F3.c57) (y := F3.c58) (by kernel_rfl) ?_
      refine run_plain (id := 17) (ops := F3.o17) [(0, true)] (by kernel_rfl) (by kernel_rfl) ?_
      refine yS (by kernel_rfl : opAt F3.o17 0 = some (some 15, .assign (.const (.int .i64 0)), none)) rfl rfl (fun w' hS => val_assign rfl) ?_
      refine Sch.nil ?_
      refine run_block (x := F3.c59) (id := 2) (by kernel_rfl) ?_
      have next0x := next
      clear next
      refine run_loop (ι := Nat × (Nat → Nat)) (I := fun x w => x.1 ≤ n1 + 1 ∧ Lim w x.2 ∧ Stp [2, 3, 4, 5, 6, 7, 8, 9] w₀ (col1 C) w x.2 ∧ RV w (Mc x.2) a vw6 ∧ RV w (Mc x.2) b vw7 ∧ RV w (Mc x.2) L ul ∧ OwnB w x.2 4 bw12 (.cells [.int .i64 (L[i]'hil).a, .int .i64 (L[i]'hil).b].toArray 37)) (e := fun x => [(4, .int .i64 (n1 + 1 : Nat)), (5, vw6), (6, vw7), (7, .int .i64 (mk : Int)), (8, ul), (13, .pointer (some ⟨bw12, 0, none⟩)), (14, (.bool (foundS a b mk (L[i]'hil) x.1))), (15, .int .i64 x.1), (65, ul), (66, .int .i64 L.length), (67, .int .i64 i)]) (m := fun x => n1 + 1 - x.1) (x₀ := (0, Cw12)) (body := F3.c60) (by kernel_rfl) (sub_cons 4 rfl rfl (sub_cons 5 rfl rfl (sub_cons 6 rfl rfl (sub_cons 7 rfl rfl (sub_cons 8 rfl rfl (sub_cons 13 rfl rfl (sub_cons 14 rfl rfl (sub_cons 15 rfl rfl (sub_cons 65 rfl rfl (sub_cons 66 rfl rfl (sub_cons 67 rfl rfl (sub_nil _)))))))))))) ?_ ?_
      · exact ⟨Nat.zero_le _, hF, hT, ha, hb, hl, hx⟩
      intro ⟨k, C2⟩ w19 hI next
      obtain ⟨hk, hF, hT, ha, hb, hl, hx⟩ := hI
      simp only at hk hF hT ha hb hl hx
      show Run _ _ _ _ [(4, .int .i64 (n1 + 1 : Nat)), (5, vw6), (6, vw7), (7, .int .i64 (mk : Int)), (8, ul), (13, .pointer (some ⟨bw12, 0, none⟩)), (14, (.bool (foundS a b mk (L[i]'hil) k))), (15, .int .i64 (k : Int)), (65, ul), (66, .int .i64 L.length), (67, .int .i64 i)] _ _
      have hlea := ha.le
      have hleb := hb.le
      refine run_seq (x := F3.c61) (y := F3.c66) (by kernel_rfl) ?_
      refine run_seq (x := F3.c62) (y := F3.c63) (by kernel_rfl) ?_
      refine run_plain (id := 18) (ops := F3.o18) [(0, true), (1, true), (2, true)] (by kernel_rfl) (by kernel_rfl) ?_
      refine yS (by kernel_rfl : opAt F3.o18 0 = some (some 107, .move (.tmp 15), none)) rfl rfl (fun w' hS => val_move rfl) ?_
      refine yS (by kernel_rfl : opAt F3.o18 1 = some (some 108, .move (.tmp 4), none)) rfl rfl (fun w' hS => val_move rfl) ?_
      refine yS (by kernel_rfl : opAt F3.o18 2 = some (some 109, .binOp .lss 3 (.tmp 107) (.tmp 108) 3, none)) rfl rfl (fun w' hS => val_lss rfl rfl) ?_
      refine Sch.nil ?_
      refine run_if (x := F3.c64) (y := F3.c65) (o := .tmp 109) (by kernel_rfl) rfl (fun h109 => ?_) (fun h109 => ?_)
      · skip
        have hkn : k < n1 + 1 := by omega
        have hka : k < a.length := by omega
        have hkb : k < b.length := by omega
        refine run_skip (by kernel_rfl) ?_
        refine run_seq (x := F3.c67) (y := F3.c69) (by kernel_rfl) ?_
        refine run_block (x := F3.c68) (id := 3) (by kernel_rfl) ?_
        rcases Bool.eq_false_or_eq_true (foundS a b mk (L[i]'hil) k) with hf | hf
        · skip
          rw [hf]
          refine run_draw (id := 20) (ops := F3.o20) [] (C2) [(0, true), (1, true), (2, true), (3, true), (4, true), (5, true), (6, true), (7, true), (8, true), (9, true), (10, true), (11, true), (12, true), (13, true), (14, true), (15, true), (16, true), (17, false), (18, true), (19, true), (20, true)] Try_mixed (by kernel_rfl) (by kernel_rfl) (by kernel_rfl) ?_
          intro w20 hs
          replace hF := hF.st hs
          replace hT := hT.trans hs (by simp)
          replace ha := ha.st hs (by first | decide | (simp <;> omega))
          replace hb := hb.st hs (by first | decide | (simp <;> omega))
          replace hl := hl.st hs (by first | decide | (simp <;> omega))
          replace hx := hx.st hs (by first | decide | (simp <;> omega))
          have hR := Stp.refl [] w20 (C2)
          refine yS (by kernel_rfl : opAt F3.o20 0 = some (some 112, .move (.tmp 14), none)) rfl rfl (fun w' hS => val_move rfl) ?_
          refine yS (by kernel_rfl : opAt F3.o20 1 = some (some 113, .move (.tmp 112), none)) rfl rfl (fun w' hS => val_move rfl) ?_
          refine pS (by kernel_rfl : opAt F3.o20 2 = some (some 114, .move (.tmp 7), (some (1, false)))) rfl rfl ?_
          refine pS (by kernel_rfl : opAt F3.o20 3 = some (some 115, .move (.tmp 15), (some (1, false)))) rfl rfl ?_
          refine pS (by kernel_rfl : opAt F3.o20 4 = some (some 116, .binOp .shr 3 (.tmp 114) (.tmp 115) 3, (some (1, false)))) rfl rfl ?_
          refine pS (by kernel_rfl : opAt F3.o20 5 = some (some 117, .binOp .and 3 (.tmp 116) (.const (.int .i64 1)) 3, (some (1, false)))) rfl rfl ?_
          refine pS (by kernel_rfl : opAt F3.o20 6 = some (some 118, .binOp .eql 3 (.tmp 117) (.const (.int .i64 1)) 3, (some (1, false)))) rfl rfl ?_
          refine pS (by kernel_rfl : opAt F3.o20 7 = some (some 119, .move (.tmp 118), (some (1, false)))) rfl rfl ?_
          refine pS (by kernel_rfl : opAt F3.o20 8 = some (some 120, .move (.tmp 5), (some (7, true)))) rfl rfl ?_
          refine pS (by kernel_rfl : opAt F3.o20 9 = some (some 121, .move (.tmp 15), (some (7, true)))) rfl rfl ?_
          refine pS (by kernel_rfl : opAt F3.o20 10 = some (some 122, .indexAddr 28 (.tmp 120) (.tmp 121), (some (7, true)))) rfl rfl ?_
          refine pS (by kernel_rfl : opAt F3.o20 11 = some (some 123, .load 39 (.tmp 122), (some (7, true)))) rfl rfl ?_
          refine pS (by kernel_rfl : opAt F3.o20 12 = some (some 124, .move (.tmp 6), (some (7, true)))) rfl rfl ?_
          refine pS (by kernel_rfl : opAt F3.o20 13 = some (some 125, .move (.tmp 15), (some (7, true)))) rfl rfl ?_
          refine pS (by kernel_rfl : opAt F3.o20 14 = some (some 126, .indexAddr 28 (.tmp 124) (.tmp 125), (some (7, true)))) rfl rfl ?_
          refine pS (by kernel_rfl : opAt F3.o20 15 = some (some 127, .load 39 (.tmp 126), (some (7, true)))) rfl rfl ?_
          refine pS (by kernel_rfl : opAt F3.o20 16 = some (some 128, .load 37 (.tmp 13), (some (7, true)))) rfl rfl ?_
          refine pW (by kernel_rfl : opAt F3.o20 17 = some (some 129, .call { callee := .value (.func 15), args := #[(.tmp 123), (.tmp 127), (.tmp 128)], argTypes := #[39, 39, 37] }, (some (7, true)))) rfl rfl hR.ext ?_
          refine pS (by kernel_rfl : opAt F3.o20 18 = some (some 130, .pick (.tmp 119) (.tmp 129) (.const (.bool false)), (some (1, false)))) rfl rfl ?_
          refine yS (by kernel_rfl : opAt F3.o20 19 = some (some 131, .pick (.tmp 113) (.const (.bool true)) (.tmp 130), none)) rfl rfl (fun w' hS => val_pick_t rfl rfl) ?_
          refine yS (by kernel_rfl : opAt F3.o20 20 = some (some 14, .assign (.tmp 131), none)) rfl rfl (fun w' hS => val_assign rfl) ?_
          refine Sch.nil ?_
          refine run_inBlock ?_
          refine run_plain (id := 19) (ops := F3.o19) [(0, true), (1, true), (2, true)] (by kernel_rfl) (by kernel_rfl) ?_
          refine yS (by kernel_rfl : opAt F3.o19 0 = some (some 110, .move (.tmp 15), none)) rfl rfl (fun w' hS => val_move rfl) ?_
          refine yS (by kernel_rfl : opAt F3.o19 1 = some (some 111, .binOp .add 3 (.tmp 110) (.const (.int .i64 1)) 3, none)) rfl rfl (fun w' hS => val_addi rfl rfl (by omega) (by omega)) ?_
          refine yS (by kernel_rfl : opAt F3.o19 2 = some (some 15, .assign (.tmp 111), none)) rfl rfl (fun w' hS => val_assign rfl) ?_
          refine Sch.nil ?_
          refine kp (sub_cons 4 rfl rfl (sub_cons 5 rfl rfl (sub_cons 6 rfl rfl (sub_cons 7 rfl rfl (sub_cons 8 rfl rfl (sub_cons 13 rfl rfl (sub_cons 14 rfl (eq_bool (by simp only; rw [foundS, hf]; rfl)) (sub_cons 15 rfl (eq_int (by simp)) (sub_cons 65 rfl rfl (sub_cons 66 rfl rfl (sub_cons 67 rfl rfl (sub_nil _)))))))))))) (next (k + 1, C2) _ ⟨by simp only; omega, hF, hT, ha, hb, hl, hx⟩ (by simp only; omega))
        · skip
          rw [hf]
          by_cases hB : ((mk / 2 ^ k &&& 1 : Nat) : Int) = 1
          · skip
            refine run_draw (id := 20) (ops := F3.o20) [] (C2) [(0, true), (1, true), (2, true), (3, true), (4, true), (5, true), (6, true), (7, true), (8, true), (9, true), (10, true), (11, true), (12, true), (13, true), (14, true), (15, true), (16, true), (17, false), (18, true), (19, true), (20, true)] Try_mixed (by kernel_rfl) (by kernel_rfl) (by kernel_rfl) ?_
            intro w21 hs
            replace hF := hF.st hs
            replace hT := hT.trans hs (by simp)
            replace ha := ha.st hs (by first | decide | (simp <;> omega))
            replace hb := hb.st hs (by first | decide | (simp <;> omega))
            replace hl := hl.st hs (by first | decide | (simp <;> omega))
            replace hx := hx.st hs (by first | decide | (simp <;> omega))
            have hR := Stp.refl [] w21 (C2)
            refine yS (by kernel_rfl : opAt F3.o20 0 = some (some 112, .move (.tmp 14), none)) rfl rfl (fun w' hS => val_move rfl) ?_
            refine yS (by kernel_rfl : opAt F3.o20 1 = some (some 113, .move (.tmp 112), none)) rfl rfl (fun w' hS => val_move rfl) ?_
            refine yS (by kernel_rfl : opAt F3.o20 2 = some (some 114, .move (.tmp 7), (some (1, false)))) rfl rfl (fun w' hS => val_move rfl) ?_
            refine yS (by kernel_rfl : opAt F3.o20 3 = some (some 115, .move (.tmp 15), (some (1, false)))) rfl rfl (fun w' hS => val_move rfl) ?_
            have hmk62 : k ≤ 62 := by omega
            refine yS (by kernel_rfl : opAt F3.o20 4 = some (some 116, .binOp .shr 3 (.tmp 114) (.tmp 115) 3, (some (1, false)))) rfl rfl (fun w' hS => val_shrE (r := ((mk / 2 ^ k : Nat) : Int)) rfl rfl (by omega) (shrN hmk62)) ?_
            refine yS (by kernel_rfl : opAt F3.o20 5 = some (some 117, .binOp .and 3 (.tmp 116) (.const (.int .i64 1)) 3, (some (1, false)))) rfl rfl (fun w' hS => val_andE (r := ((mk / 2 ^ k &&& 1 : Nat) : Int)) rfl rfl (bits_and (n := 1) (Nat.lt_of_le_of_lt (Nat.div_le_self _ _) (by omega)) (by decide))) ?_
            refine yS (by kernel_rfl : opAt F3.o20 6 = some (some 118, .binOp .eql 3 (.tmp 117) (.const (.int .i64 1)) 3, (some (1, false)))) rfl rfl (fun w' hS => val_T (val_eql rfl rfl) hB) ?_
            refine yS (by kernel_rfl : opAt F3.o20 7 = some (some 119, .move (.tmp 118), (some (1, false)))) rfl rfl (fun w' hS => val_move rfl) ?_
            refine yS (by kernel_rfl : opAt F3.o20 8 = some (some 120, .move (.tmp 5), (some (7, true)))) rfl rfl (fun w' hS => val_move rfl) ?_
            refine yS (by kernel_rfl : opAt F3.o20 9 = some (some 121, .move (.tmp 15), (some (7, true)))) rfl rfl (fun w' hS => val_move rfl) ?_
            refine iS (e := 39) (by kernel_rfl : opAt F3.o20 10 = some (some 122, .indexAddr 28 (.tmp 120) (.tmp 121), (some (7, true)))) rfl rfl ha rfl (by kernel_rfl) rfl (by omega) (by omega) ?_
            intro b122 o122 h122
            try simp only [Int.toNat_natCast] at h122
            refine lS (by kernel_rfl : opAt F3.o20 11 = some (some 123, .load 39 (.tmp 122), (some (7, true)))) rfl rfl (fun w' hS => h122.stay hS (by decide)) h122 (by kernel_rfl) rfl rfl ?_
            intro v123 g123
            refine yS (by kernel_rfl : opAt F3.o20 12 = some (some 124, .move (.tmp 6), (some (7, true)))) rfl rfl (fun w' hS => val_move rfl) ?_
            refine yS (by kernel_rfl : opAt F3.o20 13 = some (some 125, .move (.tmp 15), (some (7, true)))) rfl rfl (fun w' hS => val_move rfl) ?_
            refine iS (e := 39) (by kernel_rfl : opAt F3.o20 14 = some (some 126, .indexAddr 28 (.tmp 124) (.tmp 125), (some (7, true)))) rfl rfl hb rfl (by kernel_rfl) rfl (by omega) (by omega) ?_
            intro b126 o126 h126
            try simp only [Int.toNat_natCast] at h126
            refine lS (by kernel_rfl : opAt F3.o20 15 = some (some 127, .load 39 (.tmp 126), (some (7, true)))) rfl rfl (fun w' hS => h126.stay hS (by decide)) h126 (by kernel_rfl) rfl rfl ?_
            intro v127 g127
            refine yS (by kernel_rfl : opAt F3.o20 16 = some (some 128, .load 37 (.tmp 13), (some (7, true)))) rfl rfl (fun w' hS => val_loadOwnAgg (n := 2) (hx.stay hS (by decide)) (by kernel_rfl) (by kernel_rfl) rfl rfl rfl) ?_
            refine cS (by kernel_rfl : opAt F3.o20 17 = some (some 129, .call { callee := .value (.func 15), args := #[(.tmp 123), (.tmp 127), (.tmp 128)], argTypes := #[39, 39, 37] }, (some (7, true)))) rfl rfl (ent Try.call15 rfl) (tog_ok (c := L[i]'hil) hF g123 g127) ?_
            rintro vw22 w22 ⟨rfl, hs⟩
            refine ⟨(hR.trans hs (by simp)).ext, ?_⟩
            replace hF := hF.st hs
            replace hT := hT.trans hs (by simp)
            replace ha := ha.st hs (by first | decide | (simp <;> omega))
            replace hb := hb.st hs (by first | decide | (simp <;> omega))
            replace hl := hl.st hs (by first | decide | (simp <;> omega))
            replace hx := hx.st hs (by first | decide | (simp <;> omega))
            replace hR := hR.trans hs (by simp)
            replace h122 := h122.st hs (by first | decide | (simp <;> omega))
            replace g123 := g123.st hs (by first | decide | (simp <;> omega))
            replace h126 := h126.st hs (by first | decide | (simp <;> omega))
            replace g127 := g127.st hs (by first | decide | (simp <;> omega))
            refine yS (by kernel_rfl : opAt F3.o20 18 = some (some 130, .pick (.tmp 119) (.tmp 129) (.const (.bool false)), (some (1, false)))) rfl rfl (fun w' hS => val_pick_t rfl rfl) ?_
            refine yS (by kernel_rfl : opAt F3.o20 19 = some (some 131, .pick (.tmp 113) (.const (.bool true)) (.tmp 130), none)) rfl rfl (fun w' hS => val_pick_f rfl rfl) ?_
            refine yS (by kernel_rfl : opAt F3.o20 20 = some (some 14, .assign (.tmp 131), none)) rfl rfl (fun w' hS => val_assign rfl) ?_
            refine Sch.nil ?_
            refine run_inBlock ?_
            refine run_plain (id := 19) (ops := F3.o19) [(0, true), (1, true), (2, true)] (by kernel_rfl) (by kernel_rfl) ?_
            refine yS (by kernel_rfl : opAt F3.o19 0 = some (some 110, .move (.tmp 15), none)) rfl rfl (fun w' hS => val_move rfl) ?_
            refine yS (by kernel_rfl : opAt F3.o19 1 = some (some 111, .binOp .add 3 (.tmp 110) (.const (.int .i64 1)) 3, none)) rfl rfl (fun w' hS => val_addi rfl rfl (by omega) (by omega)) ?_
            refine yS (by kernel_rfl : opAt F3.o19 2 = some (some 15, .assign (.tmp 111), none)) rfl rfl (fun w' hS => val_assign rfl) ?_
            refine Sch.nil ?_
            refine kp (sub_cons 4 rfl rfl (sub_cons 5 rfl rfl (sub_cons 6 rfl rfl (sub_cons 7 rfl rfl (sub_cons 8 rfl rfl (sub_cons 13 rfl rfl (sub_cons 14 rfl (eq_bool (by simp only; rw [foundS, hf, ← bit_test, decide_eq_true hB, Bool.false_or, Bool.true_and]; simp only [List.getD_eq_getElem?_getD, List.getElem?_eq_getElem hka, List.getElem?_eq_getElem hkb, Option.getD_some])) (sub_cons 15 rfl (eq_int (by simp)) (sub_cons 65 rfl rfl (sub_cons 66 rfl rfl (sub_cons 67 rfl rfl (sub_nil _)))))))))))) (next (k + 1, C2) _ ⟨by simp only; omega, hF, hT, ha, hb, hl, hx⟩ (by simp only; omega))
          · skip
            refine run_draw (id := 20) (ops := F3.o20) [] (C2) [(0, true), (1, true), (2, true), (3, true), (4, true), (5, true), (6, true), (7, true), (8, true), (9, true), (10, true), (11, true), (12, true), (13, true), (14, true), (15, true), (16, true), (17, false), (18, true), (19, true), (20, true)] Try_mixed (by kernel_rfl) (by kernel_rfl) (by kernel_rfl) ?_
            intro w23 hs
            replace hF := hF.st hs
            replace hT := hT.trans hs (by simp)
            replace ha := ha.st hs (by first | decide | (simp <;> omega))
            replace hb := hb.st hs (by first | decide | (simp <;> omega))
            replace hl := hl.st hs (by first | decide | (simp <;> omega))
            replace hx := hx.st hs (by first | decide | (simp <;> omega))
            have hR := Stp.refl [] w23 (C2)
            refine yS (by kernel_rfl : opAt F3.o20 0 = some (some 112, .move (.tmp 14), none)) rfl rfl (fun w' hS => val_move rfl) ?_
            refine yS (by kernel_rfl : opAt F3.o20 1 = some (some 113, .move (.tmp 112), none)) rfl rfl (fun w' hS => val_move rfl) ?_
            refine yS (by kernel_rfl : opAt F3.o20 2 = some (some 114, .move (.tmp 7), (some (1, false)))) rfl rfl (fun w' hS => val_move rfl) ?_
            refine yS (by kernel_rfl : opAt F3.o20 3 = some (some 115, .move (.tmp 15), (some (1, false)))) rfl rfl (fun w' hS => val_move rfl) ?_
            have hmk62 : k ≤ 62 := by omega
            refine yS (by kernel_rfl : opAt F3.o20 4 = some (some 116, .binOp .shr 3 (.tmp 114) (.tmp 115) 3, (some (1, false)))) rfl rfl (fun w' hS => val_shrE (r := ((mk / 2 ^ k : Nat) : Int)) rfl rfl (by omega) (shrN hmk62)) ?_
            refine yS (by kernel_rfl : opAt F3.o20 5 = some (some 117, .binOp .and 3 (.tmp 116) (.const (.int .i64 1)) 3, (some (1, false)))) rfl rfl (fun w' hS => val_andE (r := ((mk / 2 ^ k &&& 1 : Nat) : Int)) rfl rfl (bits_and (n := 1) (Nat.lt_of_le_of_lt (Nat.div_le_self _ _) (by omega)) (by decide))) ?_
            refine yS (by kernel_rfl : opAt F3.o20 6 = some (some 118, .binOp .eql 3 (.tmp 117) (.const (.int .i64 1)) 3, (some (1, false)))) rfl rfl (fun w' hS => val_F (val_eql rfl rfl) hB) ?_
            refine yS (by kernel_rfl : opAt F3.o20 7 = some (some 119, .move (.tmp 118), (some (1, false)))) rfl rfl (fun w' hS => val_move rfl) ?_
            refine pS (by kernel_rfl : opAt F3.o20 8 = some (some 120, .move (.tmp 5), (some (7, true)))) rfl rfl ?_
            refine pS (by kernel_rfl : opAt F3.o20 9 = some (some 121, .move (.tmp 15), (some (7, true)))) rfl rfl ?_
            refine pS (by kernel_rfl : opAt F3.o20 10 = some (some 122, .indexAddr 28 (.tmp 120) (.tmp 121), (some (7, true)))) rfl rfl ?_
            refine pS (by kernel_rfl : opAt F3.o20 11 = some (some 123, .load 39 (.tmp 122), (some (7, true)))) rfl rfl ?_
            refine pS (by kernel_rfl : opAt F3.o20 12 = some (some 124, .move (.tmp 6), (some (7, true)))) rfl rfl ?_
            refine pS (by kernel_rfl : opAt F3.o20 13 = some (some 125, .move (.tmp 15), (some (7, true)))) rfl rfl ?_
            refine pS (by kernel_rfl : opAt F3.o20 14 = some (some 126, .indexAddr 28 (.tmp 124) (.tmp 125), (some (7, true)))) rfl rfl ?_
            refine pS (by kernel_rfl : opAt F3.o20 15 = some (some 127, .load 39 (.tmp 126), (some (7, true)))) rfl rfl ?_
            refine pS (by kernel_rfl : opAt F3.o20 16 = some (some 128, .load 37 (.tmp 13), (some (7, true)))) rfl rfl ?_
            refine pW (by kernel_rfl : opAt F3.o20 17 = some (some 129, .call { callee := .value (.func 15), args := #[(.tmp 123), (.tmp 127), (.tmp 128)], argTypes := #[39, 39, 37] }, (some (7, true)))) rfl rfl hR.ext ?_
            refine yS (by kernel_rfl : opAt F3.o20 18 = some (some 130, .pick (.tmp 119) (.tmp 129) (.const (.bool false)), (some (1, false)))) rfl rfl (fun w' hS => val_pick_f rfl rfl) ?_
            refine yS (by kernel_rfl : opAt F3.o20 19 = some (some 131, .pick (.tmp 113) (.const (.bool true)) (.tmp 130), none)) rfl rfl (fun w' hS => val_pick_f rfl rfl) ?_
            refine yS (by kernel_rfl : opAt F3.o20 20 = some (some 14, .assign (.tmp 131), none)) rfl rfl (fun w' hS => val_assign rfl) ?_
            refine Sch.nil ?_
            refine run_inBlock ?_
            refine run_plain (id := 19) (ops := F3.o19) [(0, true), (1, true), (2, true)] (by kernel_rfl) (by kernel_rfl) ?_
            refine yS (by kernel_rfl : opAt F3.o19 0 = some (some 110, .move (.tmp 15), none)) rfl rfl (fun w' hS => val_move rfl) ?_
            refine yS (by kernel_rfl : opAt F3.o19 1 = some (some 111, .binOp .add 3 (.tmp 110) (.const (.int .i64 1)) 3, none)) rfl rfl (fun w' hS => val_addi rfl rfl (by omega) (by omega)) ?_
            refine yS (by kernel_rfl : opAt F3.o19 2 = some (some 15, .assign (.tmp 111), none)) rfl rfl (fun w' hS => val_assign rfl) ?_
            refine Sch.nil ?_
            refine kp (sub_cons 4 rfl rfl (sub_cons 5 rfl rfl (sub_cons 6 rfl rfl (sub_cons 7 rfl rfl (sub_cons 8 rfl rfl (sub_cons 13 rfl rfl (sub_cons 14 rfl (eq_bool (by simp only; rw [foundS, hf, ← bit_test, decide_eq_false hB]; rfl)) (sub_cons 15 rfl (eq_int (by simp)) (sub_cons 65 rfl rfl (sub_cons 66 rfl rfl (sub_cons 67 rfl rfl (sub_nil _)))))))))))) (next (k + 1, C2) _ ⟨by simp only; omega, hF, hT, ha, hb, hl, hx⟩ (by simp only; omega))
      · skip
        obtain rfl : k = n1 + 1 := by omega
        rw [hfd i hil]
        refine run_exit (id := 2) (by kernel_rfl) rfl ?_
        refine run_seq (x := F3.c71) (y := F3.c72) (by kernel_rfl) ?_
        refine run_plain (id := 21) (ops := F3.o21) [(0, true), (1, true)] (by kernel_rfl) (by kernel_rfl) ?_
        refine yS (by kernel_rfl : opAt F3.o21 0 = some (some 132, .move (.tmp 14), none)) rfl rfl (fun w' hS => val_move rfl) ?_
        refine yS (by kernel_rfl : opAt F3.o21 1 = some (some 133, .unOp .not 4 (.tmp 132), none)) rfl rfl (fun w' hS => val_not rfl) ?_
        refine Sch.nil ?_
        refine run_cond (x := F3.c73) (y := F3.c76) (o := .tmp 133) (b := false) (by kernel_rfl) rfl (fun h => by cases h) (fun _ => ?_)
        refine run_skip (by kernel_rfl) ?_
        refine run_inBlock ?_
        refine run_plain (id := 23) (ops := F3.o23) [(0, true), (1, true)] (by kernel_rfl) (by kernel_rfl) ?_
        refine yS (by kernel_rfl : opAt F3.o23 0 = some (some 134, .binOp .add 3 (.tmp 67) (.const (.int .i64 1)) 3, none)) rfl rfl (fun w' hS => val_addi rfl rfl (by omega) (by omega)) ?_
        refine yS (by kernel_rfl : opAt F3.o23 1 = some (some 67, .move (.tmp 134), none)) rfl rfl (fun w' hS => val_move rfl) ?_
        refine Sch.nil ?_
        refine kp ?_ (next0x (i + 1, C2) _ ⟨by simp only; omega, hF, hT, ha, hb, hl⟩ (by simp only; omega))
        exact sub_cons 4 rfl rfl (sub_cons 5 rfl rfl (sub_cons 6 rfl rfl (sub_cons 7 rfl rfl (sub_cons 8 rfl rfl (sub_cons 65 rfl rfl (sub_cons 66 rfl rfl (sub_cons 67 rfl (eq_int (by simp)) (sub_nil _))))))))
    · skip
      refine run_exit (id := 0) (by kernel_rfl) rfl ?_
      refine run_seq (x := F3.c79) (y := F3.c80) (by kernel_rfl) ?_
      refine run_plain (id := 24) (ops := F3.o24) [(0, true)] (by kernel_rfl) (by kernel_rfl) ?_
      refine yS (by kernel_rfl : opAt F3.o24 0 = some (some 2, .assign (.const (.bool true)), none)) rfl rfl (fun w' hS => val_assign rfl) ?_
      refine Sch.nil ?_
      refine run_ret1 (by kernel_rfl) Try.func3 Try.results3 rfl ?_
      exact ⟨rfl, hT.out1 (by decide)⟩
end Go.Proofs.Ytejbklahkkjmhaa

