/- Steps through functions of the program. -/
import Derived.Test.YtbdlkdiadplmcaaJXA
set_option linter.unusedVariables false
set_option linter.unusedSimpArgs false
set_option maxRecDepth 100000
set_option maxHeartbeats 4000000
namespace Go.Proofs.Ytbdlkdiadplmcaa
open Go.K Go.K.Rep

namespace F3
noncomputable def c0 : Code := bodyOf Try.f3
noncomputable def c1 : Code := cl c0
noncomputable def o0 : Array Oper := rops c1
noncomputable def c2 : Code := cr c0
noncomputable def c3 : Code := cl c2
noncomputable def c4 : Code := cl c3
noncomputable def o1 : Array Oper := rops c4
noncomputable def c5 : Code := cr c3
noncomputable def c6 : Code := cl c5
noncomputable def c7 : Code := cl c6
noncomputable def o2 : Array Oper := rops c7
noncomputable def c8 : Code := cr c6
noncomputable def c9 : Code := cr c5
noncomputable def c10 : Code := cr c2
noncomputable def c11 : Code := cl c10
noncomputable def o3 : Array Oper := rops c11
noncomputable def c12 : Code := cr c10
noncomputable def c13 : Code := cl c12
noncomputable def o4 : Array Oper := rops c13
noncomputable def c14 : Code := cr c12
noncomputable def c15 : Code := cl c14
noncomputable def o5 : Array Oper := rops c15
noncomputable def c16 : Code := cr c14
noncomputable def c17 : Code := cl c16
noncomputable def c18 : Code := cl c17
noncomputable def o6 : Array Oper := rops c18
noncomputable def c19 : Code := cr c17
noncomputable def c20 : Code := cl c19
noncomputable def c21 : Code := cl c20
noncomputable def c22 : Code := cl c21
noncomputable def o7 : Array Oper := rops c22
noncomputable def c23 : Code := cr c21
noncomputable def c24 : Code := cl c23
noncomputable def c25 : Code := cl c24
noncomputable def c26 : Code := cr c24
noncomputable def c27 : Code := cr c23
noncomputable def c28 : Code := cl c27
noncomputable def c29 : Code := cl c28
noncomputable def c30 : Code := cl c29
noncomputable def o8 : Array Oper := rops c30
noncomputable def c31 : Code := cr c29
noncomputable def o9 : Array Oper := rops c31
noncomputable def c32 : Code := cr c27
noncomputable def o10 : Array Oper := rops c32
noncomputable def c33 : Code := cr c16
noncomputable def c34 : Code := cl c33
noncomputable def o11 : Array Oper := rops c34
noncomputable def c35 : Code := cr c33
noncomputable def c36 : Code := cl c35
noncomputable def c37 : Code := cl c36
noncomputable def o12 : Array Oper := rops c37
noncomputable def c38 : Code := cr c36
noncomputable def c39 : Code := cl c38
noncomputable def c40 : Code := cl c39
noncomputable def c41 : Code := cl c40
noncomputable def o13 : Array Oper := rops c41
noncomputable def c42 : Code := cr c40
noncomputable def c43 : Code := cl c42
noncomputable def c44 : Code := cl c43
noncomputable def c45 : Code := cr c43
noncomputable def c46 : Code := cr c42
noncomputable def c47 : Code := cl c46
noncomputable def c48 : Code := cl c47
noncomputable def c49 : Code := cl c48
noncomputable def o14 : Array Oper := rops c49
noncomputable def c50 : Code := cr c48
noncomputable def c51 : Code := cl c50
noncomputable def c52 : Code := cl c51
noncomputable def o15 : Array Oper := rops c52
noncomputable def c53 : Code := cr c51
noncomputable def c54 : Code := cl c53
noncomputable def c55 : Code := cl c54
noncomputable def o16 : Array Oper := rops c55
noncomputable def c56 : Code := cr c54
noncomputable def c57 : Code := cr c53
noncomputable def c58 : Code := cr c50
noncomputable def c59 : Code := cl c58
noncomputable def o17 : Array Oper := rops c59
noncomputable def c60 : Code := cr c58
noncomputable def c61 : Code := cl c60
noncomputable def c62 : Code := cl c61
noncomputable def c63 : Code := cl c62
noncomputable def o18 : Array Oper := rops c63
noncomputable def c64 : Code := cr c62
noncomputable def c65 : Code := cl c64
noncomputable def c66 : Code := cl c65
noncomputable def c67 : Code := cr c65
noncomputable def c68 : Code := cr c64
noncomputable def c69 : Code := cl c68
noncomputable def c70 : Code := cl c69
noncomputable def c71 : Code := cl c70
noncomputable def o19 : Array Oper := rops c71
noncomputable def c72 : Code := cr c70
noncomputable def c73 : Code := cl c72
noncomputable def c74 : Code := cl c73
noncomputable def o20 : Array Oper := rops c74
noncomputable def c75 : Code := cr c73
noncomputable def c76 : Code := cl c75
noncomputable def c77 : Code := cl c76
noncomputable def o21 : Array Oper := rops c77
noncomputable def c78 : Code := cr c76
noncomputable def c79 : Code := cr c75
noncomputable def c80 : Code := cr c72
noncomputable def o22 : Array Oper := rops c80
noncomputable def c81 : Code := cr c68
noncomputable def o23 : Array Oper := rops c81
noncomputable def c82 : Code := cr c46
noncomputable def o24 : Array Oper := rops c82
noncomputable def c83 : Code := cr c35
noncomputable def c84 : Code := cl c83
noncomputable def c85 : Code := cl c84
noncomputable def o25 : Array Oper := rops c85
noncomputable def c86 : Code := cr c84
noncomputable def c87 : Code := cl c86
noncomputable def c88 : Code := cl c87
noncomputable def c89 : Code := cl c88
noncomputable def o26 : Array Oper := rops c89
noncomputable def c90 : Code := cr c88
noncomputable def c91 : Code := cl c90
noncomputable def c92 : Code := cl c91
noncomputable def c93 : Code := cr c91
noncomputable def c94 : Code := cr c90
noncomputable def c95 : Code := cl c94
noncomputable def c96 : Code := cl c95
noncomputable def c97 : Code := cl c96
noncomputable def o27 : Array Oper := rops c97
noncomputable def c98 : Code := cr c96
noncomputable def c99 : Code := cl c98
noncomputable def c100 : Code := cl c99
noncomputable def o28 : Array Oper := rops c100
noncomputable def c101 : Code := cr c99
noncomputable def c102 : Code := cl c101
noncomputable def c103 : Code := cl c102
noncomputable def c104 : Code := cl c103
noncomputable def c105 : Code := cl c104
noncomputable def o29 : Array Oper := rops c105
noncomputable def c106 : Code := cr c104
noncomputable def c107 : Code := cl c106
noncomputable def c108 : Code := cr c106
noncomputable def c109 : Code := cr c103
noncomputable def c110 : Code := cl c109
noncomputable def c111 : Code := cl c110
noncomputable def c112 : Code := cl c111
noncomputable def o31 : Array Oper := rops c112
noncomputable def c113 : Code := cr c111
noncomputable def c114 : Code := cl c113
noncomputable def c115 : Code := cl c114
noncomputable def o32 : Array Oper := rops c115
noncomputable def c116 : Code := cr c114
noncomputable def c117 : Code := cr c113
noncomputable def c118 : Code := cr c109
noncomputable def o30 : Array Oper := rops c118
noncomputable def c119 : Code := cr c98
noncomputable def c120 : Code := cl c119
noncomputable def o33 : Array Oper := rops c120
noncomputable def c121 : Code := cr c119
noncomputable def c122 : Code := cl c121
noncomputable def c123 : Code := cl c122
noncomputable def o34 : Array Oper := rops c123
noncomputable def c124 : Code := cr c122
noncomputable def c125 : Code := cr c121
noncomputable def c126 : Code := cr c94
noncomputable def o35 : Array Oper := rops c126
noncomputable def c127 : Code := cr c83
noncomputable def c128 : Code := cl c127
noncomputable def o36 : Array Oper := rops c128
noncomputable def c129 : Code := cr c127
end F3
/-- The statement's function answers true. -/
theorem groupsLaw_ok {w₀ : World} {C : Nat → Nat} {l : List Int} {vl : Value} (hF : Lim w₀ C) (hl : RV w₀ (Mc C) l vl) : Calls Try.prog 3 #[vl] w₀ (Ret fun v w' => v = .bool true ∧ Stp [] w₀ C w' C) := by
  have hF0 := hF
  have hT := Stp.refl [2, 3, 4, 5, 6, 7, 8, 9] w₀ (col1 C)
  replace hF := hF.col1
  replace hl : RV w₀ (Mc (col1 C)) l vl := by rw [Mc_col1]; exact hl
  refine calls_start (c := F3.c0) (N := 157) [vl] Try.func3 (by kernel_rfl) (by kernel_rfl) (by kernel_rfl) ?_
  show Run _ _ _ _ [(0, vl)] _ _
  refine run_seq (x := F3.c1) (y := F3.c2) (by kernel_rfl) ?_
  refine run_plain (id := 0) (ops := F3.o0) [(0, true)] (by kernel_rfl) (by kernel_rfl) ?_
  refine yS (by kernel_rfl : opAt F3.o0 0 = some (some 2, .assign (.const (.bool false)), none)) rfl rfl (fun w' hS => val_assign rfl) ?_
  refine Sch.nil ?_
  refine run_seq (x := F3.c3) (y := F3.c10) (by kernel_rfl) ?_
  refine run_seq (x := F3.c4) (y := F3.c5) (by kernel_rfl) ?_
  refine run_plain (id := 1) (ops := F3.o1) [(0, false), (1, true), (2, true), (3, true), (4, false), (5, true), (6, true)] (by kernel_rfl) (by kernel_rfl) ?_
  refine cS (by kernel_rfl : opAt F3.o1 0 = some (some 14, .call { callee := .value (.func 7), args := #[], argTypes := #[] }, none)) rfl rfl (ent Try.call7 rfl) (awake_ok hF) ?_
  rintro vw1 w1 ⟨rfl, hs⟩
  refine ⟨trivial, ?_⟩
  replace hF := hF.st hs
  replace hT := hT.trans hs (by simp)
  replace hl := hl.st hs (by first | decide | (simp <;> omega))
  refine yS (by kernel_rfl : opAt F3.o1 1 = some (some 15, .unOp .not 4 (.tmp 14), none)) rfl rfl (fun w' hS => val_not rfl) ?_
  refine yS (by kernel_rfl : opAt F3.o1 2 = some (some 16, .move (.tmp 15), none)) rfl rfl (fun w' hS => val_move rfl) ?_
  refine yS (by kernel_rfl : opAt F3.o1 3 = some (some 17, .move (.tmp 0), (some (2, false)))) rfl rfl (fun w' hS => val_move rfl) ?_
  refine cS (by kernel_rfl : opAt F3.o1 4 = some (some 18, .call { callee := .value (.func 8), args := #[(.tmp 17)], argTypes := #[22] }, (some (2, false)))) rfl rfl (ent Try.call8 rfl) (few_any hl) ?_
  rintro vw2 w2 ⟨rfl, rfl⟩
  refine ⟨trivial, ?_⟩
  refine yS (by kernel_rfl : opAt F3.o1 5 = some (some 19, .unOp .not 4 (.tmp 18), (some (2, false)))) rfl rfl (fun w' hS => val_notd rfl) ?_
  refine yS (by kernel_rfl : opAt F3.o1 6 = some (some 20, .pick (.tmp 16) (.const (.bool true)) (.tmp 19), none)) rfl rfl (fun w' hS => val_pick_f rfl rfl) ?_
  refine Sch.nil ?_
  refine run_if (x := F3.c6) (y := F3.c9) (o := .tmp 20) (by kernel_rfl) rfl (fun h20 => ?_) (fun h20 => ?_)
  · skip
    refine run_seq (x := F3.c7) (y := F3.c8) (by kernel_rfl) ?_
    refine run_plain (id := 2) (ops := F3.o2) [(0, false), (1, true)] (by kernel_rfl) (by kernel_rfl) ?_
    refine cS (by kernel_rfl : opAt F3.o2 0 = some (some 21, .call { callee := .value (.func 7), args := #[], argTypes := #[] }, none)) rfl rfl (ent Try.call7 rfl) (awake_ok hF) ?_
    rintro vw3 w3 ⟨rfl, hs⟩
    refine ⟨trivial, ?_⟩
    replace hF := hF.st hs
    replace hT := hT.trans hs (by simp)
    replace hl := hl.st hs (by first | decide | (simp <;> omega))
    refine yS (by kernel_rfl : opAt F3.o2 1 = some (some 2, .assign (.tmp 21), none)) rfl rfl (fun w' hS => val_assign rfl) ?_
    refine Sch.nil ?_
    refine run_ret1 (by kernel_rfl) Try.func3 Try.results3 rfl ?_
    exact ⟨rfl, hT.out1 (by decide)⟩
  · skip
    refine run_skip (by kernel_rfl) ?_
    refine run_seq (x := F3.c11) (y := F3.c12) (by kernel_rfl) ?_
    refine run_plain (id := 3) (ops := F3.o3) [(0, true), (1, false), (2, true)] (by kernel_rfl) (by kernel_rfl) ?_
    refine yS (by kernel_rfl : opAt F3.o3 0 = some (some 22, .move (.tmp 0), none)) rfl rfl (fun w' hS => val_move rfl) ?_
    refine cS (by kernel_rfl : opAt F3.o3 1 = some (some 23, .call { callee := .value (.func 9), args := #[(.tmp 22)], argTypes := #[22] }, none)) rfl rfl (ent Try.call9 rfl) (new_any hF hl) ?_
    rintro vw4 w4 ⟨Cd, bd, rfl, hs, hF, hd⟩
    refine ⟨trivial, ?_⟩
    replace hT := hT.trans hs (by simp)
    replace hl := hl.st hs (by first | decide | (simp <;> omega))
    refine yS (by kernel_rfl : opAt F3.o3 2 = some (some 3, .assign (.tmp 23), none)) rfl rfl (fun w' hS => val_assign rfl) ?_
    refine Sch.nil ?_
    refine run_seq (x := F3.c13) (y := F3.c14) (by kernel_rfl) ?_
    refine run_plain (id := 4) (ops := F3.o4) [(0, true), (1, false), (2, true)] (by kernel_rfl) (by kernel_rfl) ?_
    refine yS (by kernel_rfl : opAt F3.o4 0 = some (some 24, .move (.tmp 3), none)) rfl rfl (fun w' hS => val_move rfl) ?_
    refine cS (by kernel_rfl : opAt F3.o4 1 = some (some 25, .call { callee := .value (.func 10), args := #[(.tmp 24), (.const (.int .i64 14))], argTypes := #[25, 3] }, none)) rfl rfl (ent Try.call10 rfl) (column_any (n := 14) hF (by decide) hd (by decide) (by decide)) ?_
    rintro v25 w5 ⟨cl, hcl, hgd, hs, hd, hc⟩
    refine ⟨trivial, ?_⟩
    replace hF := hF.st hs
    replace hT := hT.trans hs (by simp)
    replace hl := hl.st hs (by first | decide | (simp <;> omega))
    refine yS (by kernel_rfl : opAt F3.o4 2 = some (some 4, .assign (.tmp 25), none)) rfl rfl (fun w' hS => val_assign rfl) ?_
    refine Sch.nil ?_
    refine run_seq (x := F3.c15) (y := F3.c16) (by kernel_rfl) ?_
    refine run_plain (id := 5) (ops := F3.o5) [(0, true), (1, true), (2, false), (3, true)] (by kernel_rfl) (by kernel_rfl) ?_
    refine yS (by kernel_rfl : opAt F3.o5 0 = some (some 26, .move (.tmp 4), none)) rfl rfl (fun w' hS => val_move rfl) ?_
    refine yS (by kernel_rfl : opAt F3.o5 1 = some (some 27, .call { callee := .builtin .len, args := #[(.tmp 26)], argTypes := #[27] }, none)) rfl rfl (fun w' hS => hc.lenV rfl Try.underlying27 w' ) ?_
    have hle := hc.le
    refine aS (by kernel_rfl : opAt F3.o5 2 = some (some 28, .makeSlice 22 (.tmp 27) (.tmp 27), none)) rfl rfl (a_make (e := 3) (bytes := 8) (x0 := (0 : Int)) (zs := [.int .i64 0]) hF (j := 4) (by decide) (by kernel_rfl) (by kernel_rfl) rfl rfl (by omega) (by omega) (by omega) (fun h M => zero_int)) ?_
    rintro v28 w6 ⟨Cw6, hs, ho, hF⟩
    refine ⟨trivial, ?_⟩
    replace hT := hT.trans hs (by simp)
    replace hl := hl.st hs (by first | decide | (simp <;> omega))
    replace hd := hd.st hs (by first | decide | (simp <;> omega)) (by first | decide | (simp <;> omega))
    replace hc := hc.st hs (by first | decide | (simp <;> omega))
    try simp only [Int.toNat_natCast] at ho
    refine yS (by kernel_rfl : opAt F3.o5 3 = some (some 5, .assign (.tmp 28), none)) rfl rfl (fun w' hS => val_assign rfl) ?_
    refine Sch.nil ?_
    refine run_seq (x := F3.c17) (y := F3.c33) (by kernel_rfl) ?_
    refine run_seq (x := F3.c18) (y := F3.c19) (by kernel_rfl) ?_
    refine run_plain (id := 6) (ops := F3.o6) [(0, true), (1, true), (2, true)] (by kernel_rfl) (by kernel_rfl) ?_
    refine yS (by kernel_rfl : opAt F3.o6 0 = some (some 29, .move (.tmp 5), none)) rfl rfl (fun w' hS => val_move rfl) ?_
    refine yS (by kernel_rfl : opAt F3.o6 1 = some (some 30, .call { callee := .builtin .len, args := #[(.tmp 29)], argTypes := #[22] }, none)) rfl rfl (fun w' hS => ho.lenV rfl Try.underlying22 w' ) ?_
    refine yS (by kernel_rfl : opAt F3.o6 2 = some (some 31, .move (.const (.int .i64 0)), none)) rfl rfl (fun w' hS => val_move rfl) ?_
    refine Sch.nil ?_
    refine run_block (x := F3.c20) (id := 0) (by kernel_rfl) ?_
    
    refine run_loop (ι := Nat × (List Int) × (Nat → Nat)) (I := fun x w => x.1 ≤ cl.length ∧ x.2.1.length = cl.length ∧ (∀ i, i < x.1 → gAt x.2.1 i = -1) ∧ Lim w x.2.2 ∧ Stp [2, 3, 4, 5, 6, 7, 8, 9] w₀ (col1 C) w x.2.2 ∧ RV w (Mc x.2.2) cl v25 ∧ OwnL w x.2.2 4 3 v28 x.2.1) (e := fun x => [(4, v25), (5, v28), (29, v28), (30, .int .i64 cl.length), (31, .int .i64 x.1)]) (m := fun x => cl.length - x.1) (x₀ := (0, List.replicate cl.length 0, Cw6)) (body := F3.c21) (by kernel_rfl) (sub_cons 4 rfl rfl (sub_cons 5 rfl rfl (sub_cons 29 rfl rfl (sub_cons 30 rfl (eq_int (by simp)) (sub_cons 31 rfl rfl (sub_nil _)))))) ?_ ?_
    · exact ⟨Nat.zero_le _, List.length_replicate, (fun i hi => by first | omega | (simp only at hi; omega)), hF, hT, hc, ho⟩
    intro ⟨k, ofl, C1⟩ w7 hI next
    obtain ⟨hk, hol, h0, hF, hT, hc, ho⟩ := hI
    try simp only at hk hol h0 hF hT hc ho
    have next1 := next
    clear next
    show Run _ _ _ _ [(4, v25), (5, v28), (29, v28), (30, .int .i64 cl.length), (31, .int .i64 k)] _ _
    refine run_seq (x := F3.c22) (y := F3.c23) (by kernel_rfl) ?_
    refine run_plain (id := 7) (ops := F3.o7) [(0, true)] (by kernel_rfl) (by kernel_rfl) ?_
    refine yS (by kernel_rfl : opAt F3.o7 0 = some (some 32, .binOp .lss 3 (.tmp 31) (.tmp 30) 3, none)) rfl rfl (fun w' hS => val_lss rfl rfl) ?_
    refine Sch.nil ?_
    refine run_seq (x := F3.c24) (y := F3.c27) (by kernel_rfl) ?_
    refine run_if (x := F3.c25) (y := F3.c26) (o := .tmp 32) (by kernel_rfl) rfl (fun h32 => ?_) (fun h32 => ?_)
    · skip
      have hkl : k < cl.length := by omega
      refine run_skip (by kernel_rfl) ?_
      refine run_seq (x := F3.c28) (y := F3.c32) (by kernel_rfl) ?_
      refine run_block (x := F3.c29) (id := 1) (by kernel_rfl) ?_
      refine run_seq (x := F3.c30) (y := F3.c31) (by kernel_rfl) ?_
      refine run_plain (id := 8) (ops := F3.o8) [(0, true), (1, true)] (by kernel_rfl) (by kernel_rfl) ?_
      refine yS (by kernel_rfl : opAt F3.o8 0 = some (some 33, .move (.tmp 31), none)) rfl rfl (fun w' hS => val_move rfl) ?_
      refine yS (by kernel_rfl : opAt F3.o8 1 = some (some 6, .assign (.tmp 33), none)) rfl rfl (fun w' hS => val_assign rfl) ?_
      refine Sch.nil ?_
      refine run_plain (id := 9) (ops := F3.o9) [(0, true), (1, true), (2, true), (3, false)] (by kernel_rfl) (by kernel_rfl) ?_
      refine yS (by kernel_rfl : opAt F3.o9 0 = some (some 34, .move (.tmp 5), none)) rfl rfl (fun w' hS => val_move rfl) ?_
      refine yS (by kernel_rfl : opAt F3.o9 1 = some (some 35, .move (.tmp 6), none)) rfl rfl (fun w' hS => val_move rfl) ?_
      refine oI (e' := 3) (by kernel_rfl : opAt F3.o9 2 = some (some 36, .indexAddr 22 (.tmp 34) (.tmp 35), none)) rfl rfl ho rfl (by kernel_rfl) rfl (by omega) (by omega) ?_
      intro g36 hg36
      try simp only [Int.toNat_natCast]
      refine aN (by kernel_rfl : opAt F3.o9 3 = some (none, .store 3 (.tmp 36) (.const (.int .i64 (-1))), none)) rfl (a_storeO ho hg36 (by omega) rfl rfl (by kernel_rfl) (x0 := (-1 : Int)) (rv_int.2 rfl)) ?_
      rintro _ w8 ⟨rfl, hs, ho⟩
      refine ⟨trivial, ?_⟩
      replace hF := hF.st hs
      replace hT := hT.trans hs (by simp)
      replace hc := hc.st hs (by first | decide | (simp <;> omega))
      refine Sch.nil ?_
      refine run_inBlock ?_
      refine run_plain (id := 10) (ops := F3.o10) [(0, true), (1, true)] (by kernel_rfl) (by kernel_rfl) ?_
      refine yS (by kernel_rfl : opAt F3.o10 0 = some (some 37, .binOp .add 3 (.tmp 31) (.const (.int .i64 1)) 3, none)) rfl rfl (fun w' hS => val_addi rfl rfl (by omega) (by omega)) ?_
      refine yS (by kernel_rfl : opAt F3.o10 1 = some (some 31, .move (.tmp 37), none)) rfl rfl (fun w' hS => val_move rfl) ?_
      refine Sch.nil ?_
      refine kp (sub_cons 4 rfl rfl (sub_cons 5 rfl rfl (sub_cons 29 rfl rfl (sub_cons 30 rfl rfl (sub_cons 31 rfl (eq_int (by simp)) (sub_nil _)))))) (next1 (k + 1, ofl.set k (-1), C1) _ ⟨(by first | omega | (simp only; omega)), (by simp only [List.length_set]; exact hol), (fun i hi => by
          try simp only at hi ⊢
          rw [gAt_set (by omega)]
          split
          · rfl
          · exact h0 i (by omega)), hF, hT, hc, ho⟩ (by first | omega | (simp only; omega)))
    · skip
      have hkl : k = cl.length := by omega
      have hP := OfP.start (cl := cl) hol (fun i hi => h0 i (by omega))
      refine run_exit (id := 0) (by kernel_rfl) rfl ?_
      refine run_seq (x := F3.c34) (y := F3.c35) (by kernel_rfl) ?_
      refine run_plain (id := 11) (ops := F3.o11) [(0, true), (1, false), (2, true)] (by kernel_rfl) (by kernel_rfl) ?_
      refine yS (by kernel_rfl : opAt F3.o11 0 = some (some 38, .move (.tmp 4), none)) rfl rfl (fun w' hS => val_move rfl) ?_
      refine cS (by kernel_rfl : opAt F3.o11 1 = some (some 39, .call { callee := .value (.func 11), args := #[(.tmp 38)], argTypes := #[27] }, none)) rfl rfl (ent Try.call11 rfl) (groups_ok hF hc (by omega)) ?_
      rintro vgs w9 ⟨hs, hg⟩
      refine ⟨trivial, ?_⟩
      replace hF := hF.st hs
      replace hT := hT.trans hs (by simp)
      replace hc := hc.st hs (by first | decide | (simp <;> omega))
      replace ho := ho.st hs (by first | decide | (simp <;> omega)) (by first | decide | (simp <;> omega))
      obtain ⟨gs, hgs⟩ : ∃ gs, gs = grpsOf cl cl.length := ⟨_, rfl⟩
      rw [← hgs] at hg
      have hgl : gs.length = (fsts cl cl.length).length := by rw [hgs, grpsOf_len]
      have hmm : ∀ g (hh : g < gs.length), gs[g].mem = ints (mems cl cl.length g) ∧ gs[g].arr = atB cl ((fsts cl cl.length).getD g 0) := fun g hh => by subst hgs; rw [grpsOf_get]; exact ⟨rfl, rfl⟩
      have hfl := fsts_le (cl := cl) (k := cl.length)
      have hasc : ∀ a b (ha : a < gs.length) (hb : b < gs.length), a < b → gs[a].mem.headD 0 < gs[b].mem.headD 0 := by subst hgs; exact grps_lt
      clear hgs
      refine yS (by kernel_rfl : opAt F3.o11 2 = some (some 7, .assign (.tmp 39), none)) rfl rfl (fun w' hS => val_assign rfl) ?_
      refine Sch.nil ?_
      refine run_seq (x := F3.c36) (y := F3.c83) (by kernel_rfl) ?_
      refine run_seq (x := F3.c37) (y := F3.c38) (by kernel_rfl) ?_
      refine run_plain (id := 12) (ops := F3.o12) [(0, true), (1, true), (2, true)] (by kernel_rfl) (by kernel_rfl) ?_
      refine yS (by kernel_rfl : opAt F3.o12 0 = some (some 40, .move (.tmp 7), none)) rfl rfl (fun w' hS => val_move rfl) ?_
      refine yS (by kernel_rfl : opAt F3.o12 1 = some (some 41, .call { callee := .builtin .len, args := #[(.tmp 40)], argTypes := #[29] }, none)) rfl rfl (fun w' hS => hg.lenV rfl Try.underlying29 w' ) ?_
      refine yS (by kernel_rfl : opAt F3.o12 2 = some (some 42, .move (.const (.int .i64 0)), none)) rfl rfl (fun w' hS => val_move rfl) ?_
      refine Sch.nil ?_
      refine run_block (x := F3.c39) (id := 2) (by kernel_rfl) ?_
      
      refine run_loop (ι := Nat × (List Int) × (Nat → Nat)) (I := fun x w => x.1 ≤ gs.length ∧ OfP cl cl.length x.1 0 x.2.1 ∧ Lim w x.2.2 ∧ Stp [2, 3, 4, 5, 6, 7, 8, 9] w₀ (col1 C) w x.2.2 ∧ RV w (Mc x.2.2) cl v25 ∧ RV w (Mc x.2.2) gs vgs ∧ OwnL w x.2.2 4 3 v28 x.2.1) (e := fun x => [(4, v25), (5, v28), (7, vgs), (40, vgs), (41, .int .i64 gs.length), (42, .int .i64 x.1)]) (m := fun x => gs.length - x.1) (x₀ := (0, ofl, C1)) (body := F3.c40) (by kernel_rfl) (sub_cons 4 rfl rfl (sub_cons 5 rfl rfl (sub_cons 7 rfl rfl (sub_cons 40 rfl rfl (sub_cons 41 rfl rfl (sub_cons 42 rfl rfl (sub_nil _))))))) ?_ ?_
      · exact ⟨Nat.zero_le _, hP, hF, hT, hc, hg, ho⟩
      intro ⟨K, ofl, C1⟩ w10 hI next
      obtain ⟨hK, hP, hF, hT, hc, hg, ho⟩ := hI
      try simp only at hK hP hF hT hc hg ho
      have next2 := next
      clear next
      show Run _ _ _ _ [(4, v25), (5, v28), (7, vgs), (40, vgs), (41, .int .i64 gs.length), (42, .int .i64 K)] _ _
      have hol := hP.len
      refine run_seq (x := F3.c41) (y := F3.c42) (by kernel_rfl) ?_
      refine run_plain (id := 13) (ops := F3.o13) [(0, true)] (by kernel_rfl) (by kernel_rfl) ?_
      refine yS (by kernel_rfl : opAt F3.o13 0 = some (some 43, .binOp .lss 3 (.tmp 42) (.tmp 41) 3, none)) rfl rfl (fun w' hS => val_lss rfl rfl) ?_
      refine Sch.nil ?_
      refine run_seq (x := F3.c43) (y := F3.c46) (by kernel_rfl) ?_
      refine run_if (x := F3.c44) (y := F3.c45) (o := .tmp 43) (by kernel_rfl) rfl (fun h43 => ?_) (fun h43 => ?_)
      · skip
        have hKl : K < gs.length := by omega
        have hK2 : K < (fsts cl cl.length).length := by omega
        obtain ⟨em, ea⟩ := hmm K hKl
        have hg0 : 0 < gs[K].mem.length := by rw [em, ints_len]; exact mems_pos hK2
        have hmle : gs[K].mem.length ≤ cl.length := by rw [em, ints_len]; exact mems_len
        refine run_skip (by kernel_rfl) ?_
        refine run_seq (x := F3.c47) (y := F3.c82) (by kernel_rfl) ?_
        refine run_block (x := F3.c48) (id := 3) (by kernel_rfl) ?_
        refine run_seq (x := F3.c49) (y := F3.c50) (by kernel_rfl) ?_
        refine run_plain (id := 14) (ops := F3.o14) [(0, true), (1, true), (2, false), (3, false), (4, true), (5, false)] (by kernel_rfl) (by kernel_rfl) ?_
        refine yS (by kernel_rfl : opAt F3.o14 0 = some (some 44, .move (.tmp 42), none)) rfl rfl (fun w' hS => val_move rfl) ?_
        refine iS (e := 35) (by kernel_rfl : opAt F3.o14 1 = some (some 45, .indexAddr 29 (.tmp 40) (.tmp 42), none)) rfl rfl hg rfl (by kernel_rfl) rfl (by omega) (by omega) ?_
        intro b45 o45 h45
        try simp only [Int.toNat_natCast] at h45
        refine lNA (by kernel_rfl : opAt F3.o14 2 = some (some 46, .load 35 (.tmp 45), none)) rfl rfl trivial h45 (by kernel_rfl) (by kernel_rfl) rfl rfl ?_
        intro v46 g46
        obtain ⟨ug, mg, rfl, hw, hm⟩ := rv_grp.1 g46
        clear g46
        refine aS (by kernel_rfl : opAt F3.o14 3 = some (some 9, .alloc 35, none)) rfl rfl (a_alloc (cs := [.int .i64 0, .slice none 0 0, .slice none 0 0]) hF 5 (by kernel_rfl)) ?_
        rintro _ w11 ⟨Cw11, bw11, rfl, hs, hgr, hF⟩
        refine ⟨trivial, ?_⟩
        replace hT := hT.trans hs (by simp)
        replace hc := hc.st hs (by first | decide | (simp <;> omega))
        replace hg := hg.st hs (by first | decide | (simp <;> omega))
        replace ho := ho.st hs (by first | decide | (simp <;> omega)) (by first | decide | (simp <;> omega))
        replace h45 := h45.st hs (by first | decide | (simp <;> omega))
        replace hw := hw.st hs (by first | decide | (simp <;> omega))
        replace hm := hm.st hs (by first | decide | (simp <;> omega))
        refine yS (by kernel_rfl : opAt F3.o14 4 = some (some 8, .assign (.tmp 44), none)) rfl rfl (fun w' hS => val_assign rfl) ?_
        refine aN (by kernel_rfl : opAt F3.o14 5 = some (none, .store 35 (.tmp 9) (.tmp 46), none)) rfl (a_storeAll (vs := [.int .i64 gs[K].arr.len, ug, mg]) (n := 3) rfl rfl (by kernel_rfl) rfl rfl (by intro z hz; simp only [List.mem_cons, List.not_mem_nil, or_false] at hz; rcases hz with rfl | rfl | rfl <;> first | rfl | exact (hw.one rfl).2 | exact (hm.one rfl).2) hgr rfl) ?_
        rintro _ w12 ⟨rfl, hs, hgr⟩
        refine ⟨trivial, ?_⟩
        replace hF := hF.st hs
        replace hT := hT.trans hs (by simp)
        replace hc := hc.st hs (by first | decide | (simp <;> omega))
        replace hg := hg.st hs (by first | decide | (simp <;> omega))
        replace ho := ho.st hs (by first | decide | (simp <;> omega)) (by first | decide | (simp <;> omega))
        replace h45 := h45.st hs (by first | decide | (simp <;> omega))
        replace hw := hw.st hs (by first | decide | (simp <;> omega))
        replace hm := hm.st hs (by first | decide | (simp <;> omega))
        refine Sch.nil ?_
        refine run_seq (x := F3.c51) (y := F3.c58) (by kernel_rfl) ?_
        refine run_seq (x := F3.c52) (y := F3.c53) (by kernel_rfl) ?_
        refine run_cut 69 (false) (Cw11) ?_ ?_
        · intro hcut
          by_cases hA : 0 < (K : Int)
          · skip
            have hK1 : 0 < (gs[((K : Int) - 1).toNat]'(by omega)).mem.length := by
              have := hmm (((K : Int) - 1).toNat) (by omega)
              rw [this.1, ints_len]; exact mems_pos (by omega)
            refine run_draw (id := 15) (ops := F3.o15) [] (Cw11) [(0, true), (1, true), (2, true), (3, true), (4, true), (5, true), (6, true), (7, true), (8, true), (9, true), (10, true), (11, true), (12, true), (13, true), (14, true), (15, true), (16, true), (17, true), (18, true), (19, true), (20, true), (21, true), (22, true)] Try_mixed (by kernel_rfl) (by kernel_rfl) (by kernel_rfl) ?_
            intro w13 hs
            replace hF := hF.st hs
            replace hT := hT.trans hs (by simp)
            replace hc := hc.st hs (by first | decide | (simp <;> omega))
            replace hg := hg.st hs (by first | decide | (simp <;> omega))
            replace ho := ho.st hs (by first | decide | (simp <;> omega)) (by first | decide | (simp <;> omega))
            replace h45 := h45.st hs (by first | decide | (simp <;> omega))
            replace hw := hw.st hs (by first | decide | (simp <;> omega))
            replace hm := hm.st hs (by first | decide | (simp <;> omega))
            replace hgr := hgr.st hs (by first | decide | (simp <;> omega))
            have hcs := hs
            refine yS (by kernel_rfl : opAt F3.o15 0 = some (some 47, .fieldAddr 35 (.tmp 9) 1, none)) rfl rfl (fun w' hS => val_fieldAddr (off := 2) (by kernel_rfl) rfl) ?_
            refine yS (by kernel_rfl : opAt F3.o15 1 = some (some 48, .load 22 (.tmp 47), none)) rfl rfl (fun w' hS => val_loadOwn (hgr.stay hS (by decide)) (by kernel_rfl) rfl rfl) ?_
            refine yS (by kernel_rfl : opAt F3.o15 2 = some (some 49, .call { callee := .builtin .len, args := #[(.tmp 48)], argTypes := #[22] }, none)) rfl rfl (fun w' hS => hm.lenV rfl Try.underlying22 w' ) ?_
            refine yS (by kernel_rfl : opAt F3.o15 3 = some (some 50, .binOp .eql 3 (.tmp 49) (.const (.int .i64 0)) 3, none)) rfl rfl (fun w' hS => val_F (val_eql rfl rfl) (by omega)) ?_
            refine yS (by kernel_rfl : opAt F3.o15 4 = some (some 51, .move (.tmp 50), none)) rfl rfl (fun w' hS => val_move rfl) ?_
            refine yS (by kernel_rfl : opAt F3.o15 5 = some (some 52, .move (.tmp 8), (some (4, false)))) rfl rfl (fun w' hS => val_move rfl) ?_
            refine yS (by kernel_rfl : opAt F3.o15 6 = some (some 53, .binOp .gtr 3 (.tmp 52) (.const (.int .i64 0)) 3, (some (4, false)))) rfl rfl (fun w' hS => val_T (val_gtr rfl rfl) hA) ?_
            refine yS (by kernel_rfl : opAt F3.o15 7 = some (some 54, .move (.tmp 53), (some (4, false)))) rfl rfl (fun w' hS => val_move rfl) ?_
            refine yS (by kernel_rfl : opAt F3.o15 8 = some (some 55, .move (.tmp 7), (some (7, true)))) rfl rfl (fun w' hS => val_move rfl) ?_
            refine yS (by kernel_rfl : opAt F3.o15 9 = some (some 56, .move (.tmp 8), (some (7, true)))) rfl rfl (fun w' hS => val_move rfl) ?_
            refine yS (by kernel_rfl : opAt F3.o15 10 = some (some 57, .binOp .sub 3 (.tmp 56) (.const (.int .i64 1)) 3, (some (7, true)))) rfl rfl (fun w' hS => val_subi rfl rfl (by omega) (by omega)) ?_
            refine iS (e := 35) (by kernel_rfl : opAt F3.o15 11 = some (some 58, .indexAddr 29 (.tmp 55) (.tmp 57), (some (7, true)))) rfl rfl hg rfl (by kernel_rfl) rfl (by omega) (by omega) ?_
            intro b58 o58 h58
            try simp only [Int.toNat_natCast] at h58
            have h59 := RA.gmem h58
            refine yS (by kernel_rfl : opAt F3.o15 12 = some (some 59, .fieldAddr 35 (.tmp 58) 1, (some (7, true)))) rfl rfl (fun w' hS => val_fieldAddr (off := 2) (by kernel_rfl) rfl) ?_
            refine lS (by kernel_rfl : opAt F3.o15 13 = some (some 60, .load 22 (.tmp 59), (some (7, true)))) rfl rfl (fun w' hS => h59.stay hS (by first | decide | (simp <;> omega))) h59 (by kernel_rfl) rfl rfl ?_
            intro v60 g60
            refine iS (e := 3) (by kernel_rfl : opAt F3.o15 14 = some (some 61, .indexAddr 22 (.tmp 60) (.const (.int .i64 0)), (some (7, true)))) rfl rfl g60 rfl (by kernel_rfl) rfl (by omega) (by omega) ?_
            intro b61 o61 h61
            try simp only [Int.toNat_natCast] at h61
            refine lS (by kernel_rfl : opAt F3.o15 15 = some (some 62, .load 3 (.tmp 61), (some (7, true)))) rfl rfl (fun w' hS => h61.stay hS (by first | decide | (simp <;> omega))) h61 (by kernel_rfl) rfl rfl ?_
            intro v62 g62
            first | (obtain rfl := rv_nat.1 g62) | (obtain rfl := rv_int.1 g62)
            refine yS (by kernel_rfl : opAt F3.o15 16 = some (some 63, .fieldAddr 35 (.tmp 9) 1, (some (7, true)))) rfl rfl (fun w' hS => val_fieldAddr (off := 2) (by kernel_rfl) rfl) ?_
            refine yS (by kernel_rfl : opAt F3.o15 17 = some (some 64, .load 22 (.tmp 63), (some (7, true)))) rfl rfl (fun w' hS => val_loadOwn (hgr.stay hS (by decide)) (by kernel_rfl) rfl rfl) ?_
            refine iS (e := 3) (by kernel_rfl : opAt F3.o15 18 = some (some 65, .indexAddr 22 (.tmp 64) (.const (.int .i64 0)), (some (7, true)))) rfl rfl hm rfl (by kernel_rfl) rfl (by omega) (by omega) ?_
            intro b65 o65 h65
            try simp only [Int.toNat_natCast] at h65
            refine lS (by kernel_rfl : opAt F3.o15 19 = some (some 66, .load 3 (.tmp 65), (some (7, true)))) rfl rfl (fun w' hS => h65.stay hS (by first | decide | (simp <;> omega))) h65 (by kernel_rfl) rfl rfl ?_
            intro v66 g66
            first | (obtain rfl := rv_nat.1 g66) | (obtain rfl := rv_int.1 g66)
            refine yS (by kernel_rfl : opAt F3.o15 20 = some (some 67, .binOp .geq 3 (.tmp 62) (.tmp 66) 3, (some (7, true)))) rfl rfl (fun w' hS => val_F (val_geq rfl rfl) (by rw [head_at, head_at]; exact Int.not_le.2 (hasc _ _ (by omega) hKl (by omega)))) ?_
            refine yS (by kernel_rfl : opAt F3.o15 21 = some (some 68, .pick (.tmp 54) (.tmp 67) (.const (.bool false)), (some (4, false)))) rfl rfl (fun w' hS => val_pick_t rfl rfl) ?_
            refine yS (by kernel_rfl : opAt F3.o15 22 = some (some 69, .pick (.tmp 51) (.const (.bool true)) (.tmp 68), none)) rfl rfl (fun w' hS => val_pick_f rfl rfl) ?_
            exact Sch.nil (hcut _ _ _ hcs rfl (rfl) (sub_skip rfl (sub_skip rfl (sub_skip rfl (sub_skip rfl (sub_skip rfl (sub_skip rfl (sub_skip rfl (sub_skip rfl (sub_skip rfl (sub_skip rfl (sub_skip rfl (sub_skip rfl (sub_skip rfl (sub_skip rfl (sub_skip rfl (sub_skip rfl (sub_skip rfl (sub_skip rfl (sub_skip rfl (sub_skip rfl (sub_skip rfl (sub_skip rfl (sub_skip rfl (Sub.refl _)))))))))))))))))))))))))
          · skip
            refine run_draw (id := 15) (ops := F3.o15) [] (Cw11) [(0, true), (1, true), (2, true), (3, true), (4, true), (5, true), (6, true), (7, true), (8, true), (9, true), (10, true), (11, true), (12, true), (13, true), (14, true), (15, true), (16, true), (17, true), (18, true), (19, true), (20, true), (21, true), (22, true)] Try_mixed (by kernel_rfl) (by kernel_rfl) (by kernel_rfl) ?_
            intro w14 hs
            replace hF := hF.st hs
            replace hT := hT.trans hs (by simp)
            replace hc := hc.st hs (by first | decide | (simp <;> omega))
            replace hg := hg.st hs (by first | decide | (simp <;> omega))
            replace ho := ho.st hs (by first | decide | (simp <;> omega)) (by first | decide | (simp <;> omega))
            replace h45 := h45.st hs (by first | decide | (simp <;> omega))
            replace hw := hw.st hs (by first | decide | (simp <;> omega))
            replace hm := hm.st hs (by first | decide | (simp <;> omega))
            replace hgr := hgr.st hs (by first | decide | (simp <;> omega))
            have hcs := hs
            refine yS (by kernel_rfl : opAt F3.o15 0 = some (some 47, .fieldAddr 35 (.tmp 9) 1, none)) rfl rfl (fun w' hS => val_fieldAddr (off := 2) (by kernel_rfl) rfl) ?_
            refine yS (by kernel_rfl : opAt F3.o15 1 = some (some 48, .load 22 (.tmp 47), none)) rfl rfl (fun w' hS => val_loadOwn (hgr.stay hS (by decide)) (by kernel_rfl) rfl rfl) ?_
            refine yS (by kernel_rfl : opAt F3.o15 2 = some (some 49, .call { callee := .builtin .len, args := #[(.tmp 48)], argTypes := #[22] }, none)) rfl rfl (fun w' hS => hm.lenV rfl Try.underlying22 w' ) ?_
            refine yS (by kernel_rfl : opAt F3.o15 3 = some (some 50, .binOp .eql 3 (.tmp 49) (.const (.int .i64 0)) 3, none)) rfl rfl (fun w' hS => val_F (val_eql rfl rfl) (by omega)) ?_
            refine yS (by kernel_rfl : opAt F3.o15 4 = some (some 51, .move (.tmp 50), none)) rfl rfl (fun w' hS => val_move rfl) ?_
            refine yS (by kernel_rfl : opAt F3.o15 5 = some (some 52, .move (.tmp 8), (some (4, false)))) rfl rfl (fun w' hS => val_move rfl) ?_
            refine yS (by kernel_rfl : opAt F3.o15 6 = some (some 53, .binOp .gtr 3 (.tmp 52) (.const (.int .i64 0)) 3, (some (4, false)))) rfl rfl (fun w' hS => val_F (val_gtr rfl rfl) hA) ?_
            refine yS (by kernel_rfl : opAt F3.o15 7 = some (some 54, .move (.tmp 53), (some (4, false)))) rfl rfl (fun w' hS => val_move rfl) ?_
            refine pS (by kernel_rfl : opAt F3.o15 8 = some (some 55, .move (.tmp 7), (some (7, true)))) rfl rfl ?_
            refine pS (by kernel_rfl : opAt F3.o15 9 = some (some 56, .move (.tmp 8), (some (7, true)))) rfl rfl ?_
            refine pS (by kernel_rfl : opAt F3.o15 10 = some (some 57, .binOp .sub 3 (.tmp 56) (.const (.int .i64 1)) 3, (some (7, true)))) rfl rfl ?_
            refine pS (by kernel_rfl : opAt F3.o15 11 = some (some 58, .indexAddr 29 (.tmp 55) (.tmp 57), (some (7, true)))) rfl rfl ?_
            refine pS (by kernel_rfl : opAt F3.o15 12 = some (some 59, .fieldAddr 35 (.tmp 58) 1, (some (7, true)))) rfl rfl ?_
            refine pS (by kernel_rfl : opAt F3.o15 13 = some (some 60, .load 22 (.tmp 59), (some (7, true)))) rfl rfl ?_
            refine pS (by kernel_rfl : opAt F3.o15 14 = some (some 61, .indexAddr 22 (.tmp 60) (.const (.int .i64 0)), (some (7, true)))) rfl rfl ?_
            refine pS (by kernel_rfl : opAt F3.o15 15 = some (some 62, .load 3 (.tmp 61), (some (7, true)))) rfl rfl ?_
            refine pS (by kernel_rfl : opAt F3.o15 16 = some (some 63, .fieldAddr 35 (.tmp 9) 1, (some (7, true)))) rfl rfl ?_
            refine pS (by kernel_rfl : opAt F3.o15 17 = some (some 64, .load 22 (.tmp 63), (some (7, true)))) rfl rfl ?_
            refine pS (by kernel_rfl : opAt F3.o15 18 = some (some 65, .indexAddr 22 (.tmp 64) (.const (.int .i64 0)), (some (7, true)))) rfl rfl ?_
            refine pS (by kernel_rfl : opAt F3.o15 19 = some (some 66, .load 3 (.tmp 65), (some (7, true)))) rfl rfl ?_
            refine pS (by kernel_rfl : opAt F3.o15 20 = some (some 67, .binOp .geq 3 (.tmp 62) (.tmp 66) 3, (some (7, true)))) rfl rfl ?_
            refine yS (by kernel_rfl : opAt F3.o15 21 = some (some 68, .pick (.tmp 54) (.tmp 67) (.const (.bool false)), (some (4, false)))) rfl rfl (fun w' hS => val_pick_f rfl rfl) ?_
            refine yS (by kernel_rfl : opAt F3.o15 22 = some (some 69, .pick (.tmp 51) (.const (.bool true)) (.tmp 68), none)) rfl rfl (fun w' hS => val_pick_f rfl rfl) ?_
            exact Sch.nil (hcut _ _ _ hcs rfl (rfl) (sub_skip rfl (sub_skip rfl (sub_skip rfl (sub_skip rfl (sub_skip rfl (sub_skip rfl (sub_skip rfl (sub_skip rfl (sub_skip rfl (sub_skip rfl (sub_skip rfl (sub_skip rfl (sub_skip rfl (sub_skip rfl (sub_skip rfl (sub_skip rfl (sub_skip rfl (sub_skip rfl (sub_skip rfl (sub_skip rfl (sub_skip rfl (sub_skip rfl (sub_skip rfl (Sub.refl _)))))))))))))))))))))))))
        intro w15 hs
        replace hF := hF.st hs
        replace hT := hT.trans hs (by simp)
        replace hc := hc.st hs (by first | decide | (simp <;> omega))
        replace hg := hg.st hs (by first | decide | (simp <;> omega))
        replace ho := ho.st hs (by first | decide | (simp <;> omega)) (by first | decide | (simp <;> omega))
        replace h45 := h45.st hs (by first | decide | (simp <;> omega))
        replace hw := hw.st hs (by first | decide | (simp <;> omega))
        replace hm := hm.st hs (by first | decide | (simp <;> omega))
        replace hgr := hgr.st hs (by first | decide | (simp <;> omega))
        refine run_cond (x := F3.c54) (y := F3.c57) (o := .tmp 69) (b := false) (by kernel_rfl) rfl (fun h => by cases h) (fun _ => ?_)
        refine run_skip (by kernel_rfl) ?_
        refine run_seq (x := F3.c59) (y := F3.c60) (by kernel_rfl) ?_
        refine run_plain (id := 17) (ops := F3.o17) [(0, true), (1, false), (2, true), (3, true)] (by kernel_rfl) (by kernel_rfl) ?_
        refine yS (by kernel_rfl : opAt F3.o17 0 = some (some 70, .fieldAddr 35 (.tmp 9) 1, none)) rfl rfl (fun w' hS => val_fieldAddr (off := 2) (by kernel_rfl) rfl) ?_
        refine nS (by kernel_rfl : opAt F3.o17 1 = some (some 71, .load 22 (.tmp 70), none)) rfl rfl trivial (val_loadOwn hgr.at_ (by kernel_rfl) rfl rfl) ?_
        refine yS (by kernel_rfl : opAt F3.o17 2 = some (some 72, .call { callee := .builtin .len, args := #[(.tmp 71)], argTypes := #[22] }, none)) rfl rfl (fun w' hS => hm.lenV rfl Try.underlying22 w' ) ?_
        refine yS (by kernel_rfl : opAt F3.o17 3 = some (some 73, .move (.const (.int .i64 0)), none)) rfl rfl (fun w' hS => val_move rfl) ?_
        refine Sch.nil ?_
        refine run_block (x := F3.c61) (id := 4) (by kernel_rfl) ?_
        
        refine run_loop (ι := Nat × (List Int) × (Nat → Nat)) (I := fun x w => x.1 ≤ gs[K].mem.length ∧ OfP cl cl.length K x.1 x.2.1 ∧ Lim w x.2.2 ∧ Stp [2, 3, 4, 5, 6, 7, 8, 9] w₀ (col1 C) w x.2.2 ∧ RV w (Mc x.2.2) cl v25 ∧ RV w (Mc x.2.2) gs vgs ∧ OwnL w x.2.2 4 3 v28 x.2.1 ∧ OwnB w x.2.2 5 bw11 (.cells [.int .i64 gs[K].arr.len, ug, mg].toArray 35) ∧ RV w (Mc x.2.2) gs[K].arr.words ug ∧ RV w (Mc x.2.2) gs[K].mem mg) (e := fun x => [(4, v25), (5, v28), (7, vgs), (8, .int .i64 K), (9, .pointer (some ⟨bw11, 0, none⟩)), (40, vgs), (41, .int .i64 gs.length), (42, .int .i64 K), (71, mg), (72, .int .i64 gs[K].mem.length), (73, .int .i64 x.1)]) (m := fun x => gs[K].mem.length - x.1) (x₀ := (0, ofl, Cw11)) (body := F3.c62) (by kernel_rfl) (sub_cons 4 rfl rfl (sub_cons 5 rfl rfl (sub_cons 7 rfl rfl (sub_cons 8 rfl rfl (sub_cons 9 rfl rfl (sub_cons 40 rfl rfl (sub_cons 41 rfl rfl (sub_cons 42 rfl rfl (sub_cons 71 rfl rfl (sub_cons 72 rfl rfl (sub_cons 73 rfl rfl (sub_nil _)))))))))))) ?_ ?_
        · exact ⟨Nat.zero_le _, hP, hF, hT, hc, hg, ho, hgr, hw, hm⟩
        intro ⟨j, ofl, C1⟩ w16 hI next
        obtain ⟨hj, hP, hF, hT, hc, hg, ho, hgr, hw, hm⟩ := hI
        try simp only at hj hP hF hT hc hg ho hgr hw hm
        have next3 := next
        clear next
        show Run _ _ _ _ [(4, v25), (5, v28), (7, vgs), (8, .int .i64 K), (9, .pointer (some ⟨bw11, 0, none⟩)), (40, vgs), (41, .int .i64 gs.length), (42, .int .i64 K), (71, mg), (72, .int .i64 gs[K].mem.length), (73, .int .i64 j)] _ _
        have hol := hP.len
        refine run_seq (x := F3.c63) (y := F3.c64) (by kernel_rfl) ?_
        refine run_plain (id := 18) (ops := F3.o18) [(0, true)] (by kernel_rfl) (by kernel_rfl) ?_
        refine yS (by kernel_rfl : opAt F3.o18 0 = some (some 74, .binOp .lss 3 (.tmp 73) (.tmp 72) 3, none)) rfl rfl (fun w' hS => val_lss rfl rfl) ?_
        refine Sch.nil ?_
        refine run_seq (x := F3.c65) (y := F3.c68) (by kernel_rfl) ?_
        refine run_if (x := F3.c66) (y := F3.c67) (o := .tmp 74) (by kernel_rfl) rfl (fun h74 => ?_) (fun h74 => ?_)
        · skip
          have hjl : j < gs[K].mem.length := by omega
          have hj2 : j < (mems cl cl.length K).length := by rw [em, ints_len] at hjl; exact hjl
          obtain ⟨i, hi⟩ : ∃ i, i = (mems cl cl.length K)[j] := ⟨_, rfl⟩
          have hia : gs[K].mem[j] = (i : Int) := by rw [hi]; exact ints_at2 em hjl hj2
          have hfree := hP.free hK2 hj2
          rw [← hi] at hfree
          have him : i ∈ mems cl cl.length K := by rw [hi]; exact List.getElem_mem hj2
          have hin := mems_lt hK2 him
          have hie := mem_eq hK2 him
          rw [atB_at (by omega), ← ea] at hie
          have hput := hP.put hK2 hj2
          rw [← hi] at hput
          have hfr2 : ofl[i] < 0 := by rw [← gAt_in (by omega)]; exact hfree
          refine run_skip (by kernel_rfl) ?_
          refine run_seq (x := F3.c69) (y := F3.c81) (by kernel_rfl) ?_
          refine run_block (x := F3.c70) (id := 5) (by kernel_rfl) ?_
          refine run_seq (x := F3.c71) (y := F3.c72) (by kernel_rfl) ?_
          refine run_plain (id := 19) (ops := F3.o19) [(0, true), (1, false), (2, true)] (by kernel_rfl) (by kernel_rfl) ?_
          refine iS (e := 3) (by kernel_rfl : opAt F3.o19 0 = some (some 75, .indexAddr 22 (.tmp 71) (.tmp 73), none)) rfl rfl hm rfl (by kernel_rfl) rfl (by omega) (by omega) ?_
          intro b75 o75 h75
          try simp only [Int.toNat_natCast] at h75
          refine lN (by kernel_rfl : opAt F3.o19 1 = some (some 76, .load 3 (.tmp 75), none)) rfl rfl trivial h75 (by kernel_rfl) rfl rfl ?_
          intro v76 g76
          first | (obtain rfl := rv_nat.1 g76) | (obtain rfl := rv_int.1 g76)
          rw [hia]
          refine yS (by kernel_rfl : opAt F3.o19 2 = some (some 11, .assign (.tmp 76), none)) rfl rfl (fun w' hS => val_assign rfl) ?_
          refine Sch.nil ?_
          refine run_seq (x := F3.c73) (y := F3.c80) (by kernel_rfl) ?_
          refine run_seq (x := F3.c74) (y := F3.c75) (by kernel_rfl) ?_
          refine run_draw (id := 20) (ops := F3.o20) [] (C1) [(0, true), (1, true), (2, true), (3, true), (4, true), (5, true), (6, true), (7, true), (8, true), (9, true), (10, true), (11, true), (12, true), (13, true), (14, true), (15, true), (16, true), (17, true), (18, true), (19, true), (20, true), (21, true), (22, false), (23, true), (24, true)] Try_mixed (by kernel_rfl) (by kernel_rfl) (by kernel_rfl) ?_
          intro w17 hs
          replace hF := hF.st hs
          replace hT := hT.trans hs (by simp)
          replace hc := hc.st hs (by first | decide | (simp <;> omega))
          replace hg := hg.st hs (by first | decide | (simp <;> omega))
          replace ho := ho.st hs (by first | decide | (simp <;> omega)) (by first | decide | (simp <;> omega))
          replace hgr := hgr.st hs (by first | decide | (simp <;> omega))
          replace hw := hw.st hs (by first | decide | (simp <;> omega))
          replace hm := hm.st hs (by first | decide | (simp <;> omega))
          replace h75 := h75.st hs (by first | decide | (simp <;> omega))
          have hR := Stp.refl [] w17 (C1)
          refine yS (by kernel_rfl : opAt F3.o20 0 = some (some 77, .move (.tmp 11), none)) rfl rfl (fun w' hS => val_move rfl) ?_
          refine yS (by kernel_rfl : opAt F3.o20 1 = some (some 78, .binOp .lss 3 (.tmp 77) (.const (.int .i64 0)) 3, none)) rfl rfl (fun w' hS => val_F (val_lss rfl rfl) (by omega)) ?_
          refine yS (by kernel_rfl : opAt F3.o20 2 = some (some 79, .move (.tmp 78), none)) rfl rfl (fun w' hS => val_move rfl) ?_
          refine yS (by kernel_rfl : opAt F3.o20 3 = some (some 80, .move (.tmp 11), (some (2, false)))) rfl rfl (fun w' hS => val_move rfl) ?_
          refine yS (by kernel_rfl : opAt F3.o20 4 = some (some 81, .move (.tmp 5), (some (2, false)))) rfl rfl (fun w' hS => val_move rfl) ?_
          refine yS (by kernel_rfl : opAt F3.o20 5 = some (some 82, .call { callee := .builtin .len, args := #[(.tmp 81)], argTypes := #[22] }, (some (2, false)))) rfl rfl (fun w' hS => ho.lenV rfl Try.underlying22 w' ) ?_
          refine yS (by kernel_rfl : opAt F3.o20 6 = some (some 83, .binOp .geq 3 (.tmp 80) (.tmp 82) 3, (some (2, false)))) rfl rfl (fun w' hS => val_F (val_geq rfl rfl) (by omega)) ?_
          refine yS (by kernel_rfl : opAt F3.o20 7 = some (some 84, .pick (.tmp 79) (.const (.bool true)) (.tmp 83), none)) rfl rfl (fun w' hS => val_pick_f rfl rfl) ?_
          refine yS (by kernel_rfl : opAt F3.o20 8 = some (some 85, .move (.tmp 84), none)) rfl rfl (fun w' hS => val_move rfl) ?_
          refine yS (by kernel_rfl : opAt F3.o20 9 = some (some 86, .move (.tmp 5), (some (8, false)))) rfl rfl (fun w' hS => val_move rfl) ?_
          refine yS (by kernel_rfl : opAt F3.o20 10 = some (some 87, .move (.tmp 11), (some (8, false)))) rfl rfl (fun w' hS => val_move rfl) ?_
          refine oI (e' := 3) (by kernel_rfl : opAt F3.o20 11 = some (some 88, .indexAddr 22 (.tmp 86) (.tmp 87), (some (8, false)))) rfl rfl ho rfl (by kernel_rfl) rfl (by omega) (by omega) ?_
          intro g88 hg88
          try simp only [Int.toNat_natCast]
          refine oS (I := []) (by kernel_rfl : opAt F3.o20 12 = some (some 89, .load 3 (.tmp 88), (some (8, false)))) rfl rfl ho hg88 (fun w' hS => ho.stay hg88 hS (by first | decide | (simp <;> omega))) (by omega) (by kernel_rfl) rfl rfl ?_
          intro v89 g89
          try simp only [Int.toNat_natCast] at g89
          first | (obtain rfl := rv_nat.1 g89) | (obtain rfl := rv_int.1 g89)
          refine yS (by kernel_rfl : opAt F3.o20 13 = some (some 90, .binOp .geq 3 (.tmp 89) (.const (.int .i64 0)) 3, (some (8, false)))) rfl rfl (fun w' hS => val_F (val_geq rfl rfl) (by omega)) ?_
          refine yS (by kernel_rfl : opAt F3.o20 14 = some (some 91, .pick (.tmp 85) (.const (.bool true)) (.tmp 90), none)) rfl rfl (fun w' hS => val_pick_f rfl rfl) ?_
          refine yS (by kernel_rfl : opAt F3.o20 15 = some (some 92, .move (.tmp 91), none)) rfl rfl (fun w' hS => val_move rfl) ?_
          refine yS (by kernel_rfl : opAt F3.o20 16 = some (some 93, .move (.tmp 4), (some (15, false)))) rfl rfl (fun w' hS => val_move rfl) ?_
          refine yS (by kernel_rfl : opAt F3.o20 17 = some (some 94, .move (.tmp 11), (some (15, false)))) rfl rfl (fun w' hS => val_move rfl) ?_
          refine iS (e := 33) (by kernel_rfl : opAt F3.o20 18 = some (some 95, .indexAddr 27 (.tmp 93) (.tmp 94), (some (15, false)))) rfl rfl hc rfl (by kernel_rfl) rfl (by omega) (by omega) ?_
          intro b95 o95 h95
          try simp only [Int.toNat_natCast] at h95
          refine lSA (by kernel_rfl : opAt F3.o20 19 = some (some 96, .load 33 (.tmp 95), (some (15, false)))) rfl rfl (fun w' hS => h95.stay hS (by first | decide | (simp <;> omega))) h95 (by kernel_rfl) (by kernel_rfl) rfl rfl ?_
          intro v96 g96
          obtain ⟨u3, rfl, hz⟩ := rv_bits.1 g96
          clear g96
          refine yS (by kernel_rfl : opAt F3.o20 20 = some (some 97, .fieldAddr 35 (.tmp 9) 0, (some (15, false)))) rfl rfl (fun w' hS => val_fieldAddr (off := 0) (by kernel_rfl) rfl) ?_
          refine yS (by kernel_rfl : opAt F3.o20 21 = some (some 98, .load 33 (.tmp 97), (some (15, false)))) rfl rfl (fun w' hS => val_loadOwnAgg (n := 2) (vs := [.int .i64 gs[K].arr.len, ug]) (hgr.stay hS (by decide)) (by kernel_rfl) (by kernel_rfl) rfl rfl rfl) ?_
          refine cS (by kernel_rfl : opAt F3.o20 22 = some (some 99, .call { callee := .value (.func 12), args := #[(.tmp 96), (.tmp 98)], argTypes := #[33, 33] }, (some (15, false)))) rfl rfl (ent Try.call12 rfl) (refBitsCmp_ok hF hz hw) ?_
          rintro vw18 w18 ⟨c, rfl, hcc, hs⟩
          refine ⟨(hR.trans hs (by simp)).ext, ?_⟩
          replace hF := hF.st hs
          replace hT := hT.trans hs (by simp)
          replace hc := hc.st hs (by first | decide | (simp <;> omega))
          replace hg := hg.st hs (by first | decide | (simp <;> omega))
          replace ho := ho.st hs (by first | decide | (simp <;> omega)) (by first | decide | (simp <;> omega))
          replace hgr := hgr.st hs (by first | decide | (simp <;> omega))
          replace hw := hw.st hs (by first | decide | (simp <;> omega))
          replace hm := hm.st hs (by first | decide | (simp <;> omega))
          replace h75 := h75.st hs (by first | decide | (simp <;> omega))
          replace hR := hR.trans hs (by simp)
          replace h95 := h95.st hs (by first | decide | (simp <;> omega))
          replace hz := hz.st hs (by first | decide | (simp <;> omega))
          refine yS (by kernel_rfl : opAt F3.o20 23 = some (some 100, .binOp .neq 3 (.tmp 99) (.const (.int .i64 0)) 3, (some (15, false)))) rfl rfl (fun w' hS => val_F (val_neq rfl rfl) (fun e => e (hcc.2 hie))) ?_
          refine yS (by kernel_rfl : opAt F3.o20 24 = some (some 101, .pick (.tmp 92) (.const (.bool true)) (.tmp 100), none)) rfl rfl (fun w' hS => val_pick_f rfl rfl) ?_
          refine Sch.nil ?_
          refine run_cond (x := F3.c76) (y := F3.c79) (o := .tmp 101) (b := false) (by kernel_rfl) rfl (fun h => by cases h) (fun _ => ?_)
          refine run_skip (by kernel_rfl) ?_
          refine run_plain (id := 22) (ops := F3.o22) [(0, true), (1, true), (2, true), (3, true), (4, false)] (by kernel_rfl) (by kernel_rfl) ?_
          refine yS (by kernel_rfl : opAt F3.o22 0 = some (some 102, .move (.tmp 5), none)) rfl rfl (fun w' hS => val_move rfl) ?_
          refine yS (by kernel_rfl : opAt F3.o22 1 = some (some 103, .move (.tmp 11), none)) rfl rfl (fun w' hS => val_move rfl) ?_
          refine yS (by kernel_rfl : opAt F3.o22 2 = some (some 104, .move (.tmp 8), none)) rfl rfl (fun w' hS => val_move rfl) ?_
          refine oI (e' := 3) (by kernel_rfl : opAt F3.o22 3 = some (some 105, .indexAddr 22 (.tmp 102) (.tmp 103), none)) rfl rfl ho rfl (by kernel_rfl) rfl (by omega) (by omega) ?_
          intro g105 hg105
          try simp only [Int.toNat_natCast]
          refine aN (by kernel_rfl : opAt F3.o22 4 = some (none, .store 3 (.tmp 105) (.tmp 104), none)) rfl (a_storeO ho hg105 (by omega) rfl rfl (by kernel_rfl) (x0 := (K : Int)) (rv_int.2 rfl)) ?_
          rintro _ w19 ⟨rfl, hs, ho⟩
          refine ⟨trivial, ?_⟩
          replace hF := hF.st hs
          replace hT := hT.trans hs (by simp)
          replace hc := hc.st hs (by first | decide | (simp <;> omega))
          replace hg := hg.st hs (by first | decide | (simp <;> omega))
          replace hgr := hgr.st hs (by first | decide | (simp <;> omega))
          replace hw := hw.st hs (by first | decide | (simp <;> omega))
          replace hm := hm.st hs (by first | decide | (simp <;> omega))
          replace h75 := h75.st hs (by first | decide | (simp <;> omega))
          replace h95 := h95.st hs (by first | decide | (simp <;> omega))
          replace hz := hz.st hs (by first | decide | (simp <;> omega))
          refine Sch.nil ?_
          refine run_inBlock ?_
          refine run_plain (id := 23) (ops := F3.o23) [(0, true), (1, true)] (by kernel_rfl) (by kernel_rfl) ?_
          refine yS (by kernel_rfl : opAt F3.o23 0 = some (some 106, .binOp .add 3 (.tmp 73) (.const (.int .i64 1)) 3, none)) rfl rfl (fun w' hS => val_addi rfl rfl (by omega) (by omega)) ?_
          refine yS (by kernel_rfl : opAt F3.o23 1 = some (some 73, .move (.tmp 106), none)) rfl rfl (fun w' hS => val_move rfl) ?_
          refine Sch.nil ?_
          refine kp (sub_cons 4 rfl rfl (sub_cons 5 rfl rfl (sub_cons 7 rfl rfl (sub_cons 8 rfl rfl (sub_cons 9 rfl rfl (sub_cons 40 rfl rfl (sub_cons 41 rfl rfl (sub_cons 42 rfl rfl (sub_cons 71 rfl rfl (sub_cons 72 rfl rfl (sub_cons 73 rfl (eq_int (by simp)) (sub_nil _)))))))))))) (next3 (j + 1, ofl.set i K, C1) _ ⟨(by first | omega | (simp only; omega)), hput, hF, hT, hc, hg, ho, hgr, hw, hm⟩ (by first | omega | (simp only; omega)))
        · skip
          have hjl : j = gs[K].mem.length := by omega
          have hnx := hP.next (by rw [em, ints_len] at hjl; omega)
          refine run_exit (id := 4) (by kernel_rfl) rfl ?_
          refine run_inBlock ?_
          refine run_plain (id := 24) (ops := F3.o24) [(0, true), (1, true)] (by kernel_rfl) (by kernel_rfl) ?_
          refine yS (by kernel_rfl : opAt F3.o24 0 = some (some 107, .binOp .add 3 (.tmp 42) (.const (.int .i64 1)) 3, none)) rfl rfl (fun w' hS => val_addi rfl rfl (by omega) (by omega)) ?_
          refine yS (by kernel_rfl : opAt F3.o24 1 = some (some 42, .move (.tmp 107), none)) rfl rfl (fun w' hS => val_move rfl) ?_
          refine Sch.nil ?_
          refine kp (sub_cons 4 rfl rfl (sub_cons 5 rfl rfl (sub_cons 7 rfl rfl (sub_cons 40 rfl rfl (sub_cons 41 rfl rfl (sub_cons 42 rfl (eq_int (by simp)) (sub_nil _))))))) (next2 (K + 1, ofl, C1) _ ⟨(by first | omega | (simp only; omega)), hnx, hF, hT, hc, hg, ho⟩ (by first | omega | (simp only; omega)))
      · skip
        have hKl : K = gs.length := by omega
        refine run_exit (id := 2) (by kernel_rfl) rfl ?_
        refine run_seq (x := F3.c84) (y := F3.c127) (by kernel_rfl) ?_
        refine run_seq (x := F3.c85) (y := F3.c86) (by kernel_rfl) ?_
        refine run_plain (id := 25) (ops := F3.o25) [(0, true), (1, true), (2, true)] (by kernel_rfl) (by kernel_rfl) ?_
        refine yS (by kernel_rfl : opAt F3.o25 0 = some (some 108, .move (.tmp 4), none)) rfl rfl (fun w' hS => val_move rfl) ?_
        refine yS (by kernel_rfl : opAt F3.o25 1 = some (some 109, .call { callee := .builtin .len, args := #[(.tmp 108)], argTypes := #[27] }, none)) rfl rfl (fun w' hS => hc.lenV rfl Try.underlying27 w' ) ?_
        refine yS (by kernel_rfl : opAt F3.o25 2 = some (some 110, .move (.const (.int .i64 0)), none)) rfl rfl (fun w' hS => val_move rfl) ?_
        refine Sch.nil ?_
        refine run_block (x := F3.c87) (id := 6) (by kernel_rfl) ?_
        have hPf : OfP cl cl.length (fsts cl cl.length).length 0 ofl := by rw [← hgl, ← hKl]; exact hP
        refine run_loop (ι := Nat × (Nat → Nat)) (I := fun x w => x.1 ≤ cl.length ∧ Lim w x.2 ∧ Stp [2, 3, 4, 5, 6, 7, 8, 9] w₀ (col1 C) w x.2 ∧ RV w (Mc x.2) cl v25 ∧ OwnL w x.2 4 3 v28 ofl) (e := fun x => [(4, v25), (5, v28), (109, .int .i64 cl.length), (110, .int .i64 x.1)]) (m := fun x => cl.length - x.1) (x₀ := (0, C1)) (body := F3.c88) (by kernel_rfl) (sub_cons 4 rfl rfl (sub_cons 5 rfl rfl (sub_cons 109 rfl rfl (sub_cons 110 rfl rfl (sub_nil _))))) ?_ ?_
        · exact ⟨Nat.zero_le _, hF, hT, hc, ho⟩
        intro ⟨i, C1⟩ w20 hI next
        obtain ⟨hi, hF, hT, hc, ho⟩ := hI
        try simp only at hi hF hT hc ho
        have next4 := next
        clear next
        show Run _ _ _ _ [(4, v25), (5, v28), (109, .int .i64 cl.length), (110, .int .i64 i)] _ _
        refine run_seq (x := F3.c89) (y := F3.c90) (by kernel_rfl) ?_
        refine run_plain (id := 26) (ops := F3.o26) [(0, true)] (by kernel_rfl) (by kernel_rfl) ?_
        refine yS (by kernel_rfl : opAt F3.o26 0 = some (some 111, .binOp .lss 3 (.tmp 110) (.tmp 109) 3, none)) rfl rfl (fun w' hS => val_lss rfl rfl) ?_
        refine Sch.nil ?_
        refine run_seq (x := F3.c91) (y := F3.c94) (by kernel_rfl) ?_
        refine run_if (x := F3.c92) (y := F3.c93) (o := .tmp 111) (by kernel_rfl) rfl (fun h111 => ?_) (fun h111 => ?_)
        · skip
          have hil : i < cl.length := by omega
          have hvi := hPf.valid hil
          have hge := gAt_in (sz := ofl) (i := i) (by omega)
          rw [hge] at hvi
          have hci := atB_at (cl := cl) (i := i) (by omega)
          refine run_skip (by kernel_rfl) ?_
          refine run_seq (x := F3.c95) (y := F3.c126) (by kernel_rfl) ?_
          refine run_block (x := F3.c96) (id := 7) (by kernel_rfl) ?_
          refine run_seq (x := F3.c97) (y := F3.c98) (by kernel_rfl) ?_
          refine run_plain (id := 27) (ops := F3.o27) [(0, true), (1, true)] (by kernel_rfl) (by kernel_rfl) ?_
          refine yS (by kernel_rfl : opAt F3.o27 0 = some (some 112, .move (.tmp 110), none)) rfl rfl (fun w' hS => val_move rfl) ?_
          refine yS (by kernel_rfl : opAt F3.o27 1 = some (some 12, .assign (.tmp 112), none)) rfl rfl (fun w' hS => val_assign rfl) ?_
          refine Sch.nil ?_
          refine run_seq (x := F3.c99) (y := F3.c119) (by kernel_rfl) ?_
          refine run_seq (x := F3.c100) (y := F3.c101) (by kernel_rfl) ?_
          refine run_plain (id := 28) (ops := F3.o28) [(0, true)] (by kernel_rfl) (by kernel_rfl) ?_
          refine yS (by kernel_rfl : opAt F3.o28 0 = some (some 13, .assign (.const (.int .i64 0)), none)) rfl rfl (fun w' hS => val_assign rfl) ?_
          refine Sch.nil ?_
          refine run_block (x := F3.c102) (id := 8) (by kernel_rfl) ?_
          
          refine run_loop (ι := Nat × (Nat → Nat)) (I := fun x w => x.1 ≤ i ∧ Lim w x.2 ∧ Stp [2, 3, 4, 5, 6, 7, 8, 9] w₀ (col1 C) w x.2 ∧ RV w (Mc x.2) cl v25 ∧ OwnL w x.2 4 3 v28 ofl) (e := fun x => [(4, v25), (5, v28), (12, .int .i64 i), (13, .int .i64 x.1), (109, .int .i64 cl.length), (110, .int .i64 i)]) (m := fun x => i - x.1) (x₀ := (0, C1)) (body := F3.c103) (by kernel_rfl) (sub_cons 4 rfl rfl (sub_cons 5 rfl rfl (sub_cons 12 rfl rfl (sub_cons 13 rfl rfl (sub_cons 109 rfl rfl (sub_cons 110 rfl rfl (sub_nil _))))))) ?_ ?_
          · exact ⟨Nat.zero_le _, hF, hT, hc, ho⟩
          intro ⟨k, C1⟩ w21 hI next
          obtain ⟨hk, hF, hT, hc, ho⟩ := hI
          try simp only at hk hF hT hc ho
          have next5 := next
          clear next
          show Run _ _ _ _ [(4, v25), (5, v28), (12, .int .i64 i), (13, .int .i64 k), (109, .int .i64 cl.length), (110, .int .i64 i)] _ _
          refine run_seq (x := F3.c104) (y := F3.c109) (by kernel_rfl) ?_
          refine run_seq (x := F3.c105) (y := F3.c106) (by kernel_rfl) ?_
          refine run_plain (id := 29) (ops := F3.o29) [(0, true), (1, true), (2, true)] (by kernel_rfl) (by kernel_rfl) ?_
          refine yS (by kernel_rfl : opAt F3.o29 0 = some (some 113, .move (.tmp 13), none)) rfl rfl (fun w' hS => val_move rfl) ?_
          refine yS (by kernel_rfl : opAt F3.o29 1 = some (some 114, .move (.tmp 12), none)) rfl rfl (fun w' hS => val_move rfl) ?_
          refine yS (by kernel_rfl : opAt F3.o29 2 = some (some 115, .binOp .lss 3 (.tmp 113) (.tmp 114) 3, none)) rfl rfl (fun w' hS => val_lss rfl rfl) ?_
          refine Sch.nil ?_
          refine run_if (x := F3.c107) (y := F3.c108) (o := .tmp 115) (by kernel_rfl) rfl (fun h115 => ?_) (fun h115 => ?_)
          · skip
            have hki : k < i := by omega
            have hck := atB_at (cl := cl) (i := k) (by omega)
            have hgk := gAt_in (sz := ofl) (i := k) (by omega)
            refine run_skip (by kernel_rfl) ?_
            refine run_seq (x := F3.c110) (y := F3.c118) (by kernel_rfl) ?_
            refine run_block (x := F3.c111) (id := 9) (by kernel_rfl) ?_
            refine run_seq (x := F3.c112) (y := F3.c113) (by kernel_rfl) ?_
            refine run_cut 144 (false) (C1) ?_ ?_
            · intro hcut
              by_cases hA : 0 ≤ ofl[i]
              · skip
                have hsm := hPf.same (k := k) hil (by omega) (by rw [hge]; exact hA)
                rw [hge, hgk, hci, hck] at hsm
                refine run_draw (id := 31) (ops := F3.o31) [] (C1) [(0, true), (1, true), (2, true), (3, true), (4, true), (5, true), (6, true), (7, true), (8, true), (9, true), (10, true), (11, true), (12, true), (13, true), (14, true), (15, true), (16, true), (17, true), (18, true), (19, true), (20, true), (21, true), (22, true), (23, false), (24, true), (25, true), (26, true)] Try_mixed (by kernel_rfl) (by kernel_rfl) (by kernel_rfl) ?_
                intro w22 hs
                replace hF := hF.st hs
                replace hT := hT.trans hs (by simp)
                replace hc := hc.st hs (by first | decide | (simp <;> omega))
                replace ho := ho.st hs (by first | decide | (simp <;> omega)) (by first | decide | (simp <;> omega))
                have hcs := hs
                have hR := Stp.refl [] w22 (C1)
                refine yS (by kernel_rfl : opAt F3.o31 0 = some (some 118, .move (.tmp 5), none)) rfl rfl (fun w' hS => val_move rfl) ?_
                refine yS (by kernel_rfl : opAt F3.o31 1 = some (some 119, .move (.tmp 12), none)) rfl rfl (fun w' hS => val_move rfl) ?_
                refine oI (e' := 3) (by kernel_rfl : opAt F3.o31 2 = some (some 120, .indexAddr 22 (.tmp 118) (.tmp 119), none)) rfl rfl ho rfl (by kernel_rfl) rfl (by omega) (by omega) ?_
                intro g120 hg120
                try simp only [Int.toNat_natCast]
                refine oS (I := []) (by kernel_rfl : opAt F3.o31 3 = some (some 121, .load 3 (.tmp 120), none)) rfl rfl ho hg120 (fun w' hS => ho.stay hg120 hS (by first | decide | (simp <;> omega))) (by omega) (by kernel_rfl) rfl rfl ?_
                intro v121 g121
                try simp only [Int.toNat_natCast] at g121
                first | (obtain rfl := rv_nat.1 g121) | (obtain rfl := rv_int.1 g121)
                refine yS (by kernel_rfl : opAt F3.o31 4 = some (some 122, .binOp .geq 3 (.tmp 121) (.const (.int .i64 0)) 3, none)) rfl rfl (fun w' hS => val_T (val_geq rfl rfl) hA) ?_
                refine yS (by kernel_rfl : opAt F3.o31 5 = some (some 123, .move (.tmp 122), none)) rfl rfl (fun w' hS => val_move rfl) ?_
                refine yS (by kernel_rfl : opAt F3.o31 6 = some (some 124, .move (.tmp 5), (some (5, true)))) rfl rfl (fun w' hS => val_move rfl) ?_
                refine yS (by kernel_rfl : opAt F3.o31 7 = some (some 125, .move (.tmp 12), (some (5, true)))) rfl rfl (fun w' hS => val_move rfl) ?_
                refine oI (e' := 3) (by kernel_rfl : opAt F3.o31 8 = some (some 126, .indexAddr 22 (.tmp 124) (.tmp 125), (some (5, true)))) rfl rfl ho rfl (by kernel_rfl) rfl (by omega) (by omega) ?_
                intro g126 hg126
                try simp only [Int.toNat_natCast]
                refine oS (I := []) (by kernel_rfl : opAt F3.o31 9 = some (some 127, .load 3 (.tmp 126), (some (5, true)))) rfl rfl ho hg126 (fun w' hS => ho.stay hg126 hS (by first | decide | (simp <;> omega))) (by omega) (by kernel_rfl) rfl rfl ?_
                intro v127 g127
                try simp only [Int.toNat_natCast] at g127
                first | (obtain rfl := rv_nat.1 g127) | (obtain rfl := rv_int.1 g127)
                refine yS (by kernel_rfl : opAt F3.o31 10 = some (some 128, .move (.tmp 5), (some (5, true)))) rfl rfl (fun w' hS => val_move rfl) ?_
                refine yS (by kernel_rfl : opAt F3.o31 11 = some (some 129, .move (.tmp 13), (some (5, true)))) rfl rfl (fun w' hS => val_move rfl) ?_
                refine oI (e' := 3) (by kernel_rfl : opAt F3.o31 12 = some (some 130, .indexAddr 22 (.tmp 128) (.tmp 129), (some (5, true)))) rfl rfl ho rfl (by kernel_rfl) rfl (by omega) (by omega) ?_
                intro g130 hg130
                try simp only [Int.toNat_natCast]
                refine oS (I := []) (by kernel_rfl : opAt F3.o31 13 = some (some 131, .load 3 (.tmp 130), (some (5, true)))) rfl rfl ho hg130 (fun w' hS => ho.stay hg130 hS (by first | decide | (simp <;> omega))) (by omega) (by kernel_rfl) rfl rfl ?_
                intro v131 g131
                try simp only [Int.toNat_natCast] at g131
                first | (obtain rfl := rv_nat.1 g131) | (obtain rfl := rv_int.1 g131)
                refine yS (by kernel_rfl : opAt F3.o31 14 = some (some 132, .binOp .eql 3 (.tmp 127) (.tmp 131) 3, (some (5, true)))) rfl rfl (fun w' hS => val_eql rfl rfl) ?_
                refine yS (by kernel_rfl : opAt F3.o31 15 = some (some 133, .move (.tmp 4), (some (5, true)))) rfl rfl (fun w' hS => val_move rfl) ?_
                refine yS (by kernel_rfl : opAt F3.o31 16 = some (some 134, .move (.tmp 12), (some (5, true)))) rfl rfl (fun w' hS => val_move rfl) ?_
                refine iS (e := 33) (by kernel_rfl : opAt F3.o31 17 = some (some 135, .indexAddr 27 (.tmp 133) (.tmp 134), (some (5, true)))) rfl rfl hc rfl (by kernel_rfl) rfl (by omega) (by omega) ?_
                intro b135 o135 h135
                try simp only [Int.toNat_natCast] at h135
                refine lSA (by kernel_rfl : opAt F3.o31 18 = some (some 136, .load 33 (.tmp 135), (some (5, true)))) rfl rfl (fun w' hS => h135.stay hS (by first | decide | (simp <;> omega))) h135 (by kernel_rfl) (by kernel_rfl) rfl rfl ?_
                intro v136 g136
                obtain ⟨u1, rfl, hw1⟩ := rv_bits.1 g136
                clear g136
                refine yS (by kernel_rfl : opAt F3.o31 19 = some (some 137, .move (.tmp 4), (some (5, true)))) rfl rfl (fun w' hS => val_move rfl) ?_
                refine yS (by kernel_rfl : opAt F3.o31 20 = some (some 138, .move (.tmp 13), (some (5, true)))) rfl rfl (fun w' hS => val_move rfl) ?_
                refine iS (e := 33) (by kernel_rfl : opAt F3.o31 21 = some (some 139, .indexAddr 27 (.tmp 137) (.tmp 138), (some (5, true)))) rfl rfl hc rfl (by kernel_rfl) rfl (by omega) (by omega) ?_
                intro b139 o139 h139
                try simp only [Int.toNat_natCast] at h139
                refine lSA (by kernel_rfl : opAt F3.o31 22 = some (some 140, .load 33 (.tmp 139), (some (5, true)))) rfl rfl (fun w' hS => h139.stay hS (by first | decide | (simp <;> omega))) h139 (by kernel_rfl) (by kernel_rfl) rfl rfl ?_
                intro v140 g140
                obtain ⟨u2, rfl, hw2⟩ := rv_bits.1 g140
                clear g140
                refine cS (by kernel_rfl : opAt F3.o31 23 = some (some 141, .call { callee := .value (.func 12), args := #[(.tmp 136), (.tmp 140)], argTypes := #[33, 33] }, (some (5, true)))) rfl rfl (ent Try.call12 rfl) (refBitsCmp_ok hF hw1 hw2) ?_
                rintro vw23 w23 ⟨c, rfl, hcc, hs⟩
                refine ⟨(hR.trans hs (by simp)).ext, ?_⟩
                replace hF := hF.st hs
                replace hT := hT.trans hs (by simp)
                replace hc := hc.st hs (by first | decide | (simp <;> omega))
                replace ho := ho.st hs (by first | decide | (simp <;> omega)) (by first | decide | (simp <;> omega))
                replace hcs := hcs.trans hs (by simp)
                replace hR := hR.trans hs (by simp)
                replace h135 := h135.st hs (by first | decide | (simp <;> omega))
                replace hw1 := hw1.st hs (by first | decide | (simp <;> omega))
                replace h139 := h139.st hs (by first | decide | (simp <;> omega))
                replace hw2 := hw2.st hs (by first | decide | (simp <;> omega))
                refine yS (by kernel_rfl : opAt F3.o31 24 = some (some 142, .binOp .eql 3 (.tmp 141) (.const (.int .i64 0)) 3, (some (5, true)))) rfl rfl (fun w' hS => val_eql rfl rfl) ?_
                refine yS (by kernel_rfl : opAt F3.o31 25 = some (some 143, .binOp .neq 4 (.tmp 132) (.tmp 142) 4, (some (5, true)))) rfl rfl (fun w' hS => val_F (val_neqB Try.underlying4 rfl rfl) (fun e => e (decide_eq_decide.2 (hsm.trans hcc.symm)))) ?_
                refine yS (by kernel_rfl : opAt F3.o31 26 = some (some 144, .pick (.tmp 123) (.tmp 143) (.const (.bool false)), none)) rfl rfl (fun w' hS => val_pick_t rfl rfl) ?_
                exact Sch.nil (hcut _ _ _ hcs rfl (rfl) (sub_skip rfl (sub_skip rfl (sub_skip rfl (sub_skip rfl (sub_skip rfl (sub_skip rfl (sub_skip rfl (sub_skip rfl (sub_skip rfl (sub_skip rfl (sub_skip rfl (sub_skip rfl (sub_skip rfl (sub_skip rfl (sub_skip rfl (sub_skip rfl (sub_skip rfl (sub_skip rfl (sub_skip rfl (sub_skip rfl (sub_skip rfl (sub_skip rfl (sub_skip rfl (sub_skip rfl (sub_skip rfl (sub_skip rfl (sub_skip rfl (Sub.refl _)))))))))))))))))))))))))))))
              · skip
                refine run_draw (id := 31) (ops := F3.o31) [] (C1) [(0, true), (1, true), (2, true), (3, true), (4, true), (5, true), (6, true), (7, true), (8, true), (9, true), (10, true), (11, true), (12, true), (13, true), (14, true), (15, true), (16, true), (17, true), (18, true), (19, true), (20, true), (21, true), (22, true), (23, false), (24, true), (25, true), (26, true)] Try_mixed (by kernel_rfl) (by kernel_rfl) (by kernel_rfl) ?_
                intro w24 hs
                replace hF := hF.st hs
                replace hT := hT.trans hs (by simp)
                replace hc := hc.st hs (by first | decide | (simp <;> omega))
                replace ho := ho.st hs (by first | decide | (simp <;> omega)) (by first | decide | (simp <;> omega))
                have hcs := hs
                have hR := Stp.refl [] w24 (C1)
                refine yS (by kernel_rfl : opAt F3.o31 0 = some (some 118, .move (.tmp 5), none)) rfl rfl (fun w' hS => val_move rfl) ?_
                refine yS (by kernel_rfl : opAt F3.o31 1 = some (some 119, .move (.tmp 12), none)) rfl rfl (fun w' hS => val_move rfl) ?_
                refine oI (e' := 3) (by kernel_rfl : opAt F3.o31 2 = some (some 120, .indexAddr 22 (.tmp 118) (.tmp 119), none)) rfl rfl ho rfl (by kernel_rfl) rfl (by omega) (by omega) ?_
                intro g120 hg120
                try simp only [Int.toNat_natCast]
                refine oS (I := []) (by kernel_rfl : opAt F3.o31 3 = some (some 121, .load 3 (.tmp 120), none)) rfl rfl ho hg120 (fun w' hS => ho.stay hg120 hS (by first | decide | (simp <;> omega))) (by omega) (by kernel_rfl) rfl rfl ?_
                intro v121 g121
                try simp only [Int.toNat_natCast] at g121
                first | (obtain rfl := rv_nat.1 g121) | (obtain rfl := rv_int.1 g121)
                refine yS (by kernel_rfl : opAt F3.o31 4 = some (some 122, .binOp .geq 3 (.tmp 121) (.const (.int .i64 0)) 3, none)) rfl rfl (fun w' hS => val_F (val_geq rfl rfl) hA) ?_
                refine yS (by kernel_rfl : opAt F3.o31 5 = some (some 123, .move (.tmp 122), none)) rfl rfl (fun w' hS => val_move rfl) ?_
                refine pS (by kernel_rfl : opAt F3.o31 6 = some (some 124, .move (.tmp 5), (some (5, true)))) rfl rfl ?_
                refine pS (by kernel_rfl : opAt F3.o31 7 = some (some 125, .move (.tmp 12), (some (5, true)))) rfl rfl ?_
                refine pS (by kernel_rfl : opAt F3.o31 8 = some (some 126, .indexAddr 22 (.tmp 124) (.tmp 125), (some (5, true)))) rfl rfl ?_
                refine pS (by kernel_rfl : opAt F3.o31 9 = some (some 127, .load 3 (.tmp 126), (some (5, true)))) rfl rfl ?_
                refine pS (by kernel_rfl : opAt F3.o31 10 = some (some 128, .move (.tmp 5), (some (5, true)))) rfl rfl ?_
                refine pS (by kernel_rfl : opAt F3.o31 11 = some (some 129, .move (.tmp 13), (some (5, true)))) rfl rfl ?_
                refine pS (by kernel_rfl : opAt F3.o31 12 = some (some 130, .indexAddr 22 (.tmp 128) (.tmp 129), (some (5, true)))) rfl rfl ?_
                refine pS (by kernel_rfl : opAt F3.o31 13 = some (some 131, .load 3 (.tmp 130), (some (5, true)))) rfl rfl ?_
                refine pS (by kernel_rfl : opAt F3.o31 14 = some (some 132, .binOp .eql 3 (.tmp 127) (.tmp 131) 3, (some (5, true)))) rfl rfl ?_
                refine pS (by kernel_rfl : opAt F3.o31 15 = some (some 133, .move (.tmp 4), (some (5, true)))) rfl rfl ?_
                refine pS (by kernel_rfl : opAt F3.o31 16 = some (some 134, .move (.tmp 12), (some (5, true)))) rfl rfl ?_
                refine pS (by kernel_rfl : opAt F3.o31 17 = some (some 135, .indexAddr 27 (.tmp 133) (.tmp 134), (some (5, true)))) rfl rfl ?_
                refine pS (by kernel_rfl : opAt F3.o31 18 = some (some 136, .load 33 (.tmp 135), (some (5, true)))) rfl rfl ?_
                refine pS (by kernel_rfl : opAt F3.o31 19 = some (some 137, .move (.tmp 4), (some (5, true)))) rfl rfl ?_
                refine pS (by kernel_rfl : opAt F3.o31 20 = some (some 138, .move (.tmp 13), (some (5, true)))) rfl rfl ?_
                refine pS (by kernel_rfl : opAt F3.o31 21 = some (some 139, .indexAddr 27 (.tmp 137) (.tmp 138), (some (5, true)))) rfl rfl ?_
                refine pS (by kernel_rfl : opAt F3.o31 22 = some (some 140, .load 33 (.tmp 139), (some (5, true)))) rfl rfl ?_
                refine pW (by kernel_rfl : opAt F3.o31 23 = some (some 141, .call { callee := .value (.func 12), args := #[(.tmp 136), (.tmp 140)], argTypes := #[33, 33] }, (some (5, true)))) rfl rfl hR.ext ?_
                refine pS (by kernel_rfl : opAt F3.o31 24 = some (some 142, .binOp .eql 3 (.tmp 141) (.const (.int .i64 0)) 3, (some (5, true)))) rfl rfl ?_
                refine pS (by kernel_rfl : opAt F3.o31 25 = some (some 143, .binOp .neq 4 (.tmp 132) (.tmp 142) 4, (some (5, true)))) rfl rfl ?_
                refine yS (by kernel_rfl : opAt F3.o31 26 = some (some 144, .pick (.tmp 123) (.tmp 143) (.const (.bool false)), none)) rfl rfl (fun w' hS => val_pick_f rfl rfl) ?_
                exact Sch.nil (hcut _ _ _ hcs rfl (rfl) (sub_skip rfl (sub_skip rfl (sub_skip rfl (sub_skip rfl (sub_skip rfl (sub_skip rfl (sub_skip rfl (sub_skip rfl (sub_skip rfl (sub_skip rfl (sub_skip rfl (sub_skip rfl (sub_skip rfl (sub_skip rfl (sub_skip rfl (sub_skip rfl (sub_skip rfl (sub_skip rfl (sub_skip rfl (sub_skip rfl (sub_skip rfl (sub_skip rfl (sub_skip rfl (sub_skip rfl (sub_skip rfl (sub_skip rfl (sub_skip rfl (Sub.refl _)))))))))))))))))))))))))))))
            intro w25 hs
            replace hF := hF.st hs
            replace hT := hT.trans hs (by simp)
            replace hc := hc.st hs (by first | decide | (simp <;> omega))
            replace ho := ho.st hs (by first | decide | (simp <;> omega)) (by first | decide | (simp <;> omega))
            refine run_cond (x := F3.c114) (y := F3.c117) (o := .tmp 144) (b := false) (by kernel_rfl) rfl (fun h => by cases h) (fun _ => ?_)
            refine run_skip (by kernel_rfl) ?_
            refine run_inBlock ?_
            refine run_plain (id := 30) (ops := F3.o30) [(0, true), (1, true), (2, true)] (by kernel_rfl) (by kernel_rfl) ?_
            refine yS (by kernel_rfl : opAt F3.o30 0 = some (some 116, .move (.tmp 13), none)) rfl rfl (fun w' hS => val_move rfl) ?_
            refine yS (by kernel_rfl : opAt F3.o30 1 = some (some 117, .binOp .add 3 (.tmp 116) (.const (.int .i64 1)) 3, none)) rfl rfl (fun w' hS => val_addi rfl rfl (by omega) (by omega)) ?_
            refine yS (by kernel_rfl : opAt F3.o30 2 = some (some 13, .assign (.tmp 117), none)) rfl rfl (fun w' hS => val_assign rfl) ?_
            refine Sch.nil ?_
            refine kp (sub_cons 4 rfl rfl (sub_cons 5 rfl rfl (sub_cons 12 rfl rfl (sub_cons 13 rfl (eq_int (by simp)) (sub_cons 109 rfl rfl (sub_cons 110 rfl rfl (sub_nil _))))))) (next5 (k + 1, C1) _ ⟨(by first | omega | (simp only; omega)), hF, hT, hc, ho⟩ (by first | omega | (simp only; omega)))
          · skip
            have hki : k = i := by omega
            refine run_exit (id := 8) (by kernel_rfl) rfl ?_
            refine run_seq (x := F3.c120) (y := F3.c121) (by kernel_rfl) ?_
            refine run_draw (id := 33) (ops := F3.o33) [] (C1) [(0, true), (1, true), (2, true), (3, true), (4, true), (5, true), (6, true), (7, true), (8, true), (9, false), (10, true)] Try_mixed (by kernel_rfl) (by kernel_rfl) (by kernel_rfl) ?_
            intro w26 hs
            replace hF := hF.st hs
            replace hT := hT.trans hs (by simp)
            replace hc := hc.st hs (by first | decide | (simp <;> omega))
            replace ho := ho.st hs (by first | decide | (simp <;> omega)) (by first | decide | (simp <;> omega))
            have hR := Stp.refl [] w26 (C1)
            refine yS (by kernel_rfl : opAt F3.o33 0 = some (some 145, .move (.tmp 5), none)) rfl rfl (fun w' hS => val_move rfl) ?_
            refine yS (by kernel_rfl : opAt F3.o33 1 = some (some 146, .move (.tmp 12), none)) rfl rfl (fun w' hS => val_move rfl) ?_
            refine oI (e' := 3) (by kernel_rfl : opAt F3.o33 2 = some (some 147, .indexAddr 22 (.tmp 145) (.tmp 146), none)) rfl rfl ho rfl (by kernel_rfl) rfl (by omega) (by omega) ?_
            intro g147 hg147
            try simp only [Int.toNat_natCast]
            refine oS (I := []) (by kernel_rfl : opAt F3.o33 3 = some (some 148, .load 3 (.tmp 147), none)) rfl rfl ho hg147 (fun w' hS => ho.stay hg147 hS (by first | decide | (simp <;> omega))) (by omega) (by kernel_rfl) rfl rfl ?_
            intro v148 g148
            try simp only [Int.toNat_natCast] at g148
            first | (obtain rfl := rv_nat.1 g148) | (obtain rfl := rv_int.1 g148)
            refine yS (by kernel_rfl : opAt F3.o33 4 = some (some 149, .binOp .geq 3 (.tmp 148) (.const (.int .i64 0)) 3, none)) rfl rfl (fun w' hS => val_geq rfl rfl) ?_
            refine yS (by kernel_rfl : opAt F3.o33 5 = some (some 150, .move (.tmp 4), none)) rfl rfl (fun w' hS => val_move rfl) ?_
            refine yS (by kernel_rfl : opAt F3.o33 6 = some (some 151, .move (.tmp 12), none)) rfl rfl (fun w' hS => val_move rfl) ?_
            refine iS (e := 33) (by kernel_rfl : opAt F3.o33 7 = some (some 152, .indexAddr 27 (.tmp 150) (.tmp 151), none)) rfl rfl hc rfl (by kernel_rfl) rfl (by omega) (by omega) ?_
            intro b152 o152 h152
            try simp only [Int.toNat_natCast] at h152
            refine lSA (by kernel_rfl : opAt F3.o33 8 = some (some 153, .load 33 (.tmp 152), none)) rfl rfl (fun w' hS => h152.stay hS (by first | decide | (simp <;> omega))) h152 (by kernel_rfl) (by kernel_rfl) rfl rfl ?_
            intro v153 g153
            obtain ⟨u1, rfl, hw1⟩ := rv_bits.1 g153
            clear g153
            refine cS (by kernel_rfl : opAt F3.o33 9 = some (some 154, .call { callee := .value (.func 13), args := #[(.tmp 153)], argTypes := #[33] }, none)) rfl rfl (ent Try.call13 rfl) (refValid_ok (x := cl[i]) hF hw1) ?_
            rintro vw27 w27 ⟨rfl, hs⟩
            refine ⟨(hR.trans hs (by simp)).ext, ?_⟩
            replace hF := hF.st hs
            replace hT := hT.trans hs (by simp)
            replace hc := hc.st hs (by first | decide | (simp <;> omega))
            replace ho := ho.st hs (by first | decide | (simp <;> omega)) (by first | decide | (simp <;> omega))
            replace hR := hR.trans hs (by simp)
            replace h152 := h152.st hs (by first | decide | (simp <;> omega))
            replace hw1 := hw1.st hs (by first | decide | (simp <;> omega))
            refine yS (by kernel_rfl : opAt F3.o33 10 = some (some 155, .binOp .neq 4 (.tmp 149) (.tmp 154) 4, none)) rfl rfl (fun w' hS => val_F (val_neqB Try.underlying4 rfl rfl) (fun e => e ((by rw [← hci]; exact Bool.eq_iff_iff.2 ((decide_eq_true_iff).trans hvi))))) ?_
            refine Sch.nil ?_
            refine run_cond (x := F3.c122) (y := F3.c125) (o := .tmp 155) (b := false) (by kernel_rfl) rfl (fun h => by cases h) (fun _ => ?_)
            refine run_skip (by kernel_rfl) ?_
            refine run_inBlock ?_
            refine run_plain (id := 35) (ops := F3.o35) [(0, true), (1, true)] (by kernel_rfl) (by kernel_rfl) ?_
            refine yS (by kernel_rfl : opAt F3.o35 0 = some (some 156, .binOp .add 3 (.tmp 110) (.const (.int .i64 1)) 3, none)) rfl rfl (fun w' hS => val_addi rfl rfl (by omega) (by omega)) ?_
            refine yS (by kernel_rfl : opAt F3.o35 1 = some (some 110, .move (.tmp 156), none)) rfl rfl (fun w' hS => val_move rfl) ?_
            refine Sch.nil ?_
            refine kp (sub_cons 4 rfl rfl (sub_cons 5 rfl rfl (sub_cons 109 rfl rfl (sub_cons 110 rfl (eq_int (by simp)) (sub_nil _))))) (next4 (i + 1, C1) _ ⟨(by first | omega | (simp only; omega)), hF, hT, hc, ho⟩ (by first | omega | (simp only; omega)))
        · skip
          refine run_exit (id := 6) (by kernel_rfl) rfl ?_
          refine run_seq (x := F3.c128) (y := F3.c129) (by kernel_rfl) ?_
          refine run_plain (id := 36) (ops := F3.o36) [(0, true)] (by kernel_rfl) (by kernel_rfl) ?_
          refine yS (by kernel_rfl : opAt F3.o36 0 = some (some 2, .assign (.const (.bool true)), none)) rfl rfl (fun w' hS => val_assign rfl) ?_
          refine Sch.nil ?_
          refine run_ret1 (by kernel_rfl) Try.func3 Try.results3 rfl ?_
          exact ⟨rfl, hT.out1 (by decide)⟩
namespace F3B
noncomputable def c0 : Code := bodyOf Try.f3
noncomputable def c1 : Code := cl c0
noncomputable def o0 : Array Oper := rops c1
noncomputable def c2 : Code := cr c0
noncomputable def c3 : Code := cl c2
noncomputable def c4 : Code := cl c3
noncomputable def o1 : Array Oper := rops c4
noncomputable def c5 : Code := cr c3
noncomputable def c6 : Code := cl c5
noncomputable def c7 : Code := cl c6
noncomputable def o2 : Array Oper := rops c7
noncomputable def c8 : Code := cr c6
noncomputable def c9 : Code := cr c5
noncomputable def c10 : Code := cr c2
noncomputable def c11 : Code := cl c10
noncomputable def o3 : Array Oper := rops c11
noncomputable def c12 : Code := cr c10
noncomputable def c13 : Code := cl c12
noncomputable def o4 : Array Oper := rops c13
noncomputable def c14 : Code := cr c12
noncomputable def c15 : Code := cl c14
noncomputable def o5 : Array Oper := rops c15
noncomputable def c16 : Code := cr c14
noncomputable def c17 : Code := cl c16
noncomputable def c18 : Code := cl c17
noncomputable def o6 : Array Oper := rops c18
noncomputable def c19 : Code := cr c17
noncomputable def c20 : Code := cl c19
noncomputable def c21 : Code := cl c20
noncomputable def c22 : Code := cl c21
noncomputable def o7 : Array Oper := rops c22
noncomputable def c23 : Code := cr c21
noncomputable def c24 : Code := cl c23
noncomputable def c25 : Code := cl c24
noncomputable def c26 : Code := cr c24
noncomputable def c27 : Code := cr c23
noncomputable def c28 : Code := cl c27
noncomputable def c29 : Code := cl c28
noncomputable def c30 : Code := cl c29
noncomputable def o8 : Array Oper := rops c30
noncomputable def c31 : Code := cr c29
noncomputable def o9 : Array Oper := rops c31
noncomputable def c32 : Code := cr c27
noncomputable def o10 : Array Oper := rops c32
noncomputable def c33 : Code := cr c16
noncomputable def c34 : Code := cl c33
noncomputable def o11 : Array Oper := rops c34
noncomputable def c35 : Code := cr c33
noncomputable def c36 : Code := cl c35
noncomputable def c37 : Code := cl c36
noncomputable def o12 : Array Oper := rops c37
noncomputable def c38 : Code := cr c36
noncomputable def c39 : Code := cl c38
noncomputable def c40 : Code := cl c39
noncomputable def c41 : Code := cl c40
noncomputable def o13 : Array Oper := rops c41
noncomputable def c42 : Code := cr c40
noncomputable def c43 : Code := cl c42
noncomputable def c44 : Code := cl c43
noncomputable def c45 : Code := cr c43
noncomputable def c46 : Code := cr c42
noncomputable def c47 : Code := cl c46
noncomputable def c48 : Code := cl c47
noncomputable def c49 : Code := cl c48
noncomputable def o14 : Array Oper := rops c49
noncomputable def c50 : Code := cr c48
noncomputable def c51 : Code := cl c50
noncomputable def c52 : Code := cl c51
noncomputable def o15 : Array Oper := rops c52
noncomputable def c53 : Code := cr c51
noncomputable def c54 : Code := cl c53
noncomputable def c55 : Code := cl c54
noncomputable def o16 : Array Oper := rops c55
noncomputable def c56 : Code := cr c54
noncomputable def c57 : Code := cr c53
noncomputable def c58 : Code := cr c50
noncomputable def c59 : Code := cl c58
noncomputable def o17 : Array Oper := rops c59
noncomputable def c60 : Code := cr c58
noncomputable def c61 : Code := cl c60
noncomputable def c62 : Code := cl c61
noncomputable def c63 : Code := cl c62
noncomputable def o18 : Array Oper := rops c63
noncomputable def c64 : Code := cr c62
noncomputable def c65 : Code := cl c64
noncomputable def c66 : Code := cl c65
noncomputable def c67 : Code := cr c65
noncomputable def c68 : Code := cr c64
noncomputable def c69 : Code := cl c68
noncomputable def c70 : Code := cl c69
noncomputable def c71 : Code := cl c70
noncomputable def o19 : Array Oper := rops c71
noncomputable def c72 : Code := cr c70
noncomputable def c73 : Code := cl c72
noncomputable def c74 : Code := cl c73
noncomputable def o20 : Array Oper := rops c74
noncomputable def c75 : Code := cr c73
noncomputable def c76 : Code := cl c75
noncomputable def c77 : Code := cl c76
noncomputable def o21 : Array Oper := rops c77
noncomputable def c78 : Code := cr c76
noncomputable def c79 : Code := cr c75
noncomputable def c80 : Code := cr c72
noncomputable def o22 : Array Oper := rops c80
noncomputable def c81 : Code := cr c68
noncomputable def o23 : Array Oper := rops c81
noncomputable def c82 : Code := cr c46
noncomputable def o24 : Array Oper := rops c82
noncomputable def c83 : Code := cr c35
noncomputable def c84 : Code := cl c83
noncomputable def c85 : Code := cl c84
noncomputable def o25 : Array Oper := rops c85
noncomputable def c86 : Code := cr c84
noncomputable def c87 : Code := cl c86
noncomputable def c88 : Code := cl c87
noncomputable def c89 : Code := cl c88
noncomputable def o26 : Array Oper := rops c89
noncomputable def c90 : Code := cr c88
noncomputable def c91 : Code := cl c90
noncomputable def c92 : Code := cl c91
noncomputable def c93 : Code := cr c91
noncomputable def c94 : Code := cr c90
noncomputable def c95 : Code := cl c94
noncomputable def c96 : Code := cl c95
noncomputable def c97 : Code := cl c96
noncomputable def o27 : Array Oper := rops c97
noncomputable def c98 : Code := cr c96
noncomputable def c99 : Code := cl c98
noncomputable def c100 : Code := cl c99
noncomputable def o28 : Array Oper := rops c100
noncomputable def c101 : Code := cr c99
noncomputable def c102 : Code := cl c101
noncomputable def c103 : Code := cl c102
noncomputable def c104 : Code := cl c103
noncomputable def c105 : Code := cl c104
noncomputable def o29 : Array Oper := rops c105
noncomputable def c106 : Code := cr c104
noncomputable def c107 : Code := cl c106
noncomputable def c108 : Code := cr c106
noncomputable def c109 : Code := cr c103
noncomputable def c110 : Code := cl c109
noncomputable def c111 : Code := cl c110
noncomputable def c112 : Code := cl c111
noncomputable def o31 : Array Oper := rops c112
noncomputable def c113 : Code := cr c111
noncomputable def c114 : Code := cl c113
noncomputable def c115 : Code := cl c114
noncomputable def o32 : Array Oper := rops c115
noncomputable def c116 : Code := cr c114
noncomputable def c117 : Code := cr c113
noncomputable def c118 : Code := cr c109
noncomputable def o30 : Array Oper := rops c118
noncomputable def c119 : Code := cr c98
noncomputable def c120 : Code := cl c119
noncomputable def o33 : Array Oper := rops c120
noncomputable def c121 : Code := cr c119
noncomputable def c122 : Code := cl c121
noncomputable def c123 : Code := cl c122
noncomputable def o34 : Array Oper := rops c123
noncomputable def c124 : Code := cr c122
noncomputable def c125 : Code := cr c121
noncomputable def c126 : Code := cr c94
noncomputable def o35 : Array Oper := rops c126
noncomputable def c127 : Code := cr c83
noncomputable def c128 : Code := cl c127
noncomputable def o36 : Array Oper := rops c128
noncomputable def c129 : Code := cr c127
end F3B
/-- .. where more is handed than it looks at. -/
theorem groupsLaw_big {w₀ : World} {C : Nat → Nat} {p : Option Addr} {n c : Nat} (hF : Lim w₀ C) (hn : 400 < n) : Calls Try.prog 3 #[.slice p n c] w₀ (Ret fun v w' => v = .bool true ∧ Stp [] w₀ C w' C) := by
  have hF0 := hF
  have hT := Stp.refl [2, 3, 4, 5, 6, 7, 8, 9] w₀ (col1 C)
  replace hF := hF.col1
  refine calls_start (c := F3B.c0) (N := 157) [.slice p n c] Try.func3 (by kernel_rfl) (by kernel_rfl) (by kernel_rfl) ?_
  show Run _ _ _ _ [(0, .slice p n c)] _ _
  refine run_seq (x := F3B.c1) (y := F3B.c2) (by kernel_rfl) ?_
  refine run_plain (id := 0) (ops := F3B.o0) [(0, true)] (by kernel_rfl) (by kernel_rfl) ?_
  refine yS (by kernel_rfl : opAt F3B.o0 0 = some (some 2, .assign (.const (.bool false)), none)) rfl rfl (fun w' hS => val_assign rfl) ?_
  refine Sch.nil ?_
  refine run_seq (x := F3B.c3) (y := F3B.c10) (by kernel_rfl) ?_
  refine run_seq (x := F3B.c4) (y := F3B.c5) (by kernel_rfl) ?_
  refine run_plain (id := 1) (ops := F3B.o1) [(0, false), (1, true), (2, true), (3, true), (4, false), (5, true), (6, true)] (by kernel_rfl) (by kernel_rfl) ?_
  refine cS (by kernel_rfl : opAt F3B.o1 0 = some (some 14, .call { callee := .value (.func 7), args := #[], argTypes := #[] }, none)) rfl rfl (ent Try.call7 rfl) (awake_ok hF) ?_
  rintro vw1 w1 ⟨rfl, hs⟩
  refine ⟨trivial, ?_⟩
  replace hF := hF.st hs
  replace hT := hT.trans hs (by simp)
  refine yS (by kernel_rfl : opAt F3B.o1 1 = some (some 15, .unOp .not 4 (.tmp 14), none)) rfl rfl (fun w' hS => val_not rfl) ?_
  refine yS (by kernel_rfl : opAt F3B.o1 2 = some (some 16, .move (.tmp 15), none)) rfl rfl (fun w' hS => val_move rfl) ?_
  refine yS (by kernel_rfl : opAt F3B.o1 3 = some (some 17, .move (.tmp 0), (some (2, false)))) rfl rfl (fun w' hS => val_move rfl) ?_
  refine cS (by kernel_rfl : opAt F3B.o1 4 = some (some 18, .call { callee := .value (.func 8), args := #[(.tmp 17)], argTypes := #[22] }, (some (2, false)))) rfl rfl (ent Try.call8 rfl) (few_ok _ _ _ _) ?_
  rintro vw2 w2 ⟨rfl, rfl⟩
  refine ⟨trivial, ?_⟩
  rw [decide_eq_false (show ¬ (n : Int) ≤ 400 by omega)]
  refine yS (by kernel_rfl : opAt F3B.o1 5 = some (some 19, .unOp .not 4 (.tmp 18), (some (2, false)))) rfl rfl (fun w' hS => val_not rfl) ?_
  refine yS (by kernel_rfl : opAt F3B.o1 6 = some (some 20, .pick (.tmp 16) (.const (.bool true)) (.tmp 19), none)) rfl rfl (fun w' hS => val_pick_f rfl rfl) ?_
  refine Sch.nil ?_
  refine run_cond (x := F3B.c6) (y := F3B.c9) (o := .tmp 20) (b := true) (by kernel_rfl) rfl (fun _ => ?_) (fun h => by cases h)
  refine run_seq (x := F3B.c7) (y := F3B.c8) (by kernel_rfl) ?_
  refine run_plain (id := 2) (ops := F3B.o2) [(0, false), (1, true)] (by kernel_rfl) (by kernel_rfl) ?_
  refine cS (by kernel_rfl : opAt F3B.o2 0 = some (some 21, .call { callee := .value (.func 7), args := #[], argTypes := #[] }, none)) rfl rfl (ent Try.call7 rfl) (awake_ok hF) ?_
  rintro vw3 w3 ⟨rfl, hs⟩
  refine ⟨trivial, ?_⟩
  replace hF := hF.st hs
  replace hT := hT.trans hs (by simp)
  refine yS (by kernel_rfl : opAt F3B.o2 1 = some (some 2, .assign (.tmp 21), none)) rfl rfl (fun w' hS => val_assign rfl) ?_
  refine Sch.nil ?_
  refine run_ret1 (by kernel_rfl) Try.func3 Try.results3 rfl ?_
  exact ⟨rfl, hT.out1 (by decide)⟩
end Go.Proofs.Ytbdlkdiadplmcaa
