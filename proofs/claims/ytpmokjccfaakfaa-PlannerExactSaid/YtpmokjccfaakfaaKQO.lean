/- Steps through functions of the program. -/
import Derived.Test.YtpmokjccfaakfaaKQP
set_option linter.unusedVariables false
set_option linter.unusedSimpArgs false
set_option maxRecDepth 100000
set_option maxHeartbeats 400000
namespace Go.Proofs.Ytpmokjccfaakfaa
open Go.K Go.K.Rep

namespace F3
noncomputable def c0 : Code := bodyOf Try.f3
noncomputable def c1 : Code := cl c0
noncomputable def o0 : Array Oper := rops c1
noncomputable def c2 : Code := cr c0
noncomputable def c3 : Code := cl c2
noncomputable def c4 : Code := cl c3
noncomputable def o1 : Array Oper := rops c4
noncomputable def c5 : Code := cr c3
noncomputable def c6 : Code := cl c5
noncomputable def c7 : Code := cl c6
noncomputable def o2 : Array Oper := rops c7
noncomputable def c8 : Code := cr c6
noncomputable def c9 : Code := cr c5
noncomputable def c10 : Code := cr c2
noncomputable def c11 : Code := cl c10
noncomputable def c12 : Code := cl c11
noncomputable def o3 : Array Oper := rops c12
noncomputable def c13 : Code := cr c11
noncomputable def c14 : Code := cl c13
noncomputable def c15 : Code := cl c14
noncomputable def c16 : Code := cl c15
noncomputable def o4 : Array Oper := rops c16
noncomputable def c17 : Code := cr c15
noncomputable def c18 : Code := cl c17
noncomputable def c19 : Code := cl c18
noncomputable def c20 : Code := cr c18
noncomputable def c21 : Code := cr c17
noncomputable def c22 : Code := cl c21
noncomputable def c23 : Code := cl c22
noncomputable def c24 : Code := cl c23
noncomputable def o5 : Array Oper := rops c24
noncomputable def c25 : Code := cr c23
noncomputable def c26 : Code := cl c25
noncomputable def o6 : Array Oper := rops c26
noncomputable def c27 : Code := cr c25
noncomputable def c28 : Code := cl c27
noncomputable def c29 : Code := cl c28
noncomputable def o7 : Array Oper := rops c29
noncomputable def c30 : Code := cr c28
noncomputable def c31 : Code := cr c27
noncomputable def c32 : Code := cr c21
noncomputable def o8 : Array Oper := rops c32
noncomputable def c33 : Code := cr c10
noncomputable def c34 : Code := cl c33
noncomputable def o9 : Array Oper := rops c34
noncomputable def c35 : Code := cr c33
noncomputable def c36 : Code := cl c35
noncomputable def o10 : Array Oper := rops c36
noncomputable def c37 : Code := cr c35
noncomputable def c38 : Code := cl c37
noncomputable def c39 : Code := cl c38
noncomputable def o11 : Array Oper := rops c39
noncomputable def c40 : Code := cr c38
noncomputable def c41 : Code := cl c40
noncomputable def c42 : Code := cl c41
noncomputable def c43 : Code := cl c42
noncomputable def o12 : Array Oper := rops c43
noncomputable def c44 : Code := cr c42
noncomputable def c45 : Code := cl c44
noncomputable def c46 : Code := cl c45
noncomputable def c47 : Code := cr c45
noncomputable def c48 : Code := cr c44
noncomputable def c49 : Code := cl c48
noncomputable def c50 : Code := cl c49
noncomputable def c51 : Code := cl c50
noncomputable def o13 : Array Oper := rops c51
noncomputable def c52 : Code := cr c50
noncomputable def c53 : Code := cl c52
noncomputable def c54 : Code := cl c53
noncomputable def o14 : Array Oper := rops c54
noncomputable def c55 : Code := cr c53
noncomputable def c56 : Code := cl c55
noncomputable def c57 : Code := cl c56
noncomputable def o15 : Array Oper := rops c57
noncomputable def c58 : Code := cr c56
noncomputable def c59 : Code := cr c55
noncomputable def c60 : Code := cr c52
noncomputable def c61 : Code := cl c60
noncomputable def o16 : Array Oper := rops c61
noncomputable def c62 : Code := cr c60
noncomputable def c63 : Code := cl c62
noncomputable def c64 : Code := cl c63
noncomputable def c65 : Code := cl c64
noncomputable def o17 : Array Oper := rops c65
noncomputable def c66 : Code := cr c64
noncomputable def c67 : Code := cl c66
noncomputable def c68 : Code := cl c67
noncomputable def c69 : Code := cr c67
noncomputable def c70 : Code := cr c66
noncomputable def c71 : Code := cl c70
noncomputable def c72 : Code := cl c71
noncomputable def c73 : Code := cl c72
noncomputable def o18 : Array Oper := rops c73
noncomputable def c74 : Code := cr c72
noncomputable def c75 : Code := cl c74
noncomputable def c76 : Code := cl c75
noncomputable def o19 : Array Oper := rops c76
noncomputable def c77 : Code := cr c75
noncomputable def c78 : Code := cl c77
noncomputable def c79 : Code := cl c78
noncomputable def o20 : Array Oper := rops c79
noncomputable def c80 : Code := cr c78
noncomputable def c81 : Code := cr c77
noncomputable def c82 : Code := cr c74
noncomputable def c83 : Code := cl c82
noncomputable def c84 : Code := cl c83
noncomputable def o21 : Array Oper := rops c84
noncomputable def c85 : Code := cr c83
noncomputable def c86 : Code := cl c85
noncomputable def c87 : Code := cl c86
noncomputable def c88 : Code := cl c87
noncomputable def o22 : Array Oper := rops c88
noncomputable def c89 : Code := cr c87
noncomputable def c90 : Code := cl c89
noncomputable def c91 : Code := cl c90
noncomputable def c92 : Code := cr c90
noncomputable def c93 : Code := cr c89
noncomputable def c94 : Code := cl c93
noncomputable def c95 : Code := cl c94
noncomputable def c96 : Code := cl c95
noncomputable def o23 : Array Oper := rops c96
noncomputable def c97 : Code := cr c95
noncomputable def c98 : Code := cl c97
noncomputable def o24 : Array Oper := rops c98
noncomputable def c99 : Code := cr c97
noncomputable def c100 : Code := cl c99
noncomputable def o25 : Array Oper := rops c100
noncomputable def c101 : Code := cr c99
noncomputable def c102 : Code := cl c101
noncomputable def o26 : Array Oper := rops c102
noncomputable def c103 : Code := cr c101
noncomputable def c104 : Code := cl c103
noncomputable def c105 : Code := cl c104
noncomputable def o27 : Array Oper := rops c105
noncomputable def c106 : Code := cr c104
noncomputable def c107 : Code := cr c103
noncomputable def c108 : Code := cr c93
noncomputable def o28 : Array Oper := rops c108
noncomputable def c109 : Code := cr c82
noncomputable def c110 : Code := cl c109
noncomputable def o29 : Array Oper := rops c110
noncomputable def c111 : Code := cr c109
noncomputable def c112 : Code := cl c111
noncomputable def c113 : Code := cl c112
noncomputable def c114 : Code := cl c113
noncomputable def o30 : Array Oper := rops c114
noncomputable def c115 : Code := cr c113
noncomputable def c116 : Code := cl c115
noncomputable def c117 : Code := cl c116
noncomputable def c118 : Code := cr c116
noncomputable def c119 : Code := cr c115
noncomputable def c120 : Code := cl c119
noncomputable def c121 : Code := cl c120
noncomputable def c122 : Code := cl c121
noncomputable def o31 : Array Oper := rops c122
noncomputable def c123 : Code := cr c121
noncomputable def c124 : Code := cl c123
noncomputable def o32 : Array Oper := rops c124
noncomputable def c125 : Code := cr c123
noncomputable def c126 : Code := cl c125
noncomputable def c127 : Code := cl c126
noncomputable def c128 : Code := cl c127
noncomputable def o33 : Array Oper := rops c128
noncomputable def c129 : Code := cr c127
noncomputable def c130 : Code := cl c129
noncomputable def c131 : Code := cl c130
noncomputable def c132 : Code := cr c130
noncomputable def c133 : Code := cr c129
noncomputable def c134 : Code := cl c133
noncomputable def c135 : Code := cl c134
noncomputable def c136 : Code := cl c135
noncomputable def o34 : Array Oper := rops c136
noncomputable def c137 : Code := cr c135
noncomputable def c138 : Code := cl c137
noncomputable def o35 : Array Oper := rops c138
noncomputable def c139 : Code := cr c137
noncomputable def c140 : Code := cl c139
noncomputable def o36 : Array Oper := rops c140
noncomputable def c141 : Code := cr c139
noncomputable def c142 : Code := cl c141
noncomputable def o37 : Array Oper := rops c142
noncomputable def c143 : Code := cr c141
noncomputable def c144 : Code := cl c143
noncomputable def c145 : Code := cl c144
noncomputable def o38 : Array Oper := rops c145
noncomputable def c146 : Code := cr c144
noncomputable def c147 : Code := cr c143
noncomputable def c148 : Code := cr c133
noncomputable def o39 : Array Oper := rops c148
noncomputable def c149 : Code := cr c119
noncomputable def o40 : Array Oper := rops c149
noncomputable def c150 : Code := cr c70
noncomputable def o41 : Array Oper := rops c150
noncomputable def c151 : Code := cr c48
noncomputable def o42 : Array Oper := rops c151
noncomputable def c152 : Code := cr c37
noncomputable def c153 : Code := cl c152
noncomputable def o43 : Array Oper := rops c153
noncomputable def c154 : Code := cr c152
end F3
/-- The statement's function answers true. -/
theorem plannerExact_ok {w₀ : World} {C : Nat → Nat} {l odd prs : List Int} {raw : List Key} {vl vraw vodd vprs : Value} {mask budget : Int} (hF : Lim w₀ C) (hl : RV w₀ (Mc C) l vl) (hraw : RV w₀ (Mc C) raw vraw) (hodd : RV w₀ (Mc C) odd vodd) (hprs : RV w₀ (Mc C) prs vprs) : Calls Try.prog 3 #[vl, vraw, vodd, vprs, .int .i64 mask, .int .i64 budget] w₀ (Ret fun v w' => v = .bool true ∧ Stp [] w₀ C w' C) := by
  have hF0 := hF
  have hT := Stp.refl [2, 3, 4, 5, 6, 7, 8, 9] w₀ (col1 C)
  replace hF := hF.col1
  replace hl : RV w₀ (Mc (col1 C)) l vl := by rw [Mc_col1]; exact hl
  replace hraw : RV w₀ (Mc (col1 C)) raw vraw := by rw [Mc_col1]; exact hraw
  replace hodd : RV w₀ (Mc (col1 C)) odd vodd := by rw [Mc_col1]; exact hodd
  replace hprs : RV w₀ (Mc (col1 C)) prs vprs := by rw [Mc_col1]; exact hprs
  refine calls_start (c := F3.c0) (N := 187) [vl, vraw, vodd, vprs, .int .i64 mask, .int .i64 budget] Try.func3 (by kernel_rfl) (by kernel_rfl) (by kernel_rfl) ?_
  show Run _ _ _ _ [(0, vl), (1, vraw), (2, vodd), (3, vprs), (4, .int .i64 mask), (5, .int .i64 budget)] _ _
  refine run_seq (x := F3.c1) (y := F3.c2) (by kernel_rfl) ?_
  refine run_plain (id := 0) (ops := F3.o0) [(0, true)] (by kernel_rfl) (by kernel_rfl) ?_
  refine yS (by kernel_rfl : opAt F3.o0 0 = some (some 12, .assign (.const (.bool false)), none)) rfl rfl (fun w' hS => val_assign rfl) ?_
  refine Sch.nil ?_
  refine run_seq (x := F3.c3) (y := F3.c10) (by kernel_rfl) ?_
  refine run_seq (x := F3.c4) (y := F3.c5) (by kernel_rfl) ?_
  refine run_cut 55 (decide (400 < l.length ∨ 12 < raw.length ∨ 40 < odd.length ∨ 300 < prs.length)) (col1 C) ?_ ?_
  · intro hcut
    by_cases hA : (l.length : Int) ≤ 400
    · skip
      by_cases hB : (12 : Int) < raw.length
      · skip
        refine run_plain (id := 1) (ops := F3.o1) [(0, false), (1, true), (2, true), (3, true), (4, false), (5, true), (6, true), (7, true), (8, true), (9, true), (10, true), (11, true), (12, true), (13, true), (14, true), (15, true), (16, true), (17, true), (18, true), (19, true), (20, true), (21, true)] (by kernel_rfl) (by kernel_rfl) ?_
        have hcs := Stp.reflF hF
        refine cS (by kernel_rfl : opAt F3.o1 0 = some (some 34, .call { callee := .value (.func 9), args := #[], argTypes := #[] }, none)) rfl rfl (ent Try.call9 rfl) (awake_ok hF) ?_
        rintro vw1 w1 ⟨rfl, hs⟩
        refine ⟨trivial, ?_⟩
        replace hF := hF.st hs
        replace hT := hT.trans hs (by simp)
        replace hl := hl.st hs (by first | decide | (simp <;> omega))
        replace hraw := hraw.st hs (by first | decide | (simp <;> omega))
        replace hodd := hodd.st hs (by first | decide | (simp <;> omega))
        replace hprs := hprs.st hs (by first | decide | (simp <;> omega))
        replace hcs := hcs.trans hs (by simp)
        refine yS (by kernel_rfl : opAt F3.o1 1 = some (some 35, .unOp .not 4 (.tmp 34), none)) rfl rfl (fun w' hS => val_not rfl) ?_
        refine yS (by kernel_rfl : opAt F3.o1 2 = some (some 36, .move (.tmp 35), none)) rfl rfl (fun w' hS => val_move rfl) ?_
        refine yS (by kernel_rfl : opAt F3.o1 3 = some (some 37, .move (.tmp 0), (some (2, false)))) rfl rfl (fun w' hS => val_move rfl) ?_
        refine cS (by kernel_rfl : opAt F3.o1 4 = some (some 38, .call { callee := .value (.func 10), args := #[(.tmp 37)], argTypes := #[22] }, (some (2, false)))) rfl rfl (ent Try.call10 rfl) (few_any hl) ?_
        rintro vw2 w2 ⟨rfl, rfl⟩
        refine ⟨trivial, ?_⟩
        refine yS (by kernel_rfl : opAt F3.o1 5 = some (some 39, .unOp .not 4 (.tmp 38), (some (2, false)))) rfl rfl (fun w' hS => val_F (val_notd rfl) (fun e => e hA)) ?_
        refine yS (by kernel_rfl : opAt F3.o1 6 = some (some 40, .pick (.tmp 36) (.const (.bool true)) (.tmp 39), none)) rfl rfl (fun w' hS => val_pick_f rfl rfl) ?_
        refine yS (by kernel_rfl : opAt F3.o1 7 = some (some 41, .move (.tmp 40), none)) rfl rfl (fun w' hS => val_move rfl) ?_
        refine yS (by kernel_rfl : opAt F3.o1 8 = some (some 42, .move (.tmp 1), (some (7, false)))) rfl rfl (fun w' hS => val_move rfl) ?_
        refine yS (by kernel_rfl : opAt F3.o1 9 = some (some 43, .call { callee := .builtin .len, args := #[(.tmp 42)], argTypes := #[23] }, (some (7, false)))) rfl rfl (fun w' hS => hraw.lenV rfl Try.underlying23 w' ) ?_
        refine yS (by kernel_rfl : opAt F3.o1 10 = some (some 44, .binOp .gtr 3 (.tmp 43) (.const (.int .i64 12)) 3, (some (7, false)))) rfl rfl (fun w' hS => val_T (val_gtr rfl rfl) hB) ?_
        refine yS (by kernel_rfl : opAt F3.o1 11 = some (some 45, .pick (.tmp 41) (.const (.bool true)) (.tmp 44), none)) rfl rfl (fun w' hS => val_pick_f rfl rfl) ?_
        refine yS (by kernel_rfl : opAt F3.o1 12 = some (some 46, .move (.tmp 45), none)) rfl rfl (fun w' hS => val_move rfl) ?_
        refine pS (by kernel_rfl : opAt F3.o1 13 = some (some 47, .move (.tmp 2), (some (12, false)))) rfl rfl ?_
        refine pS (by kernel_rfl : opAt F3.o1 14 = some (some 48, .call { callee := .builtin .len, args := #[(.tmp 47)], argTypes := #[22] }, (some (12, false)))) rfl rfl ?_
        refine pS (by kernel_rfl : opAt F3.o1 15 = some (some 49, .binOp .gtr 3 (.tmp 48) (.const (.int .i64 40)) 3, (some (12, false)))) rfl rfl ?_
        refine yS (by kernel_rfl : opAt F3.o1 16 = some (some 50, .pick (.tmp 46) (.const (.bool true)) (.tmp 49), none)) rfl rfl (fun w' hS => val_pick_t rfl rfl) ?_
        refine yS (by kernel_rfl : opAt F3.o1 17 = some (some 51, .move (.tmp 50), none)) rfl rfl (fun w' hS => val_move rfl) ?_
        refine pS (by kernel_rfl : opAt F3.o1 18 = some (some 52, .move (.tmp 3), (some (17, false)))) rfl rfl ?_
        refine pS (by kernel_rfl : opAt F3.o1 19 = some (some 53, .call { callee := .builtin .len, args := #[(.tmp 52)], argTypes := #[22] }, (some (17, false)))) rfl rfl ?_
        refine pS (by kernel_rfl : opAt F3.o1 20 = some (some 54, .binOp .gtr 3 (.tmp 53) (.const (.int .i64 300)) 3, (some (17, false)))) rfl rfl ?_
        refine yS (by kernel_rfl : opAt F3.o1 21 = some (some 55, .pick (.tmp 51) (.const (.bool true)) (.tmp 54), none)) rfl rfl (fun w' hS => val_pick_t rfl rfl) ?_
        exact Sch.nil (hcut _ _ _ hcs rfl (by rw [decide_eq_true (by omega)]) (sub_skip rfl (sub_skip rfl (sub_skip rfl (sub_skip rfl (sub_skip rfl (sub_skip rfl (sub_skip rfl (sub_skip rfl (sub_skip rfl (sub_skip rfl (sub_skip rfl (sub_skip rfl (sub_skip rfl (sub_skip rfl (sub_skip rfl (sub_skip rfl (sub_skip rfl (sub_skip rfl (sub_skip rfl (sub_skip rfl (sub_skip rfl (sub_skip rfl (Sub.refl _))))))))))))))))))))))))
      · skip
        by_cases hC : (40 : Int) < odd.length
        · skip
          refine run_plain (id := 1) (ops := F3.o1) [(0, false), (1, true), (2, true), (3, true), (4, false), (5, true), (6, true), (7, true), (8, true), (9, true), (10, true), (11, true), (12, true), (13, true), (14, true), (15, true), (16, true), (17, true), (18, true), (19, true), (20, true), (21, true)] (by kernel_rfl) (by kernel_rfl) ?_
          have hcs := Stp.reflF hF
          refine cS (by kernel_rfl : opAt F3.o1 0 = some (some 34, .call { callee := .value (.func 9), args := #[], argTypes := #[] }, none)) rfl rfl (ent Try.call9 rfl) (awake_ok hF) ?_
          rintro vw3 w3 ⟨rfl, hs⟩
          refine ⟨trivial, ?_⟩
          replace hF := hF.st hs
          replace hT := hT.trans hs (by simp)
          replace hl := hl.st hs (by first | decide | (simp <;> omega))
          replace hraw := hraw.st hs (by first | decide | (simp <;> omega))
          replace hodd := hodd.st hs (by first | decide | (simp <;> omega))
          replace hprs := hprs.st hs (by first | decide | (simp <;> omega))
          replace hcs := hcs.trans hs (by simp)
          refine yS (by kernel_rfl : opAt F3.o1 1 = some (some 35, .unOp .not 4 (.tmp 34), none)) rfl rfl (fun w' hS => val_not rfl) ?_
          refine yS (by kernel_rfl : opAt F3.o1 2 = some (some 36, .move (.tmp 35), none)) rfl rfl (fun w' hS => val_move rfl) ?_
          refine yS (by kernel_rfl : opAt F3.o1 3 = some (some 37, .move (.tmp 0), (some (2, false)))) rfl rfl (fun w' hS => val_move rfl) ?_
          refine cS (by kernel_rfl : opAt F3.o1 4 = some (some 38, .call { callee := .value (.func 10), args := #[(.tmp 37)], argTypes := #[22] }, (some (2, false)))) rfl rfl (ent Try.call10 rfl) (few_any hl) ?_
          rintro vw4 w4 ⟨rfl, rfl⟩
          refine ⟨trivial, ?_⟩
          refine yS (by kernel_rfl : opAt F3.o1 5 = some (some 39, .unOp .not 4 (.tmp 38), (some (2, false)))) rfl rfl (fun w' hS => val_F (val_notd rfl) (fun e => e hA)) ?_
          refine yS (by kernel_rfl : opAt F3.o1 6 = some (some 40, .pick (.tmp 36) (.const (.bool true)) (.tmp 39), none)) rfl rfl (fun w' hS => val_pick_f rfl rfl) ?_
          refine yS (by kernel_rfl : opAt F3.o1 7 = some (some 41, .move (.tmp 40), none)) rfl rfl (fun w' hS => val_move rfl) ?_
          refine yS (by kernel_rfl : opAt F3.o1 8 = some (some 42, .move (.tmp 1), (some (7, false)))) rfl rfl (fun w' hS => val_move rfl) ?_
          refine yS (by kernel_rfl : opAt F3.o1 9 = some (some 43, .call { callee := .builtin .len, args := #[(.tmp 42)], argTypes := #[23] }, (some (7, false)))) rfl rfl (fun w' hS => hraw.lenV rfl Try.underlying23 w' ) ?_
          refine yS (by kernel_rfl : opAt F3.o1 10 = some (some 44, .binOp .gtr 3 (.tmp 43) (.const (.int .i64 12)) 3, (some (7, false)))) rfl rfl (fun w' hS => val_F (val_gtr rfl rfl) hB) ?_
          refine yS (by kernel_rfl : opAt F3.o1 11 = some (some 45, .pick (.tmp 41) (.const (.bool true)) (.tmp 44), none)) rfl rfl (fun w' hS => val_pick_f rfl rfl) ?_
          refine yS (by kernel_rfl : opAt F3.o1 12 = some (some 46, .move (.tmp 45), none)) rfl rfl (fun w' hS => val_move rfl) ?_
          refine yS (by kernel_rfl : opAt F3.o1 13 = some (some 47, .move (.tmp 2), (some (12, false)))) rfl rfl (fun w' hS => val_move rfl) ?_
          refine yS (by kernel_rfl : opAt F3.o1 14 = some (some 48, .call { callee := .builtin .len, args := #[(.tmp 47)], argTypes := #[22] }, (some (12, false)))) rfl rfl (fun w' hS => hodd.lenV rfl Try.underlying22 w' ) ?_
          refine yS (by kernel_rfl : opAt F3.o1 15 = some (some 49, .binOp .gtr 3 (.tmp 48) (.const (.int .i64 40)) 3, (some (12, false)))) rfl rfl (fun w' hS => val_T (val_gtr rfl rfl) hC) ?_
          refine yS (by kernel_rfl : opAt F3.o1 16 = some (some 50, .pick (.tmp 46) (.const (.bool true)) (.tmp 49), none)) rfl rfl (fun w' hS => val_pick_f rfl rfl) ?_
          refine yS (by kernel_rfl : opAt F3.o1 17 = some (some 51, .move (.tmp 50), none)) rfl rfl (fun w' hS => val_move rfl) ?_
          refine pS (by kernel_rfl : opAt F3.o1 18 = some (some 52, .move (.tmp 3), (some (17, false)))) rfl rfl ?_
          refine pS (by kernel_rfl : opAt F3.o1 19 = some (some 53, .call { callee := .builtin .len, args := #[(.tmp 52)], argTypes := #[22] }, (some (17, false)))) rfl rfl ?_
          refine pS (by kernel_rfl : opAt F3.o1 20 = some (some 54, .binOp .gtr 3 (.tmp 53) (.const (.int .i64 300)) 3, (some (17, false)))) rfl rfl ?_
          refine yS (by kernel_rfl : opAt F3.o1 21 = some (some 55, .pick (.tmp 51) (.const (.bool true)) (.tmp 54), none)) rfl rfl (fun w' hS => val_pick_t rfl rfl) ?_
          exact Sch.nil (hcut _ _ _ hcs rfl (by rw [decide_eq_true (by omega)]) (sub_skip rfl (sub_skip rfl (sub_skip rfl (sub_skip rfl (sub_skip rfl (sub_skip rfl (sub_skip rfl (sub_skip rfl (sub_skip rfl (sub_skip rfl (sub_skip rfl (sub_skip rfl (sub_skip rfl (sub_skip rfl (sub_skip rfl (sub_skip rfl (sub_skip rfl (sub_skip rfl (sub_skip rfl (sub_skip rfl (sub_skip rfl (sub_skip rfl (Sub.refl _))))))))))))))))))))))))
        · skip
          refine run_plain (id := 1) (ops := F3.o1) [(0, false), (1, true), (2, true), (3, true), (4, false), (5, true), (6, true), (7, true), (8, true), (9, true), (10, true), (11, true), (12, true), (13, true), (14, true), (15, true), (16, true), (17, true), (18, true), (19, true), (20, true), (21, true)] (by kernel_rfl) (by kernel_rfl) ?_
          have hcs := Stp.reflF hF
          refine cS (by kernel_rfl : opAt F3.o1 0 = some (some 34, .call { callee := .value (.func 9), args := #[], argTypes := #[] }, none)) rfl rfl (ent Try.call9 rfl) (awake_ok hF) ?_
          rintro vw5 w5 ⟨rfl, hs⟩
          refine ⟨trivial, ?_⟩
          replace hF := hF.st hs
          replace hT := hT.trans hs (by simp)
          replace hl := hl.st hs (by first | decide | (simp <;> omega))
          replace hraw := hraw.st hs (by first | decide | (simp <;> omega))
          replace hodd := hodd.st hs (by first | decide | (simp <;> omega))
          replace hprs := hprs.st hs (by first | decide | (simp <;> omega))
          replace hcs := hcs.trans hs (by simp)
          refine yS (by kernel_rfl : opAt F3.o1 1 = some (some 35, .unOp .not 4 (.tmp 34), none)) rfl rfl (fun w' hS => val_not rfl) ?_
          refine yS (by kernel_rfl : opAt F3.o1 2 = some (some 36, .move (.tmp 35), none)) rfl rfl (fun w' hS => val_move rfl) ?_
          refine yS (by kernel_rfl : opAt F3.o1 3 = some (some 37, .move (.tmp 0), (some (2, false)))) rfl rfl (fun w' hS => val_move rfl) ?_
          refine cS (by kernel_rfl : opAt F3.o1 4 = some (some 38, .call { callee := .value (.func 10), args := #[(.tmp 37)], argTypes := #[22] }, (some (2, false)))) rfl rfl (ent Try.call10 rfl) (few_any hl) ?_
          rintro vw6 w6 ⟨rfl, rfl⟩
          refine ⟨trivial, ?_⟩
          refine yS (by kernel_rfl : opAt F3.o1 5 = some (some 39, .unOp .not 4 (.tmp 38), (some (2, false)))) rfl rfl (fun w' hS => val_F (val_notd rfl) (fun e => e hA)) ?_
          refine yS (by kernel_rfl : opAt F3.o1 6 = some (some 40, .pick (.tmp 36) (.const (.bool true)) (.tmp 39), none)) rfl rfl (fun w' hS => val_pick_f rfl rfl) ?_
          refine yS (by kernel_rfl : opAt F3.o1 7 = some (some 41, .move (.tmp 40), none)) rfl rfl (fun w' hS => val_move rfl) ?_
          refine yS (by kernel_rfl : opAt F3.o1 8 = some (some 42, .move (.tmp 1), (some (7, false)))) rfl rfl (fun w' hS => val_move rfl) ?_
          refine yS (by kernel_rfl : opAt F3.o1 9 = some (some 43, .call { callee := .builtin .len, args := #[(.tmp 42)], argTypes := #[23] }, (some (7, false)))) rfl rfl (fun w' hS => hraw.lenV rfl Try.underlying23 w' ) ?_
          refine yS (by kernel_rfl : opAt F3.o1 10 = some (some 44, .binOp .gtr 3 (.tmp 43) (.const (.int .i64 12)) 3, (some (7, false)))) rfl rfl (fun w' hS => val_F (val_gtr rfl rfl) hB) ?_
          refine yS (by kernel_rfl : opAt F3.o1 11 = some (some 45, .pick (.tmp 41) (.const (.bool true)) (.tmp 44), none)) rfl rfl (fun w' hS => val_pick_f rfl rfl) ?_
          refine yS (by kernel_rfl : opAt F3.o1 12 = some (some 46, .move (.tmp 45), none)) rfl rfl (fun w' hS => val_move rfl) ?_
          refine yS (by kernel_rfl : opAt F3.o1 13 = some (some 47, .move (.tmp 2), (some (12, false)))) rfl rfl (fun w' hS => val_move rfl) ?_
          refine yS (by kernel_rfl : opAt F3.o1 14 = some (some 48, .call { callee := .builtin .len, args := #[(.tmp 47)], argTypes := #[22] }, (some (12, false)))) rfl rfl (fun w' hS => hodd.lenV rfl Try.underlying22 w' ) ?_
          refine yS (by kernel_rfl : opAt F3.o1 15 = some (some 49, .binOp .gtr 3 (.tmp 48) (.const (.int .i64 40)) 3, (some (12, false)))) rfl rfl (fun w' hS => val_F (val_gtr rfl rfl) hC) ?_
          refine yS (by kernel_rfl : opAt F3.o1 16 = some (some 50, .pick (.tmp 46) (.const (.bool true)) (.tmp 49), none)) rfl rfl (fun w' hS => val_pick_f rfl rfl) ?_
          refine yS (by kernel_rfl : opAt F3.o1 17 = some (some 51, .move (.tmp 50), none)) rfl rfl (fun w' hS => val_move rfl) ?_
          refine yS (by kernel_rfl : opAt F3.o1 18 = some (some 52, .move (.tmp 3), (some (17, false)))) rfl rfl (fun w' hS => val_move rfl) ?_
          refine yS (by kernel_rfl : opAt F3.o1 19 = some (some 53, .call { callee := .builtin .len, args := #[(.tmp 52)], argTypes := #[22] }, (some (17, false)))) rfl rfl (fun w' hS => hprs.lenV rfl Try.underlying22 w' ) ?_
          refine yS (by kernel_rfl : opAt F3.o1 20 = some (some 54, .binOp .gtr 3 (.tmp 53) (.const (.int .i64 300)) 3, (some (17, false)))) rfl rfl (fun w' hS => val_gtr rfl rfl) ?_
          refine yS (by kernel_rfl : opAt F3.o1 21 = some (some 55, .pick (.tmp 51) (.const (.bool true)) (.tmp 54), none)) rfl rfl (fun w' hS => val_pick_f rfl rfl) ?_
          exact Sch.nil (hcut _ _ _ hcs rfl (by congr 1; apply decide_eq_decide.2; omega) (sub_skip rfl (sub_skip rfl (sub_skip rfl (sub_skip rfl (sub_skip rfl (sub_skip rfl (sub_skip rfl (sub_skip rfl (sub_skip rfl (sub_skip rfl (sub_skip rfl (sub_skip rfl (sub_skip rfl (sub_skip rfl (sub_skip rfl (sub_skip rfl (sub_skip rfl (sub_skip rfl (sub_skip rfl (sub_skip rfl (sub_skip rfl (sub_skip rfl (Sub.refl _))))))))))))))))))))))))
    · skip
      refine run_plain (id := 1) (ops := F3.o1) [(0, false), (1, true), (2, true), (3, true), (4, false), (5, true), (6, true), (7, true), (8, true), (9, true), (10, true), (11, true), (12, true), (13, true), (14, true), (15, true), (16, true), (17, true), (18, true), (19, true), (20, true), (21, true)] (by kernel_rfl) (by kernel_rfl) ?_
      have hcs := Stp.reflF hF
      refine cS (by kernel_rfl : opAt F3.o1 0 = some (some 34, .call { callee := .value (.func 9), args := #[], argTypes := #[] }, none)) rfl rfl (ent Try.call9 rfl) (awake_ok hF) ?_
      rintro vw7 w7 ⟨rfl, hs⟩
      refine ⟨trivial, ?_⟩
      replace hF := hF.st hs
      replace hT := hT.trans hs (by simp)
      replace hl := hl.st hs (by first | decide | (simp <;> omega))
      replace hraw := hraw.st hs (by first | decide | (simp <;> omega))
      replace hodd := hodd.st hs (by first | decide | (simp <;> omega))
      replace hprs := hprs.st hs (by first | decide | (simp <;> omega))
      replace hcs := hcs.trans hs (by simp)
      refine yS (by kernel_rfl : opAt F3.o1 1 = some (some 35, .unOp .not 4 (.tmp 34), none)) rfl rfl (fun w' hS => val_not rfl) ?_
      refine yS (by kernel_rfl : opAt F3.o1 2 = some (some 36, .move (.tmp 35), none)) rfl rfl (fun w' hS => val_move rfl) ?_
      refine yS (by kernel_rfl : opAt F3.o1 3 = some (some 37, .move (.tmp 0), (some (2, false)))) rfl rfl (fun w' hS => val_move rfl) ?_
      refine cS (by kernel_rfl : opAt F3.o1 4 = some (some 38, .call { callee := .value (.func 10), args := #[(.tmp 37)], argTypes := #[22] }, (some (2, false)))) rfl rfl (ent Try.call10 rfl) (few_any hl) ?_
      rintro vw8 w8 ⟨rfl, rfl⟩
      refine ⟨trivial, ?_⟩
      refine yS (by kernel_rfl : opAt F3.o1 5 = some (some 39, .unOp .not 4 (.tmp 38), (some (2, false)))) rfl rfl (fun w' hS => val_T (val_notd rfl) hA) ?_
      refine yS (by kernel_rfl : opAt F3.o1 6 = some (some 40, .pick (.tmp 36) (.const (.bool true)) (.tmp 39), none)) rfl rfl (fun w' hS => val_pick_f rfl rfl) ?_
      refine yS (by kernel_rfl : opAt F3.o1 7 = some (some 41, .move (.tmp 40), none)) rfl rfl (fun w' hS => val_move rfl) ?_
      refine pS (by kernel_rfl : opAt F3.o1 8 = some (some 42, .move (.tmp 1), (some (7, false)))) rfl rfl ?_
      refine pS (by kernel_rfl : opAt F3.o1 9 = some (some 43, .call { callee := .builtin .len, args := #[(.tmp 42)], argTypes := #[23] }, (some (7, false)))) rfl rfl ?_
      refine pS (by kernel_rfl : opAt F3.o1 10 = some (some 44, .binOp .gtr 3 (.tmp 43) (.const (.int .i64 12)) 3, (some (7, false)))) rfl rfl ?_
      refine yS (by kernel_rfl : opAt F3.o1 11 = some (some 45, .pick (.tmp 41) (.const (.bool true)) (.tmp 44), none)) rfl rfl (fun w' hS => val_pick_t rfl rfl) ?_
      refine yS (by kernel_rfl : opAt F3.o1 12 = some (some 46, .move (.tmp 45), none)) rfl rfl (fun w' hS => val_move rfl) ?_
      refine pS (by kernel_rfl : opAt F3.o1 13 = some (some 47, .move (.tmp 2), (some (12, false)))) rfl rfl ?_
      refine pS (by kernel_rfl : opAt F3.o1 14 = some (some 48, .call { callee := .builtin .len, args := #[(.tmp 47)], argTypes := #[22] }, (some (12, false)))) rfl rfl ?_
      refine pS (by kernel_rfl : opAt F3.o1 15 = some (some 49, .binOp .gtr 3 (.tmp 48) (.const (.int .i64 40)) 3, (some (12, false)))) rfl rfl ?_
      refine yS (by kernel_rfl : opAt F3.o1 16 = some (some 50, .pick (.tmp 46) (.const (.bool true)) (.tmp 49), none)) rfl rfl (fun w' hS => val_pick_t rfl rfl) ?_
      refine yS (by kernel_rfl : opAt F3.o1 17 = some (some 51, .move (.tmp 50), none)) rfl rfl (fun w' hS => val_move rfl) ?_
      refine pS (by kernel_rfl : opAt F3.o1 18 = some (some 52, .move (.tmp 3), (some (17, false)))) rfl rfl ?_
      refine pS (by kernel_rfl : opAt F3.o1 19 = some (some 53, .call { callee := .builtin .len, args := #[(.tmp 52)], argTypes := #[22] }, (some (17, false)))) rfl rfl ?_
      refine pS (by kernel_rfl : opAt F3.o1 20 = some (some 54, .binOp .gtr 3 (.tmp 53) (.const (.int .i64 300)) 3, (some (17, false)))) rfl rfl ?_
      refine yS (by kernel_rfl : opAt F3.o1 21 = some (some 55, .pick (.tmp 51) (.const (.bool true)) (.tmp 54), none)) rfl rfl (fun w' hS => val_pick_t rfl rfl) ?_
      exact Sch.nil (hcut _ _ _ hcs rfl (by rw [decide_eq_true (by omega)]) (sub_skip rfl (sub_skip rfl (sub_skip rfl (sub_skip rfl (sub_skip rfl (sub_skip rfl (sub_skip rfl (sub_skip rfl (sub_skip rfl (sub_skip rfl (sub_skip rfl (sub_skip rfl (sub_skip rfl (sub_skip rfl (sub_skip rfl (sub_skip rfl (sub_skip rfl (sub_skip rfl (sub_skip rfl (sub_skip rfl (sub_skip rfl (sub_skip rfl (Sub.refl _))))))))))))))))))))))))
  intro w9 hs
  replace hF := hF.st hs
  replace hT := hT.trans hs (by simp)
  replace hl := hl.st hs (by first | decide | (simp <;> omega))
  replace hraw := hraw.st hs (by first | decide | (simp <;> omega))
  replace hodd := hodd.st hs (by first | decide | (simp <;> omega))
  replace hprs := hprs.st hs (by first | decide | (simp <;> omega))
  refine run_if (x := F3.c6) (y := F3.c9) (o := .tmp 55) (by kernel_rfl) rfl (fun h55 => ?_) (fun h55 => ?_)
  · skip
    refine run_seq (x := F3.c7) (y := F3.c8) (by kernel_rfl) ?_
    refine run_plain (id := 2) (ops := F3.o2) [(0, false), (1, true)] (by kernel_rfl) (by kernel_rfl) ?_
    refine cS (by kernel_rfl : opAt F3.o2 0 = some (some 56, .call { callee := .value (.func 9), args := #[], argTypes := #[] }, none)) rfl rfl (ent Try.call9 rfl) (awake_ok hF) ?_
    rintro vw10 w10 ⟨rfl, hs⟩
    refine ⟨trivial, ?_⟩
    replace hF := hF.st hs
    replace hT := hT.trans hs (by simp)
    replace hl := hl.st hs (by first | decide | (simp <;> omega))
    replace hraw := hraw.st hs (by first | decide | (simp <;> omega))
    replace hodd := hodd.st hs (by first | decide | (simp <;> omega))
    replace hprs := hprs.st hs (by first | decide | (simp <;> omega))
    refine yS (by kernel_rfl : opAt F3.o2 1 = some (some 12, .assign (.tmp 56), none)) rfl rfl (fun w' hS => val_assign rfl) ?_
    refine Sch.nil ?_
    refine run_ret1 (by kernel_rfl) Try.func3 Try.results3 rfl ?_
    exact ⟨rfl, hT.out1 (by decide)⟩
  · skip
    refine run_skip (by kernel_rfl) ?_
    refine run_seq (x := F3.c11) (y := F3.c33) (by kernel_rfl) ?_
    refine run_seq (x := F3.c12) (y := F3.c13) (by kernel_rfl) ?_
    refine run_plain (id := 3) (ops := F3.o3) [(0, true), (1, true), (2, true)] (by kernel_rfl) (by kernel_rfl) ?_
    refine yS (by kernel_rfl : opAt F3.o3 0 = some (some 57, .move (.tmp 1), none)) rfl rfl (fun w' hS => val_move rfl) ?_
    refine yS (by kernel_rfl : opAt F3.o3 1 = some (some 58, .call { callee := .builtin .len, args := #[(.tmp 57)], argTypes := #[23] }, none)) rfl rfl (fun w' hS => hraw.lenV rfl Try.underlying23 w' ) ?_
    refine yS (by kernel_rfl : opAt F3.o3 2 = some (some 59, .move (.const (.int .i64 0)), none)) rfl rfl (fun w' hS => val_move rfl) ?_
    refine Sch.nil ?_
    refine run_block (x := F3.c14) (id := 0) (by kernel_rfl) ?_
    
    refine run_loop (ι := Nat × (Nat → Nat)) (I := fun x w => x.1 ≤ raw.length ∧ (∀ p, p < x.1 → ∀ hh : p < raw.length, raw[p].comps.length ≤ 12) ∧ Lim w x.2 ∧ Stp [2, 3, 4, 5, 6, 7, 8, 9] w₀ (col1 C) w x.2 ∧ RV w (Mc x.2) raw vraw ∧ RV w (Mc x.2) odd vodd ∧ RV w (Mc x.2) prs vprs ∧ RV w (Mc x.2) l vl) (e := fun x => [(0, vl), (1, vraw), (2, vodd), (3, vprs), (4, .int .i64 mask), (5, .int .i64 budget), (58, .int .i64 raw.length), (59, .int .i64 x.1)]) (m := fun x => raw.length - x.1) (x₀ := (0, col1 C)) (body := F3.c15) (by kernel_rfl) (sub_cons 0 rfl rfl (sub_cons 1 rfl rfl (sub_cons 2 rfl rfl (sub_cons 3 rfl rfl (sub_cons 4 rfl rfl (sub_cons 5 rfl rfl (sub_cons 58 rfl rfl (sub_cons 59 rfl rfl (sub_nil _))))))))) ?_ ?_
    · exact ⟨Nat.zero_le _, fun p hp => by simp at hp, hF, hT, hraw, hodd, hprs, hl⟩
    intro ⟨i1, C1⟩ w11 hI next
    obtain ⟨hi1, h0, hF, hT, hraw, hodd, hprs, hl⟩ := hI
    try simp only at hi1 h0 hF hT hraw hodd hprs hl
    have next1 := next
    clear next
    show Run _ _ _ _ [(0, vl), (1, vraw), (2, vodd), (3, vprs), (4, .int .i64 mask), (5, .int .i64 budget), (58, .int .i64 raw.length), (59, .int .i64 i1)] _ _
    refine run_seq (x := F3.c16) (y := F3.c17) (by kernel_rfl) ?_
    refine run_plain (id := 4) (ops := F3.o4) [(0, true)] (by kernel_rfl) (by kernel_rfl) ?_
    refine yS (by kernel_rfl : opAt F3.o4 0 = some (some 60, .binOp .lss 3 (.tmp 59) (.tmp 58) 3, none)) rfl rfl (fun w' hS => val_lss rfl rfl) ?_
    refine Sch.nil ?_
    refine run_seq (x := F3.c18) (y := F3.c21) (by kernel_rfl) ?_
    refine run_if (x := F3.c19) (y := F3.c20) (o := .tmp 60) (by kernel_rfl) rfl (fun h60 => ?_) (fun h60 => ?_)
    · skip
      have hil : i1 < raw.length := by omega
      refine run_skip (by kernel_rfl) ?_
      refine run_seq (x := F3.c22) (y := F3.c32) (by kernel_rfl) ?_
      refine run_block (x := F3.c23) (id := 1) (by kernel_rfl) ?_
      refine run_seq (x := F3.c24) (y := F3.c25) (by kernel_rfl) ?_
      refine run_plain (id := 5) (ops := F3.o5) [(0, true), (1, true)] (by kernel_rfl) (by kernel_rfl) ?_
      refine yS (by kernel_rfl : opAt F3.o5 0 = some (some 61, .move (.tmp 59), none)) rfl rfl (fun w' hS => val_move rfl) ?_
      refine yS (by kernel_rfl : opAt F3.o5 1 = some (some 13, .assign (.tmp 61), none)) rfl rfl (fun w' hS => val_assign rfl) ?_
      refine Sch.nil ?_
      refine run_seq (x := F3.c26) (y := F3.c27) (by kernel_rfl) ?_
      refine run_plain (id := 6) (ops := F3.o6) [(0, true), (1, true), (2, true), (3, true), (4, false), (5, true), (6, true)] (by kernel_rfl) (by kernel_rfl) ?_
      refine yS (by kernel_rfl : opAt F3.o6 0 = some (some 62, .move (.tmp 1), none)) rfl rfl (fun w' hS => val_move rfl) ?_
      refine yS (by kernel_rfl : opAt F3.o6 1 = some (some 63, .move (.tmp 13), none)) rfl rfl (fun w' hS => val_move rfl) ?_
      refine iS (e := 28) (by kernel_rfl : opAt F3.o6 2 = some (some 64, .indexAddr 23 (.tmp 62) (.tmp 63), none)) rfl rfl hraw rfl (by kernel_rfl) rfl (by omega) (by omega) ?_
      intro b64 o64 h64
      try simp only [Int.toNat_natCast] at h64
      have h65 := RA.comps h64
      refine yS (by kernel_rfl : opAt F3.o6 3 = some (some 65, .fieldAddr 28 (.tmp 64) 0, none)) rfl rfl (fun w' hS => val_fieldAddr (off := 0) (by kernel_rfl) rfl) ?_
      refine lN (by kernel_rfl : opAt F3.o6 4 = some (some 66, .load 26 (.tmp 65), none)) rfl rfl trivial h65 (by kernel_rfl) rfl rfl ?_
      intro v66 g66
      refine yS (by kernel_rfl : opAt F3.o6 5 = some (some 67, .call { callee := .builtin .len, args := #[(.tmp 66)], argTypes := #[26] }, none)) rfl rfl (fun w' hS => g66.lenV rfl Try.underlying26 w' ) ?_
      refine yS (by kernel_rfl : opAt F3.o6 6 = some (some 68, .binOp .gtr 3 (.tmp 67) (.const (.int .i64 12)) 3, none)) rfl rfl (fun w' hS => val_gtr rfl rfl) ?_
      refine Sch.nil ?_
      refine run_if (x := F3.c28) (y := F3.c31) (o := .tmp 68) (by kernel_rfl) rfl (fun h68 => ?_) (fun h68 => ?_)
      · skip
        refine run_seq (x := F3.c29) (y := F3.c30) (by kernel_rfl) ?_
        refine run_plain (id := 7) (ops := F3.o7) [(0, true)] (by kernel_rfl) (by kernel_rfl) ?_
        refine yS (by kernel_rfl : opAt F3.o7 0 = some (some 12, .assign (.const (.bool true)), none)) rfl rfl (fun w' hS => val_assign rfl) ?_
        refine Sch.nil ?_
        refine run_ret1 (by kernel_rfl) Try.func3 Try.results3 rfl ?_
        exact ⟨rfl, hT.out1 (by decide)⟩
      · skip
        refine run_skip (by kernel_rfl) ?_
        refine run_inBlock ?_
        refine run_plain (id := 8) (ops := F3.o8) [(0, true), (1, true)] (by kernel_rfl) (by kernel_rfl) ?_
        refine yS (by kernel_rfl : opAt F3.o8 0 = some (some 69, .binOp .add 3 (.tmp 59) (.const (.int .i64 1)) 3, none)) rfl rfl (fun w' hS => val_addi rfl rfl (by omega) (by omega)) ?_
        refine yS (by kernel_rfl : opAt F3.o8 1 = some (some 59, .move (.tmp 69), none)) rfl rfl (fun w' hS => val_move rfl) ?_
        refine Sch.nil ?_
        refine kp (sub_cons 0 rfl rfl (sub_cons 1 rfl rfl (sub_cons 2 rfl rfl (sub_cons 3 rfl rfl (sub_cons 4 rfl rfl (sub_cons 5 rfl rfl (sub_cons 58 rfl rfl (sub_cons 59 rfl (eq_int (by simp)) (sub_nil _))))))))) (next1 (i1 + 1, C1) _ ⟨(by first | omega | (simp only; omega)), (fun p hp hh => by
            simp only at hp
            by_cases e : p = i1
            · subst e; omega
            · exact h0 p (by omega) hh), hF, hT, hraw, hodd, hprs, hl⟩ (by first | omega | (simp only; omega)))
    · skip
      have hsmR : KeysSm raw := ⟨by omega, fun k hk => by
        obtain ⟨p, hp, rfl⟩ := List.mem_iff_getElem.1 hk
        exact h0 p (by omega) hp⟩
      refine run_exit (id := 0) (by kernel_rfl) rfl ?_
      refine run_seq (x := F3.c34) (y := F3.c35) (by kernel_rfl) ?_
      refine run_plain (id := 9) (ops := F3.o9) [(0, true), (1, false), (2, true)] (by kernel_rfl) (by kernel_rfl) ?_
      refine yS (by kernel_rfl : opAt F3.o9 0 = some (some 70, .move (.tmp 0), none)) rfl rfl (fun w' hS => val_move rfl) ?_
      refine cS (by kernel_rfl : opAt F3.o9 1 = some (some 71, .call { callee := .value (.func 11), args := #[(.tmp 70)], argTypes := #[22] }, none)) rfl rfl (ent Try.call11 rfl) (new_any hF hl) ?_
      rintro vw12 w12 ⟨Cd, bd, rfl, hs, hF, hd⟩
      refine ⟨trivial, ?_⟩
      replace hT := hT.trans hs (by simp)
      replace hraw := hraw.st hs (by first | decide | (simp <;> omega))
      replace hodd := hodd.st hs (by first | decide | (simp <;> omega))
      replace hprs := hprs.st hs (by first | decide | (simp <;> omega))
      replace hl := hl.st hs (by first | decide | (simp <;> omega))
      refine yS (by kernel_rfl : opAt F3.o9 2 = some (some 14, .assign (.tmp 71), none)) rfl rfl (fun w' hS => val_assign rfl) ?_
      refine Sch.nil ?_
      refine run_seq (x := F3.c36) (y := F3.c37) (by kernel_rfl) ?_
      refine run_plain (id := 10) (ops := F3.o10) [(0, true), (1, false), (2, true)] (by kernel_rfl) (by kernel_rfl) ?_
      refine yS (by kernel_rfl : opAt F3.o10 0 = some (some 72, .move (.tmp 14), none)) rfl rfl (fun w' hS => val_move rfl) ?_
      refine cS (by kernel_rfl : opAt F3.o10 1 = some (some 73, .call { callee := .value (.func 12), args := #[(.tmp 72), (.const (.int .i64 4))], argTypes := #[29, 3] }, none)) rfl rfl (ent Try.call12 rfl) (keys_ok (most := 4) hF (by decide) hd (by decide)) ?_
      rintro vk w13 ⟨ks, hs, hk, hd, hkl, hkk⟩
      refine ⟨trivial, ?_⟩
      replace hF := hF.st hs
      replace hT := hT.trans hs (by simp)
      replace hraw := hraw.st hs (by first | decide | (simp <;> omega))
      replace hodd := hodd.st hs (by first | decide | (simp <;> omega))
      replace hprs := hprs.st hs (by first | decide | (simp <;> omega))
      replace hl := hl.st hs (by first | decide | (simp <;> omega))
      have hok : KeysOK ks := fun k hk => ⟨(hkk k hk).1, fun c hc => by have := (hkk k hk).2 c hc; omega⟩
      have hsm : KeysSm ks := hok.sm (by omega)
      have hatl : (atomsS ks).length ≤ 8 := atomsS_bound hok (n := 4) (fun k hk c hc => ((hkk k hk).2 c hc).2.1)
      refine yS (by kernel_rfl : opAt F3.o10 2 = some (some 15, .assign (.tmp 73), none)) rfl rfl (fun w' hS => val_assign rfl) ?_
      refine Sch.nil ?_
      refine run_seq (x := F3.c38) (y := F3.c152) (by kernel_rfl) ?_
      refine run_seq (x := F3.c39) (y := F3.c40) (by kernel_rfl) ?_
      refine run_plain (id := 11) (ops := F3.o11) [(0, true), (1, true), (2, false), (3, true), (4, true)] (by kernel_rfl) (by kernel_rfl) ?_
      refine yS (by kernel_rfl : opAt F3.o11 0 = some (some 74, .move (.tmp 1), none)) rfl rfl (fun w' hS => val_move rfl) ?_
      refine yS (by kernel_rfl : opAt F3.o11 1 = some (some 75, .move (.tmp 15), none)) rfl rfl (fun w' hS => val_move rfl) ?_
      refine aS (by kernel_rfl : opAt F3.o11 2 = some (some 76, .buildSlice 32 2 #[(0, (.tmp 74)), (1, (.tmp 75))], none)) rfl rfl (a_buildSlice (ys := ([raw, ks] : List (List Key))) (e := 23) (bytes := 24) hF (by kernel_rfl) rfl (by decide) (by decide) ⟨rfl, ⟨_, rfl, hraw⟩, rfl, ⟨_, rfl, hk⟩, trivial⟩) ?_
      rintro v76 w14 ⟨hs, g76, hF⟩
      refine ⟨trivial, ?_⟩
      replace hT := hT.trans hs (by simp)
      replace hraw := hraw.st hs (by first | decide | (simp <;> omega))
      replace hodd := hodd.st hs (by first | decide | (simp <;> omega))
      replace hprs := hprs.st hs (by first | decide | (simp <;> omega))
      replace hl := hl.st hs (by first | decide | (simp <;> omega))
      replace hd := hd.st hs (by first | decide | (simp <;> omega)) (by first | decide | (simp <;> omega))
      replace hk := hk.st hs (by first | decide | (simp <;> omega))
      obtain ⟨kls, hkls⟩ : ∃ l : List (List Key), l = [raw, ks] := ⟨_, rfl⟩
      rw [← hkls] at g76
      have hkll : kls.length = 2 := by rw [hkls]; rfl
      have hkla : ∀ k ∈ kls, KeysSm k := fun k hk => by rw [hkls] at hk; simp only [List.mem_cons, List.not_mem_nil, or_false] at hk; rcases hk with rfl | rfl <;> assumption
      refine yS (by kernel_rfl : opAt F3.o11 3 = some (some 77, .call { callee := .builtin .len, args := #[(.tmp 76)], argTypes := #[32] }, none)) rfl rfl (fun w' hS => g76.lenV rfl Try.underlying32 w' ) ?_
      refine yS (by kernel_rfl : opAt F3.o11 4 = some (some 78, .move (.const (.int .i64 0)), none)) rfl rfl (fun w' hS => val_move rfl) ?_
      refine Sch.nil ?_
      refine run_block (x := F3.c41) (id := 2) (by kernel_rfl) ?_
      
      refine run_loop (ι := Nat × (Nat → Nat)) (I := fun x w => x.1 ≤ kls.length ∧ Lim w x.2 ∧ Stp [2, 3, 4, 5, 6, 7, 8, 9] w₀ (col1 C) w x.2 ∧ RV w (Mc x.2) odd vodd ∧ RV w (Mc x.2) prs vprs ∧ DeckIs w x.2 3 bd ∧ RV w (Mc x.2) kls v76) (e := fun x => [(2, vodd), (3, vprs), (4, .int .i64 mask), (5, .int .i64 budget), (14, .pointer (some ⟨bd, 0, none⟩)), (76, v76), (77, .int .i64 kls.length), (78, .int .i64 x.1)]) (m := fun x => kls.length - x.1) (x₀ := (0, Cd)) (body := F3.c42) (by kernel_rfl) (sub_cons 2 rfl rfl (sub_cons 3 rfl rfl (sub_cons 4 rfl rfl (sub_cons 5 rfl rfl (sub_cons 14 rfl rfl (sub_cons 76 rfl rfl (sub_cons 77 rfl rfl (sub_cons 78 rfl rfl (sub_nil _))))))))) ?_ ?_
      · exact ⟨Nat.zero_le _, hF, hT, hodd, hprs, hd, g76⟩
      intro ⟨i2, C1⟩ w15 hI next
      obtain ⟨hi2, hF, hT, hodd, hprs, hd, g76⟩ := hI
      try simp only at hi2 hF hT hodd hprs hd g76
      have next2 := next
      clear next
      show Run _ _ _ _ [(2, vodd), (3, vprs), (4, .int .i64 mask), (5, .int .i64 budget), (14, .pointer (some ⟨bd, 0, none⟩)), (76, v76), (77, .int .i64 kls.length), (78, .int .i64 i2)] _ _
      refine run_seq (x := F3.c43) (y := F3.c44) (by kernel_rfl) ?_
      refine run_plain (id := 12) (ops := F3.o12) [(0, true)] (by kernel_rfl) (by kernel_rfl) ?_
      refine yS (by kernel_rfl : opAt F3.o12 0 = some (some 79, .binOp .lss 3 (.tmp 78) (.tmp 77) 3, none)) rfl rfl (fun w' hS => val_lss rfl rfl) ?_
      refine Sch.nil ?_
      refine run_seq (x := F3.c45) (y := F3.c48) (by kernel_rfl) ?_
      refine run_if (x := F3.c46) (y := F3.c47) (o := .tmp 79) (by kernel_rfl) rfl (fun h79 => ?_) (fun h79 => ?_)
      · skip
        have hil2 : i2 < kls.length := by omega
        refine run_skip (by kernel_rfl) ?_
        refine run_seq (x := F3.c49) (y := F3.c151) (by kernel_rfl) ?_
        refine run_block (x := F3.c50) (id := 3) (by kernel_rfl) ?_
        refine run_seq (x := F3.c51) (y := F3.c52) (by kernel_rfl) ?_
        refine run_plain (id := 13) (ops := F3.o13) [(0, true), (1, false), (2, true)] (by kernel_rfl) (by kernel_rfl) ?_
        refine iS (e := 23) (by kernel_rfl : opAt F3.o13 0 = some (some 80, .indexAddr 32 (.tmp 76) (.tmp 78), none)) rfl rfl g76 rfl (by kernel_rfl) rfl (by omega) (by omega) ?_
        intro b80 o80 h80
        try simp only [Int.toNat_natCast] at h80
        refine lN (by kernel_rfl : opAt F3.o13 1 = some (some 81, .load 23 (.tmp 80), none)) rfl rfl trivial h80 (by kernel_rfl) rfl rfl ?_
        intro v81 g81
        obtain ⟨K, hK⟩ : ∃ K, K = kls[i2] := ⟨_, rfl⟩
        rw [← hK] at g81
        have hsm : KeysSm K := by rw [hK]; exact hkla _ (List.getElem_mem _)
        have hKl := hsm.1
        refine yS (by kernel_rfl : opAt F3.o13 2 = some (some 17, .assign (.tmp 81), none)) rfl rfl (fun w' hS => val_assign rfl) ?_
        refine Sch.nil ?_
        refine run_seq (x := F3.c53) (y := F3.c60) (by kernel_rfl) ?_
        refine run_seq (x := F3.c54) (y := F3.c55) (by kernel_rfl) ?_
        refine run_plain (id := 14) (ops := F3.o14) [(0, true), (1, false), (2, true), (3, false), (4, false), (5, true)] (by kernel_rfl) (by kernel_rfl) ?_
        refine yS (by kernel_rfl : opAt F3.o14 0 = some (some 82, .move (.tmp 17), none)) rfl rfl (fun w' hS => val_move rfl) ?_
        refine cS (by kernel_rfl : opAt F3.o14 1 = some (some 83, .call { callee := .value (.func 14), args := #[(.tmp 82)], argTypes := #[23] }, none)) rfl rfl (ent Try.call14 rfl) (atoms_ok hF g81 hsm) ?_
        rintro vw16 w16 ⟨hs, ha1⟩
        refine ⟨trivial, ?_⟩
        replace hF := hF.st hs
        replace hT := hT.trans hs (by simp)
        replace hodd := hodd.st hs (by first | decide | (simp <;> omega))
        replace hprs := hprs.st hs (by first | decide | (simp <;> omega))
        replace hd := hd.st hs (by first | decide | (simp <;> omega)) (by first | decide | (simp <;> omega))
        replace g76 := g76.st hs (by first | decide | (simp <;> omega))
        replace h80 := h80.st hs (by first | decide | (simp <;> omega))
        replace g81 := g81.st hs (by first | decide | (simp <;> omega))
        refine yS (by kernel_rfl : opAt F3.o14 2 = some (some 84, .move (.tmp 17), none)) rfl rfl (fun w' hS => val_move rfl) ?_
        refine cS (by kernel_rfl : opAt F3.o14 3 = some (some 85, .call { callee := .value (.func 15), args := #[(.tmp 84)], argTypes := #[23] }, none)) rfl rfl (ent Try.call15 rfl) (refAtoms_ok hF g81 hsm) ?_
        rintro vw17 w17 ⟨hs, ha2⟩
        refine ⟨trivial, ?_⟩
        replace hF := hF.st hs
        replace hT := hT.trans hs (by simp)
        replace hodd := hodd.st hs (by first | decide | (simp <;> omega))
        replace hprs := hprs.st hs (by first | decide | (simp <;> omega))
        replace hd := hd.st hs (by first | decide | (simp <;> omega)) (by first | decide | (simp <;> omega))
        replace g76 := g76.st hs (by first | decide | (simp <;> omega))
        replace h80 := h80.st hs (by first | decide | (simp <;> omega))
        replace g81 := g81.st hs (by first | decide | (simp <;> omega))
        replace ha1 := ha1.st hs (by first | decide | (simp <;> omega))
        refine cS (by kernel_rfl : opAt F3.o14 4 = some (some 86, .call { callee := .value (.func 13), args := #[(.tmp 83), (.tmp 85)], argTypes := #[26, 26] }, none)) rfl rfl (ent Try.call13 rfl) (sameAtoms_same hF ha1 ha2) ?_
        rintro vw18 w18 ⟨rfl, hs⟩
        refine ⟨trivial, ?_⟩
        replace hF := hF.st hs
        replace hT := hT.trans hs (by simp)
        replace hodd := hodd.st hs (by first | decide | (simp <;> omega))
        replace hprs := hprs.st hs (by first | decide | (simp <;> omega))
        replace hd := hd.st hs (by first | decide | (simp <;> omega)) (by first | decide | (simp <;> omega))
        replace g76 := g76.st hs (by first | decide | (simp <;> omega))
        replace h80 := h80.st hs (by first | decide | (simp <;> omega))
        replace g81 := g81.st hs (by first | decide | (simp <;> omega))
        replace ha1 := ha1.st hs (by first | decide | (simp <;> omega))
        replace ha2 := ha2.st hs (by first | decide | (simp <;> omega))
        refine yS (by kernel_rfl : opAt F3.o14 5 = some (some 87, .unOp .not 4 (.tmp 86), none)) rfl rfl (fun w' hS => val_not rfl) ?_
        refine Sch.nil ?_
        refine run_cond (x := F3.c56) (y := F3.c59) (o := .tmp 87) (b := false) (by kernel_rfl) rfl (fun h => by cases h) (fun _ => ?_)
        refine run_skip (by kernel_rfl) ?_
        refine run_seq (x := F3.c61) (y := F3.c62) (by kernel_rfl) ?_
        refine run_plain (id := 16) (ops := F3.o16) [(0, true), (1, true), (2, true), (3, false), (4, false), (5, true), (6, true)] (by kernel_rfl) (by kernel_rfl) ?_
        refine yS (by kernel_rfl : opAt F3.o16 0 = some (some 88, .move (.tmp 2), none)) rfl rfl (fun w' hS => val_move rfl) ?_
        refine yS (by kernel_rfl : opAt F3.o16 1 = some (some 89, .move (.tmp 14), none)) rfl rfl (fun w' hS => val_move rfl) ?_
        refine yS (by kernel_rfl : opAt F3.o16 2 = some (some 90, .move (.tmp 17), none)) rfl rfl (fun w' hS => val_move rfl) ?_
        refine cS (by kernel_rfl : opAt F3.o16 3 = some (some 91, .call { callee := .value (.func 16), args := #[(.tmp 89), (.tmp 90)], argTypes := #[29, 23] }, none)) rfl rfl (ent Try.call16 rfl) (rates_ok hF (by decide) hd g81 hsm) ?_
        rintro vr w19 ⟨rs, hs, hr, hd, hrl, hro⟩
        refine ⟨trivial, ?_⟩
        replace hF := hF.st hs
        replace hT := hT.trans hs (by simp)
        replace hodd := hodd.st hs (by first | decide | (simp <;> omega))
        replace hprs := hprs.st hs (by first | decide | (simp <;> omega))
        replace g76 := g76.st hs (by first | decide | (simp <;> omega))
        replace h80 := h80.st hs (by first | decide | (simp <;> omega))
        replace g81 := g81.st hs (by first | decide | (simp <;> omega))
        replace ha1 := ha1.st hs (by first | decide | (simp <;> omega))
        replace ha2 := ha2.st hs (by first | decide | (simp <;> omega))
        refine aS (by kernel_rfl : opAt F3.o16 4 = some (some 92, .buildSlice 36 2 #[(0, (.tmp 88)), (1, (.tmp 91))], none)) rfl rfl (a_buildSlice (ys := ([odd, rs] : List (List Int))) (e := 22) (bytes := 24) hF (by kernel_rfl) rfl (by decide) (by decide) ⟨rfl, ⟨_, rfl, hodd⟩, rfl, ⟨_, rfl, hr⟩, trivial⟩) ?_
        rintro v92 w20 ⟨hs, g92, hF⟩
        refine ⟨trivial, ?_⟩
        replace hT := hT.trans hs (by simp)
        replace hodd := hodd.st hs (by first | decide | (simp <;> omega))
        replace hprs := hprs.st hs (by first | decide | (simp <;> omega))
        replace hd := hd.st hs (by first | decide | (simp <;> omega)) (by first | decide | (simp <;> omega))
        replace g76 := g76.st hs (by first | decide | (simp <;> omega))
        replace h80 := h80.st hs (by first | decide | (simp <;> omega))
        replace g81 := g81.st hs (by first | decide | (simp <;> omega))
        replace ha1 := ha1.st hs (by first | decide | (simp <;> omega))
        replace ha2 := ha2.st hs (by first | decide | (simp <;> omega))
        replace hr := hr.st hs (by first | decide | (simp <;> omega))
        obtain ⟨rls, hrls⟩ : ∃ l : List (List Int), l = [odd, rs] := ⟨_, rfl⟩
        rw [← hrls] at g92
        have hrll : rls.length = 2 := by rw [hrls]; rfl
        refine yS (by kernel_rfl : opAt F3.o16 5 = some (some 93, .call { callee := .builtin .len, args := #[(.tmp 92)], argTypes := #[36] }, none)) rfl rfl (fun w' hS => g92.lenV rfl Try.underlying36 w' ) ?_
        refine yS (by kernel_rfl : opAt F3.o16 6 = some (some 94, .move (.const (.int .i64 0)), none)) rfl rfl (fun w' hS => val_move rfl) ?_
        refine Sch.nil ?_
        refine run_block (x := F3.c63) (id := 4) (by kernel_rfl) ?_
        
        refine run_loop (ι := Nat × (Nat → Nat)) (I := fun x w => x.1 ≤ rls.length ∧ Lim w x.2 ∧ Stp [2, 3, 4, 5, 6, 7, 8, 9] w₀ (col1 C) w x.2 ∧ RV w (Mc x.2) odd vodd ∧ RV w (Mc x.2) prs vprs ∧ DeckIs w x.2 3 bd ∧ RV w (Mc x.2) kls v76 ∧ RV w (Mc x.2) K v81 ∧ RV w (Mc x.2) rls v92) (e := fun x => [(2, vodd), (3, vprs), (4, .int .i64 mask), (5, .int .i64 budget), (14, .pointer (some ⟨bd, 0, none⟩)), (17, v81), (76, v76), (77, .int .i64 kls.length), (78, .int .i64 i2), (92, v92), (93, .int .i64 rls.length), (94, .int .i64 x.1)]) (m := fun x => rls.length - x.1) (x₀ := (0, C1)) (body := F3.c64) (by kernel_rfl) (sub_cons 2 rfl rfl (sub_cons 3 rfl rfl (sub_cons 4 rfl rfl (sub_cons 5 rfl rfl (sub_cons 14 rfl rfl (sub_cons 17 rfl rfl (sub_cons 76 rfl rfl (sub_cons 77 rfl rfl (sub_cons 78 rfl rfl (sub_cons 92 rfl rfl (sub_cons 93 rfl rfl (sub_cons 94 rfl rfl (sub_nil _))))))))))))) ?_ ?_
        · exact ⟨Nat.zero_le _, hF, hT, hodd, hprs, hd, g76, g81, g92⟩
        intro ⟨i3, C1⟩ w21 hI next
        obtain ⟨hi3, hF, hT, hodd, hprs, hd, g76, g81, g92⟩ := hI
        try simp only at hi3 hF hT hodd hprs hd g76 g81 g92
        have next3 := next
        clear next
        show Run _ _ _ _ [(2, vodd), (3, vprs), (4, .int .i64 mask), (5, .int .i64 budget), (14, .pointer (some ⟨bd, 0, none⟩)), (17, v81), (76, v76), (77, .int .i64 kls.length), (78, .int .i64 i2), (92, v92), (93, .int .i64 rls.length), (94, .int .i64 i3)] _ _
        refine run_seq (x := F3.c65) (y := F3.c66) (by kernel_rfl) ?_
        refine run_plain (id := 17) (ops := F3.o17) [(0, true)] (by kernel_rfl) (by kernel_rfl) ?_
        refine yS (by kernel_rfl : opAt F3.o17 0 = some (some 95, .binOp .lss 3 (.tmp 94) (.tmp 93) 3, none)) rfl rfl (fun w' hS => val_lss rfl rfl) ?_
        refine Sch.nil ?_
        refine run_seq (x := F3.c67) (y := F3.c70) (by kernel_rfl) ?_
        refine run_if (x := F3.c68) (y := F3.c69) (o := .tmp 95) (by kernel_rfl) rfl (fun h95 => ?_) (fun h95 => ?_)
        · skip
          have hil3 : i3 < rls.length := by omega
          refine run_skip (by kernel_rfl) ?_
          refine run_seq (x := F3.c71) (y := F3.c150) (by kernel_rfl) ?_
          refine run_block (x := F3.c72) (id := 5) (by kernel_rfl) ?_
          refine run_seq (x := F3.c73) (y := F3.c74) (by kernel_rfl) ?_
          refine run_plain (id := 18) (ops := F3.o18) [(0, true), (1, false), (2, true)] (by kernel_rfl) (by kernel_rfl) ?_
          refine iS (e := 22) (by kernel_rfl : opAt F3.o18 0 = some (some 96, .indexAddr 36 (.tmp 92) (.tmp 94), none)) rfl rfl g92 rfl (by kernel_rfl) rfl (by omega) (by omega) ?_
          intro b96 o96 h96
          try simp only [Int.toNat_natCast] at h96
          refine lN (by kernel_rfl : opAt F3.o18 1 = some (some 97, .load 22 (.tmp 96), none)) rfl rfl trivial h96 (by kernel_rfl) rfl rfl ?_
          intro v97 g97
          obtain ⟨R, hR⟩ : ∃ R, R = rls[i3] := ⟨_, rfl⟩
          rw [← hR] at g97
          refine yS (by kernel_rfl : opAt F3.o18 2 = some (some 19, .assign (.tmp 97), none)) rfl rfl (fun w' hS => val_assign rfl) ?_
          refine Sch.nil ?_
          refine run_seq (x := F3.c75) (y := F3.c82) (by kernel_rfl) ?_
          refine run_seq (x := F3.c76) (y := F3.c77) (by kernel_rfl) ?_
          refine run_plain (id := 19) (ops := F3.o19) [(0, true), (1, true), (2, false), (3, true), (4, true), (5, false), (6, true)] (by kernel_rfl) (by kernel_rfl) ?_
          refine yS (by kernel_rfl : opAt F3.o19 0 = some (some 98, .move (.tmp 17), none)) rfl rfl (fun w' hS => val_move rfl) ?_
          refine yS (by kernel_rfl : opAt F3.o19 1 = some (some 99, .move (.tmp 19), none)) rfl rfl (fun w' hS => val_move rfl) ?_
          refine cS (by kernel_rfl : opAt F3.o19 2 = some (some 100, .call { callee := .value (.func 17), args := #[(.tmp 98), (.tmp 99)], argTypes := #[23, 22] }, none)) rfl rfl (ent Try.call17 rfl) (check_ok hF g81 g97 hsm) ?_
          rintro vw22 w22 ⟨rfl, hs⟩
          refine ⟨trivial, ?_⟩
          replace hF := hF.st hs
          replace hT := hT.trans hs (by simp)
          replace hodd := hodd.st hs (by first | decide | (simp <;> omega))
          replace hprs := hprs.st hs (by first | decide | (simp <;> omega))
          replace hd := hd.st hs (by first | decide | (simp <;> omega)) (by first | decide | (simp <;> omega))
          replace g76 := g76.st hs (by first | decide | (simp <;> omega))
          replace g81 := g81.st hs (by first | decide | (simp <;> omega))
          replace g92 := g92.st hs (by first | decide | (simp <;> omega))
          replace h96 := h96.st hs (by first | decide | (simp <;> omega))
          replace g97 := g97.st hs (by first | decide | (simp <;> omega))
          refine yS (by kernel_rfl : opAt F3.o19 3 = some (some 101, .move (.tmp 17), none)) rfl rfl (fun w' hS => val_move rfl) ?_
          refine yS (by kernel_rfl : opAt F3.o19 4 = some (some 102, .move (.tmp 19), none)) rfl rfl (fun w' hS => val_move rfl) ?_
          refine cS (by kernel_rfl : opAt F3.o19 5 = some (some 103, .call { callee := .value (.func 18), args := #[(.tmp 101), (.tmp 102)], argTypes := #[23, 22] }, none)) rfl rfl (ent Try.call18 rfl) (refCheck_ok hF g81 g97 hsm) ?_
          rintro vw23 w23 ⟨rfl, hs⟩
          refine ⟨trivial, ?_⟩
          replace hF := hF.st hs
          replace hT := hT.trans hs (by simp)
          replace hodd := hodd.st hs (by first | decide | (simp <;> omega))
          replace hprs := hprs.st hs (by first | decide | (simp <;> omega))
          replace hd := hd.st hs (by first | decide | (simp <;> omega)) (by first | decide | (simp <;> omega))
          replace g76 := g76.st hs (by first | decide | (simp <;> omega))
          replace g81 := g81.st hs (by first | decide | (simp <;> omega))
          replace g92 := g92.st hs (by first | decide | (simp <;> omega))
          replace h96 := h96.st hs (by first | decide | (simp <;> omega))
          replace g97 := g97.st hs (by first | decide | (simp <;> omega))
          refine yS (by kernel_rfl : opAt F3.o19 6 = some (some 104, .binOp .neq 37 (.tmp 100) (.tmp 103) 37, none)) rfl rfl (fun w' hS => val_F (val_neq rfl rfl) (fun e => e rfl)) ?_
          refine Sch.nil ?_
          refine run_cond (x := F3.c78) (y := F3.c81) (o := .tmp 104) (b := false) (by kernel_rfl) rfl (fun h => by cases h) (fun _ => ?_)
          refine run_skip (by kernel_rfl) ?_
          refine run_seq (x := F3.c83) (y := F3.c109) (by kernel_rfl) ?_
          refine run_seq (x := F3.c84) (y := F3.c85) (by kernel_rfl) ?_
          refine run_plain (id := 21) (ops := F3.o21) [(0, true), (1, true), (2, false), (3, false), (4, true), (5, true)] (by kernel_rfl) (by kernel_rfl) ?_
          refine yS (by kernel_rfl : opAt F3.o21 0 = some (some 105, .move (.tmp 4), none)) rfl rfl (fun w' hS => val_move rfl) ?_
          refine yS (by kernel_rfl : opAt F3.o21 1 = some (some 106, .move (.tmp 14), none)) rfl rfl (fun w' hS => val_move rfl) ?_
          refine cS (by kernel_rfl : opAt F3.o21 2 = some (some 107, .call { callee := .value (.func 19), args := #[(.tmp 106), (.const (.int .i64 17))], argTypes := #[29, 3] }, none)) rfl rfl (ent Try.call19 rfl) (next_any (n := 17) hF (by decide) hd (by omega) (by omega)) ?_
          rintro vw24 w24 ⟨c, rfl, hc, hs, hd⟩
          refine ⟨trivial, ?_⟩
          replace hF := hF.st hs
          replace hT := hT.trans hs (by simp)
          replace hodd := hodd.st hs (by first | decide | (simp <;> omega))
          replace hprs := hprs.st hs (by first | decide | (simp <;> omega))
          replace g76 := g76.st hs (by first | decide | (simp <;> omega))
          replace g81 := g81.st hs (by first | decide | (simp <;> omega))
          replace g92 := g92.st hs (by first | decide | (simp <;> omega))
          replace h96 := h96.st hs (by first | decide | (simp <;> omega))
          replace g97 := g97.st hs (by first | decide | (simp <;> omega))
          refine aS (by kernel_rfl : opAt F3.o21 3 = some (some 108, .buildSlice 22 3 #[(0, (.tmp 105)), (1, (.const (.int .i64 0))), (2, (.tmp 107))], none)) rfl rfl (a_buildSlice (ys := ([mask, 0, (c : Int)] : List Int)) (e := 3) (bytes := 8) hF (by kernel_rfl) rfl (by decide) (by decide) ⟨rfl, ⟨_, rfl, rv_int.2 rfl⟩, rfl, ⟨_, rfl, rv_int.2 rfl⟩, rfl, ⟨_, rfl, rv_int.2 rfl⟩, trivial⟩) ?_
          rintro v108 w25 ⟨hs, g108, hF⟩
          refine ⟨trivial, ?_⟩
          replace hT := hT.trans hs (by simp)
          replace hodd := hodd.st hs (by first | decide | (simp <;> omega))
          replace hprs := hprs.st hs (by first | decide | (simp <;> omega))
          replace hd := hd.st hs (by first | decide | (simp <;> omega)) (by first | decide | (simp <;> omega))
          replace g76 := g76.st hs (by first | decide | (simp <;> omega))
          replace g81 := g81.st hs (by first | decide | (simp <;> omega))
          replace g92 := g92.st hs (by first | decide | (simp <;> omega))
          replace h96 := h96.st hs (by first | decide | (simp <;> omega))
          replace g97 := g97.st hs (by first | decide | (simp <;> omega))
          obtain ⟨ms, hms⟩ : ∃ l : List Int, l = [mask, 0, (c : Int)] := ⟨_, rfl⟩
          rw [← hms] at g108
          have hmsl : ms.length = 3 := by rw [hms]; rfl
          refine yS (by kernel_rfl : opAt F3.o21 4 = some (some 109, .call { callee := .builtin .len, args := #[(.tmp 108)], argTypes := #[22] }, none)) rfl rfl (fun w' hS => g108.lenV rfl Try.underlying22 w' ) ?_
          refine yS (by kernel_rfl : opAt F3.o21 5 = some (some 110, .move (.const (.int .i64 0)), none)) rfl rfl (fun w' hS => val_move rfl) ?_
          refine Sch.nil ?_
          refine run_block (x := F3.c86) (id := 6) (by kernel_rfl) ?_
          
          refine run_loop (ι := Nat × (Nat → Nat)) (I := fun x w => x.1 ≤ ms.length ∧ Lim w x.2 ∧ Stp [2, 3, 4, 5, 6, 7, 8, 9] w₀ (col1 C) w x.2 ∧ RV w (Mc x.2) odd vodd ∧ RV w (Mc x.2) prs vprs ∧ DeckIs w x.2 3 bd ∧ RV w (Mc x.2) kls v76 ∧ RV w (Mc x.2) K v81 ∧ RV w (Mc x.2) rls v92 ∧ RV w (Mc x.2) R v97 ∧ RV w (Mc x.2) ms v108) (e := fun x => [(2, vodd), (3, vprs), (4, .int .i64 mask), (5, .int .i64 budget), (14, .pointer (some ⟨bd, 0, none⟩)), (17, v81), (19, v97), (76, v76), (77, .int .i64 kls.length), (78, .int .i64 i2), (92, v92), (93, .int .i64 rls.length), (94, .int .i64 i3), (108, v108), (109, .int .i64 ms.length), (110, .int .i64 x.1)]) (m := fun x => ms.length - x.1) (x₀ := (0, C1)) (body := F3.c87) (by kernel_rfl) (sub_cons 2 rfl rfl (sub_cons 3 rfl rfl (sub_cons 4 rfl rfl (sub_cons 5 rfl rfl (sub_cons 14 rfl rfl (sub_cons 17 rfl rfl (sub_cons 19 rfl rfl (sub_cons 76 rfl rfl (sub_cons 77 rfl rfl (sub_cons 78 rfl rfl (sub_cons 92 rfl rfl (sub_cons 93 rfl rfl (sub_cons 94 rfl rfl (sub_cons 108 rfl rfl (sub_cons 109 rfl rfl (sub_cons 110 rfl rfl (sub_nil _))))))))))))))))) ?_ ?_
          · exact ⟨Nat.zero_le _, hF, hT, hodd, hprs, hd, g76, g81, g92, g97, g108⟩
          intro ⟨i4, C1⟩ w26 hI next
          obtain ⟨hi4, hF, hT, hodd, hprs, hd, g76, g81, g92, g97, g108⟩ := hI
          try simp only at hi4 hF hT hodd hprs hd g76 g81 g92 g97 g108
          have next4 := next
          clear next
          show Run _ _ _ _ [(2, vodd), (3, vprs), (4, .int .i64 mask), (5, .int .i64 budget), (14, .pointer (some ⟨bd, 0, none⟩)), (17, v81), (19, v97), (76, v76), (77, .int .i64 kls.length), (78, .int .i64 i2), (92, v92), (93, .int .i64 rls.length), (94, .int .i64 i3), (108, v108), (109, .int .i64 ms.length), (110, .int .i64 i4)] _ _
          refine run_seq (x := F3.c88) (y := F3.c89) (by kernel_rfl) ?_
          refine run_plain (id := 22) (ops := F3.o22) [(0, true)] (by kernel_rfl) (by kernel_rfl) ?_
          refine yS (by kernel_rfl : opAt F3.o22 0 = some (some 111, .binOp .lss 3 (.tmp 110) (.tmp 109) 3, none)) rfl rfl (fun w' hS => val_lss rfl rfl) ?_
          refine Sch.nil ?_
          refine run_seq (x := F3.c90) (y := F3.c93) (by kernel_rfl) ?_
          refine run_if (x := F3.c91) (y := F3.c92) (o := .tmp 111) (by kernel_rfl) rfl (fun h111 => ?_) (fun h111 => ?_)
          · skip
            have hil4 : i4 < ms.length := by omega
            obtain ⟨x1, e1, hxe⟩ := missE_pair K R ms[i4]
            refine run_skip (by kernel_rfl) ?_
            refine run_seq (x := F3.c94) (y := F3.c108) (by kernel_rfl) ?_
            refine run_block (x := F3.c95) (id := 7) (by kernel_rfl) ?_
            refine run_seq (x := F3.c96) (y := F3.c97) (by kernel_rfl) ?_
            refine run_plain (id := 23) (ops := F3.o23) [(0, true), (1, false), (2, true)] (by kernel_rfl) (by kernel_rfl) ?_
            refine iS (e := 3) (by kernel_rfl : opAt F3.o23 0 = some (some 112, .indexAddr 22 (.tmp 108) (.tmp 110), none)) rfl rfl g108 rfl (by kernel_rfl) rfl (by omega) (by omega) ?_
            intro b112 o112 h112
            try simp only [Int.toNat_natCast] at h112
            refine lN (by kernel_rfl : opAt F3.o23 1 = some (some 113, .load 3 (.tmp 112), none)) rfl rfl trivial h112 (by kernel_rfl) rfl rfl ?_
            intro v113 g113
            obtain rfl := rv_int.1 g113
            refine yS (by kernel_rfl : opAt F3.o23 2 = some (some 21, .assign (.tmp 113), none)) rfl rfl (fun w' hS => val_assign rfl) ?_
            refine Sch.nil ?_
            refine run_seq (x := F3.c98) (y := F3.c99) (by kernel_rfl) ?_
            refine run_plain (id := 24) (ops := F3.o24) [(0, true), (1, true), (2, true), (3, false), (4, true), (5, true), (6, true), (7, true), (8, true)] (by kernel_rfl) (by kernel_rfl) ?_
            refine yS (by kernel_rfl : opAt F3.o24 0 = some (some 115, .move (.tmp 17), none)) rfl rfl (fun w' hS => val_move rfl) ?_
            refine yS (by kernel_rfl : opAt F3.o24 1 = some (some 116, .move (.tmp 19), none)) rfl rfl (fun w' hS => val_move rfl) ?_
            refine yS (by kernel_rfl : opAt F3.o24 2 = some (some 117, .move (.tmp 21), none)) rfl rfl (fun w' hS => val_move rfl) ?_
            refine cS (by kernel_rfl : opAt F3.o24 3 = some (some 118, .call { callee := .value (.func 20), args := #[(.tmp 115), (.tmp 116), (.tmp 117)], argTypes := #[23, 22, 3] }, none)) rfl rfl (ent Try.call20 rfl) (missed_ok (mask := ms[i4]) hF g81 g97 hsm) ?_
            rintro vw27 w27 ⟨rfl, hs⟩
            refine ⟨trivial, ?_⟩
            replace hF := hF.st hs
            replace hT := hT.trans hs (by simp)
            replace hodd := hodd.st hs (by first | decide | (simp <;> omega))
            replace hprs := hprs.st hs (by first | decide | (simp <;> omega))
            replace hd := hd.st hs (by first | decide | (simp <;> omega)) (by first | decide | (simp <;> omega))
            replace g76 := g76.st hs (by first | decide | (simp <;> omega))
            replace g81 := g81.st hs (by first | decide | (simp <;> omega))
            replace g92 := g92.st hs (by first | decide | (simp <;> omega))
            replace g97 := g97.st hs (by first | decide | (simp <;> omega))
            replace g108 := g108.st hs (by first | decide | (simp <;> omega))
            replace h112 := h112.st hs (by first | decide | (simp <;> omega))
            rw [hxe]
            refine yS (by kernel_rfl : opAt F3.o24 4 = some (some 114, .move (.tmp 118), none)) rfl rfl (fun w' hS => val_move rfl) ?_
            refine yS (by kernel_rfl : opAt F3.o24 5 = some (some 119, .extract (.tmp 114) 0, none)) rfl rfl (fun w' hS => val_extract rfl rfl) ?_
            refine yS (by kernel_rfl : opAt F3.o24 6 = some (some 120, .extract (.tmp 114) 1, none)) rfl rfl (fun w' hS => val_extract rfl rfl) ?_
            refine yS (by kernel_rfl : opAt F3.o24 7 = some (some 22, .assign (.tmp 119), none)) rfl rfl (fun w' hS => val_assign rfl) ?_
            refine yS (by kernel_rfl : opAt F3.o24 8 = some (some 23, .assign (.tmp 120), none)) rfl rfl (fun w' hS => val_assign rfl) ?_
            refine Sch.nil ?_
            refine run_seq (x := F3.c100) (y := F3.c101) (by kernel_rfl) ?_
            refine run_plain (id := 25) (ops := F3.o25) [(0, true), (1, true), (2, true), (3, false), (4, true), (5, true), (6, true), (7, true), (8, true)] (by kernel_rfl) (by kernel_rfl) ?_
            refine yS (by kernel_rfl : opAt F3.o25 0 = some (some 122, .move (.tmp 17), none)) rfl rfl (fun w' hS => val_move rfl) ?_
            refine yS (by kernel_rfl : opAt F3.o25 1 = some (some 123, .move (.tmp 19), none)) rfl rfl (fun w' hS => val_move rfl) ?_
            refine yS (by kernel_rfl : opAt F3.o25 2 = some (some 124, .move (.tmp 21), none)) rfl rfl (fun w' hS => val_move rfl) ?_
            refine cS (by kernel_rfl : opAt F3.o25 3 = some (some 125, .call { callee := .value (.func 21), args := #[(.tmp 122), (.tmp 123), (.tmp 124)], argTypes := #[23, 22, 3] }, none)) rfl rfl (ent Try.call21 rfl) (refMissed_ok (mask := ms[i4]) hF g81 g97 hsm) ?_
            rintro vw28 w28 ⟨rfl, hs⟩
            refine ⟨trivial, ?_⟩
            replace hF := hF.st hs
            replace hT := hT.trans hs (by simp)
            replace hodd := hodd.st hs (by first | decide | (simp <;> omega))
            replace hprs := hprs.st hs (by first | decide | (simp <;> omega))
            replace hd := hd.st hs (by first | decide | (simp <;> omega)) (by first | decide | (simp <;> omega))
            replace g76 := g76.st hs (by first | decide | (simp <;> omega))
            replace g81 := g81.st hs (by first | decide | (simp <;> omega))
            replace g92 := g92.st hs (by first | decide | (simp <;> omega))
            replace g97 := g97.st hs (by first | decide | (simp <;> omega))
            replace g108 := g108.st hs (by first | decide | (simp <;> omega))
            replace h112 := h112.st hs (by first | decide | (simp <;> omega))
            rw [hxe]
            refine yS (by kernel_rfl : opAt F3.o25 4 = some (some 121, .move (.tmp 125), none)) rfl rfl (fun w' hS => val_move rfl) ?_
            refine yS (by kernel_rfl : opAt F3.o25 5 = some (some 126, .extract (.tmp 121) 0, none)) rfl rfl (fun w' hS => val_extract rfl rfl) ?_
            refine yS (by kernel_rfl : opAt F3.o25 6 = some (some 127, .extract (.tmp 121) 1, none)) rfl rfl (fun w' hS => val_extract rfl rfl) ?_
            refine yS (by kernel_rfl : opAt F3.o25 7 = some (some 24, .assign (.tmp 126), none)) rfl rfl (fun w' hS => val_assign rfl) ?_
            refine yS (by kernel_rfl : opAt F3.o25 8 = some (some 25, .assign (.tmp 127), none)) rfl rfl (fun w' hS => val_assign rfl) ?_
            refine Sch.nil ?_
            refine run_seq (x := F3.c102) (y := F3.c103) (by kernel_rfl) ?_
            refine run_plain (id := 26) (ops := F3.o26) [(0, true), (1, true), (2, true), (3, true), (4, true), (5, true), (6, true), (7, true)] (by kernel_rfl) (by kernel_rfl) ?_
            refine yS (by kernel_rfl : opAt F3.o26 0 = some (some 128, .move (.tmp 22), none)) rfl rfl (fun w' hS => val_move rfl) ?_
            refine yS (by kernel_rfl : opAt F3.o26 1 = some (some 129, .move (.tmp 24), none)) rfl rfl (fun w' hS => val_move rfl) ?_
            refine yS (by kernel_rfl : opAt F3.o26 2 = some (some 130, .binOp .neq 3 (.tmp 128) (.tmp 129) 3, none)) rfl rfl (fun w' hS => val_F (val_neq rfl rfl) (fun e => e rfl)) ?_
            refine yS (by kernel_rfl : opAt F3.o26 3 = some (some 131, .move (.tmp 130), none)) rfl rfl (fun w' hS => val_move rfl) ?_
            refine yS (by kernel_rfl : opAt F3.o26 4 = some (some 132, .move (.tmp 23), (some (3, false)))) rfl rfl (fun w' hS => val_move rfl) ?_
            refine yS (by kernel_rfl : opAt F3.o26 5 = some (some 133, .move (.tmp 25), (some (3, false)))) rfl rfl (fun w' hS => val_move rfl) ?_
            refine yS (by kernel_rfl : opAt F3.o26 6 = some (some 134, .binOp .neq 37 (.tmp 132) (.tmp 133) 37, (some (3, false)))) rfl rfl (fun w' hS => val_F (val_neq rfl rfl) (fun e => e rfl)) ?_
            refine yS (by kernel_rfl : opAt F3.o26 7 = some (some 135, .pick (.tmp 131) (.const (.bool true)) (.tmp 134), none)) rfl rfl (fun w' hS => val_pick_f rfl rfl) ?_
            refine Sch.nil ?_
            refine run_cond (x := F3.c104) (y := F3.c107) (o := .tmp 135) (b := false) (by kernel_rfl) rfl (fun h => by cases h) (fun _ => ?_)
            refine run_skip (by kernel_rfl) ?_
            refine run_inBlock ?_
            refine run_plain (id := 28) (ops := F3.o28) [(0, true), (1, true)] (by kernel_rfl) (by kernel_rfl) ?_
            refine yS (by kernel_rfl : opAt F3.o28 0 = some (some 136, .binOp .add 3 (.tmp 110) (.const (.int .i64 1)) 3, none)) rfl rfl (fun w' hS => val_addi rfl rfl (by omega) (by omega)) ?_
            refine yS (by kernel_rfl : opAt F3.o28 1 = some (some 110, .move (.tmp 136), none)) rfl rfl (fun w' hS => val_move rfl) ?_
            refine Sch.nil ?_
            refine kp (sub_cons 2 rfl rfl (sub_cons 3 rfl rfl (sub_cons 4 rfl rfl (sub_cons 5 rfl rfl (sub_cons 14 rfl rfl (sub_cons 17 rfl rfl (sub_cons 19 rfl rfl (sub_cons 76 rfl rfl (sub_cons 77 rfl rfl (sub_cons 78 rfl rfl (sub_cons 92 rfl rfl (sub_cons 93 rfl rfl (sub_cons 94 rfl rfl (sub_cons 108 rfl rfl (sub_cons 109 rfl rfl (sub_cons 110 rfl (eq_int (by simp)) (sub_nil _))))))))))))))))) (next4 (i4 + 1, C1) _ ⟨(by first | omega | (simp only; omega)), hF, hT, hodd, hprs, hd, g76, g81, g92, g97, g108⟩ (by first | omega | (simp only; omega)))
          · skip
            refine run_exit (id := 6) (by kernel_rfl) rfl ?_
            refine run_seq (x := F3.c110) (y := F3.c111) (by kernel_rfl) ?_
            refine run_plain (id := 29) (ops := F3.o29) [(0, true), (1, true), (2, true), (3, true), (4, true), (5, false), (6, false), (7, true), (8, true)] (by kernel_rfl) (by kernel_rfl) ?_
            refine yS (by kernel_rfl : opAt F3.o29 0 = some (some 137, .move (.tmp 3), none)) rfl rfl (fun w' hS => val_move rfl) ?_
            refine yS (by kernel_rfl : opAt F3.o29 1 = some (some 138, .move (.tmp 14), none)) rfl rfl (fun w' hS => val_move rfl) ?_
            refine yS (by kernel_rfl : opAt F3.o29 2 = some (some 139, .move (.tmp 17), none)) rfl rfl (fun w' hS => val_move rfl) ?_
            refine yS (by kernel_rfl : opAt F3.o29 3 = some (some 140, .call { callee := .builtin .len, args := #[(.tmp 139)], argTypes := #[23] }, none)) rfl rfl (fun w' hS => g81.lenV rfl Try.underlying23 w' ) ?_
            refine yS (by kernel_rfl : opAt F3.o29 4 = some (some 141, .call { callee := .builtin .min, args := #[(.tmp 140), (.const (.int .i64 5))], argTypes := #[3, 3] }, none)) rfl rfl (fun w' hS => val_is (val_min rfl rfl Try.underlying3) (congrArg (Value.int .i64) (show min (K.length : Int) 5 = ((min K.length 5 : Nat) : Int) from by omega))) ?_
            refine cS (by kernel_rfl : opAt F3.o29 5 = some (some 142, .call { callee := .value (.func 22), args := #[(.tmp 138), (.tmp 141)], argTypes := #[29, 3] }, none)) rfl rfl (ent Try.call22 rfl) (numbers_ok (n := min K.length 5) hF (by decide) hd (by omega)) ?_
            rintro vq w29 ⟨qs, hs, hq, hd, hql, hqb⟩
            refine ⟨trivial, ?_⟩
            replace hF := hF.st hs
            replace hT := hT.trans hs (by simp)
            replace hodd := hodd.st hs (by first | decide | (simp <;> omega))
            replace hprs := hprs.st hs (by first | decide | (simp <;> omega))
            replace g76 := g76.st hs (by first | decide | (simp <;> omega))
            replace g81 := g81.st hs (by first | decide | (simp <;> omega))
            replace g92 := g92.st hs (by first | decide | (simp <;> omega))
            replace g97 := g97.st hs (by first | decide | (simp <;> omega))
            replace g108 := g108.st hs (by first | decide | (simp <;> omega))
            refine aS (by kernel_rfl : opAt F3.o29 6 = some (some 143, .buildSlice 36 2 #[(0, (.tmp 137)), (1, (.tmp 142))], none)) rfl rfl (a_buildSlice (ys := ([prs, qs] : List (List Int))) (e := 22) (bytes := 24) hF (by kernel_rfl) rfl (by decide) (by decide) ⟨rfl, ⟨_, rfl, hprs⟩, rfl, ⟨_, rfl, hq⟩, trivial⟩) ?_
            rintro v143 w30 ⟨hs, g143, hF⟩
            refine ⟨trivial, ?_⟩
            replace hT := hT.trans hs (by simp)
            replace hodd := hodd.st hs (by first | decide | (simp <;> omega))
            replace hprs := hprs.st hs (by first | decide | (simp <;> omega))
            replace hd := hd.st hs (by first | decide | (simp <;> omega)) (by first | decide | (simp <;> omega))
            replace g76 := g76.st hs (by first | decide | (simp <;> omega))
            replace g81 := g81.st hs (by first | decide | (simp <;> omega))
            replace g92 := g92.st hs (by first | decide | (simp <;> omega))
            replace g97 := g97.st hs (by first | decide | (simp <;> omega))
            replace g108 := g108.st hs (by first | decide | (simp <;> omega))
            replace hq := hq.st hs (by first | decide | (simp <;> omega))
            obtain ⟨qls, hqls⟩ : ∃ l : List (List Int), l = [prs, qs] := ⟨_, rfl⟩
            rw [← hqls] at g143
            have hqll : qls.length = 2 := by rw [hqls]; rfl
            refine yS (by kernel_rfl : opAt F3.o29 7 = some (some 144, .call { callee := .builtin .len, args := #[(.tmp 143)], argTypes := #[36] }, none)) rfl rfl (fun w' hS => g143.lenV rfl Try.underlying36 w' ) ?_
            refine yS (by kernel_rfl : opAt F3.o29 8 = some (some 145, .move (.const (.int .i64 0)), none)) rfl rfl (fun w' hS => val_move rfl) ?_
            refine Sch.nil ?_
            refine run_block (x := F3.c112) (id := 8) (by kernel_rfl) ?_
            
            refine run_loop (ι := Nat × (Nat → Nat)) (I := fun x w => x.1 ≤ qls.length ∧ Lim w x.2 ∧ Stp [2, 3, 4, 5, 6, 7, 8, 9] w₀ (col1 C) w x.2 ∧ RV w (Mc x.2) odd vodd ∧ RV w (Mc x.2) prs vprs ∧ DeckIs w x.2 3 bd ∧ RV w (Mc x.2) kls v76 ∧ RV w (Mc x.2) K v81 ∧ RV w (Mc x.2) rls v92 ∧ RV w (Mc x.2) R v97 ∧ RV w (Mc x.2) qls v143) (e := fun x => [(2, vodd), (3, vprs), (4, .int .i64 mask), (5, .int .i64 budget), (14, .pointer (some ⟨bd, 0, none⟩)), (17, v81), (19, v97), (76, v76), (77, .int .i64 kls.length), (78, .int .i64 i2), (92, v92), (93, .int .i64 rls.length), (94, .int .i64 i3), (143, v143), (144, .int .i64 qls.length), (145, .int .i64 x.1)]) (m := fun x => qls.length - x.1) (x₀ := (0, C1)) (body := F3.c113) (by kernel_rfl) (sub_cons 2 rfl rfl (sub_cons 3 rfl rfl (sub_cons 4 rfl rfl (sub_cons 5 rfl rfl (sub_cons 14 rfl rfl (sub_cons 17 rfl rfl (sub_cons 19 rfl rfl (sub_cons 76 rfl rfl (sub_cons 77 rfl rfl (sub_cons 78 rfl rfl (sub_cons 92 rfl rfl (sub_cons 93 rfl rfl (sub_cons 94 rfl rfl (sub_cons 143 rfl rfl (sub_cons 144 rfl rfl (sub_cons 145 rfl rfl (sub_nil _))))))))))))))))) ?_ ?_
            · exact ⟨Nat.zero_le _, hF, hT, hodd, hprs, hd, g76, g81, g92, g97, g143⟩
            intro ⟨i5, C1⟩ w31 hI next
            obtain ⟨hi5, hF, hT, hodd, hprs, hd, g76, g81, g92, g97, g143⟩ := hI
            try simp only at hi5 hF hT hodd hprs hd g76 g81 g92 g97 g143
            have next5 := next
            clear next
            show Run _ _ _ _ [(2, vodd), (3, vprs), (4, .int .i64 mask), (5, .int .i64 budget), (14, .pointer (some ⟨bd, 0, none⟩)), (17, v81), (19, v97), (76, v76), (77, .int .i64 kls.length), (78, .int .i64 i2), (92, v92), (93, .int .i64 rls.length), (94, .int .i64 i3), (143, v143), (144, .int .i64 qls.length), (145, .int .i64 i5)] _ _
            refine run_seq (x := F3.c114) (y := F3.c115) (by kernel_rfl) ?_
            refine run_plain (id := 30) (ops := F3.o30) [(0, true)] (by kernel_rfl) (by kernel_rfl) ?_
            refine yS (by kernel_rfl : opAt F3.o30 0 = some (some 146, .binOp .lss 3 (.tmp 145) (.tmp 144) 3, none)) rfl rfl (fun w' hS => val_lss rfl rfl) ?_
            refine Sch.nil ?_
            refine run_seq (x := F3.c116) (y := F3.c119) (by kernel_rfl) ?_
            refine run_if (x := F3.c117) (y := F3.c118) (o := .tmp 146) (by kernel_rfl) rfl (fun h146 => ?_) (fun h146 => ?_)
            · skip
              have hil5 : i5 < qls.length := by omega
              refine run_skip (by kernel_rfl) ?_
              refine run_seq (x := F3.c120) (y := F3.c149) (by kernel_rfl) ?_
              refine run_block (x := F3.c121) (id := 9) (by kernel_rfl) ?_
              refine run_seq (x := F3.c122) (y := F3.c123) (by kernel_rfl) ?_
              refine run_plain (id := 31) (ops := F3.o31) [(0, true), (1, false), (2, true)] (by kernel_rfl) (by kernel_rfl) ?_
              refine iS (e := 22) (by kernel_rfl : opAt F3.o31 0 = some (some 147, .indexAddr 36 (.tmp 143) (.tmp 145), none)) rfl rfl g143 rfl (by kernel_rfl) rfl (by omega) (by omega) ?_
              intro b147 o147 h147
              try simp only [Int.toNat_natCast] at h147
              refine lN (by kernel_rfl : opAt F3.o31 1 = some (some 148, .load 22 (.tmp 147), none)) rfl rfl trivial h147 (by kernel_rfl) rfl rfl ?_
              intro v148 g148
              obtain ⟨Q, hQ⟩ : ∃ Q, Q = qls[i5] := ⟨_, rfl⟩
              rw [← hQ] at g148
              refine yS (by kernel_rfl : opAt F3.o31 2 = some (some 27, .assign (.tmp 148), none)) rfl rfl (fun w' hS => val_assign rfl) ?_
              refine Sch.nil ?_
              refine run_seq (x := F3.c124) (y := F3.c125) (by kernel_rfl) ?_
              refine run_plain (id := 32) (ops := F3.o32) [(0, true), (1, true), (2, false), (3, false), (4, true), (5, true)] (by kernel_rfl) (by kernel_rfl) ?_
              refine yS (by kernel_rfl : opAt F3.o32 0 = some (some 149, .move (.tmp 5), none)) rfl rfl (fun w' hS => val_move rfl) ?_
              refine yS (by kernel_rfl : opAt F3.o32 1 = some (some 150, .move (.tmp 14), none)) rfl rfl (fun w' hS => val_move rfl) ?_
              refine cS (by kernel_rfl : opAt F3.o32 2 = some (some 151, .call { callee := .value (.func 19), args := #[(.tmp 150), (.const (.int .i64 100))], argTypes := #[29, 3] }, none)) rfl rfl (ent Try.call19 rfl) (next_any (n := 100) hF (by decide) hd (by omega) (by omega)) ?_
              rintro vw32 w32 ⟨bb, rfl, hbb, hs, hd⟩
              refine ⟨trivial, ?_⟩
              replace hF := hF.st hs
              replace hT := hT.trans hs (by simp)
              replace hodd := hodd.st hs (by first | decide | (simp <;> omega))
              replace hprs := hprs.st hs (by first | decide | (simp <;> omega))
              replace g76 := g76.st hs (by first | decide | (simp <;> omega))
              replace g81 := g81.st hs (by first | decide | (simp <;> omega))
              replace g92 := g92.st hs (by first | decide | (simp <;> omega))
              replace g97 := g97.st hs (by first | decide | (simp <;> omega))
              replace g143 := g143.st hs (by first | decide | (simp <;> omega))
              replace h147 := h147.st hs (by first | decide | (simp <;> omega))
              replace g148 := g148.st hs (by first | decide | (simp <;> omega))
              refine aS (by kernel_rfl : opAt F3.o32 3 = some (some 152, .buildSlice 22 2 #[(0, (.tmp 149)), (1, (.tmp 151))], none)) rfl rfl (a_buildSlice (ys := ([budget, (bb : Int)] : List Int)) (e := 3) (bytes := 8) hF (by kernel_rfl) rfl (by decide) (by decide) ⟨rfl, ⟨_, rfl, rv_int.2 rfl⟩, rfl, ⟨_, rfl, rv_int.2 rfl⟩, trivial⟩) ?_
              rintro v152 w33 ⟨hs, g152, hF⟩
              refine ⟨trivial, ?_⟩
              replace hT := hT.trans hs (by simp)
              replace hodd := hodd.st hs (by first | decide | (simp <;> omega))
              replace hprs := hprs.st hs (by first | decide | (simp <;> omega))
              replace hd := hd.st hs (by first | decide | (simp <;> omega)) (by first | decide | (simp <;> omega))
              replace g76 := g76.st hs (by first | decide | (simp <;> omega))
              replace g81 := g81.st hs (by first | decide | (simp <;> omega))
              replace g92 := g92.st hs (by first | decide | (simp <;> omega))
              replace g97 := g97.st hs (by first | decide | (simp <;> omega))
              replace g143 := g143.st hs (by first | decide | (simp <;> omega))
              replace h147 := h147.st hs (by first | decide | (simp <;> omega))
              replace g148 := g148.st hs (by first | decide | (simp <;> omega))
              obtain ⟨bs, hbs⟩ : ∃ l : List Int, l = [budget, (bb : Int)] := ⟨_, rfl⟩
              rw [← hbs] at g152
              have hbsl : bs.length = 2 := by rw [hbs]; rfl
              refine yS (by kernel_rfl : opAt F3.o32 4 = some (some 153, .call { callee := .builtin .len, args := #[(.tmp 152)], argTypes := #[22] }, none)) rfl rfl (fun w' hS => g152.lenV rfl Try.underlying22 w' ) ?_
              refine yS (by kernel_rfl : opAt F3.o32 5 = some (some 154, .move (.const (.int .i64 0)), none)) rfl rfl (fun w' hS => val_move rfl) ?_
              refine Sch.nil ?_
              refine run_block (x := F3.c126) (id := 10) (by kernel_rfl) ?_
              
              refine run_loop (ι := Nat × (Nat → Nat)) (I := fun x w => x.1 ≤ bs.length ∧ Lim w x.2 ∧ Stp [2, 3, 4, 5, 6, 7, 8, 9] w₀ (col1 C) w x.2 ∧ RV w (Mc x.2) odd vodd ∧ RV w (Mc x.2) prs vprs ∧ DeckIs w x.2 3 bd ∧ RV w (Mc x.2) kls v76 ∧ RV w (Mc x.2) K v81 ∧ RV w (Mc x.2) rls v92 ∧ RV w (Mc x.2) R v97 ∧ RV w (Mc x.2) qls v143 ∧ RV w (Mc x.2) Q v148 ∧ RV w (Mc x.2) bs v152) (e := fun x => [(2, vodd), (3, vprs), (4, .int .i64 mask), (5, .int .i64 budget), (14, .pointer (some ⟨bd, 0, none⟩)), (17, v81), (19, v97), (27, v148), (76, v76), (77, .int .i64 kls.length), (78, .int .i64 i2), (92, v92), (93, .int .i64 rls.length), (94, .int .i64 i3), (143, v143), (144, .int .i64 qls.length), (145, .int .i64 i5), (152, v152), (153, .int .i64 bs.length), (154, .int .i64 x.1)]) (m := fun x => bs.length - x.1) (x₀ := (0, C1)) (body := F3.c127) (by kernel_rfl) (sub_cons 2 rfl rfl (sub_cons 3 rfl rfl (sub_cons 4 rfl rfl (sub_cons 5 rfl rfl (sub_cons 14 rfl rfl (sub_cons 17 rfl rfl (sub_cons 19 rfl rfl (sub_cons 27 rfl rfl (sub_cons 76 rfl rfl (sub_cons 77 rfl rfl (sub_cons 78 rfl rfl (sub_cons 92 rfl rfl (sub_cons 93 rfl rfl (sub_cons 94 rfl rfl (sub_cons 143 rfl rfl (sub_cons 144 rfl rfl (sub_cons 145 rfl rfl (sub_cons 152 rfl rfl (sub_cons 153 rfl rfl (sub_cons 154 rfl rfl (sub_nil _))))))))))))))))))))) ?_ ?_
              · exact ⟨Nat.zero_le _, hF, hT, hodd, hprs, hd, g76, g81, g92, g97, g143, g148, g152⟩
              intro ⟨i6, C1⟩ w34 hI next
              obtain ⟨hi6, hF, hT, hodd, hprs, hd, g76, g81, g92, g97, g143, g148, g152⟩ := hI
              try simp only at hi6 hF hT hodd hprs hd g76 g81 g92 g97 g143 g148 g152
              have next6 := next
              clear next
              show Run _ _ _ _ [(2, vodd), (3, vprs), (4, .int .i64 mask), (5, .int .i64 budget), (14, .pointer (some ⟨bd, 0, none⟩)), (17, v81), (19, v97), (27, v148), (76, v76), (77, .int .i64 kls.length), (78, .int .i64 i2), (92, v92), (93, .int .i64 rls.length), (94, .int .i64 i3), (143, v143), (144, .int .i64 qls.length), (145, .int .i64 i5), (152, v152), (153, .int .i64 bs.length), (154, .int .i64 i6)] _ _
              refine run_seq (x := F3.c128) (y := F3.c129) (by kernel_rfl) ?_
              refine run_plain (id := 33) (ops := F3.o33) [(0, true)] (by kernel_rfl) (by kernel_rfl) ?_
              refine yS (by kernel_rfl : opAt F3.o33 0 = some (some 155, .binOp .lss 3 (.tmp 154) (.tmp 153) 3, none)) rfl rfl (fun w' hS => val_lss rfl rfl) ?_
              refine Sch.nil ?_
              refine run_seq (x := F3.c130) (y := F3.c133) (by kernel_rfl) ?_
              refine run_if (x := F3.c131) (y := F3.c132) (o := .tmp 155) (by kernel_rfl) rfl (fun h155 => ?_) (fun h155 => ?_)
              · skip
                have hil6 : i6 < bs.length := by omega
                obtain ⟨X, hX⟩ : ∃ X, X = chooseS K R Q bs[i6] := ⟨_, rfl⟩
                refine run_skip (by kernel_rfl) ?_
                refine run_seq (x := F3.c134) (y := F3.c148) (by kernel_rfl) ?_
                refine run_block (x := F3.c135) (id := 11) (by kernel_rfl) ?_
                refine run_seq (x := F3.c136) (y := F3.c137) (by kernel_rfl) ?_
                refine run_plain (id := 34) (ops := F3.o34) [(0, true), (1, false), (2, true)] (by kernel_rfl) (by kernel_rfl) ?_
                refine iS (e := 3) (by kernel_rfl : opAt F3.o34 0 = some (some 156, .indexAddr 22 (.tmp 152) (.tmp 154), none)) rfl rfl g152 rfl (by kernel_rfl) rfl (by omega) (by omega) ?_
                intro b156 o156 h156
                try simp only [Int.toNat_natCast] at h156
                refine lN (by kernel_rfl : opAt F3.o34 1 = some (some 157, .load 3 (.tmp 156), none)) rfl rfl trivial h156 (by kernel_rfl) rfl rfl ?_
                intro v157 g157
                obtain rfl := rv_int.1 g157
                refine yS (by kernel_rfl : opAt F3.o34 2 = some (some 29, .assign (.tmp 157), none)) rfl rfl (fun w' hS => val_assign rfl) ?_
                refine Sch.nil ?_
                refine run_seq (x := F3.c138) (y := F3.c139) (by kernel_rfl) ?_
                refine run_plain (id := 35) (ops := F3.o35) [(0, true), (1, true), (2, true), (3, true), (4, false), (5, true), (6, true), (7, true), (8, false), (9, false), (10, true)] (by kernel_rfl) (by kernel_rfl) ?_
                refine yS (by kernel_rfl : opAt F3.o35 0 = some (some 159, .move (.tmp 17), none)) rfl rfl (fun w' hS => val_move rfl) ?_
                refine yS (by kernel_rfl : opAt F3.o35 1 = some (some 160, .move (.tmp 19), none)) rfl rfl (fun w' hS => val_move rfl) ?_
                refine yS (by kernel_rfl : opAt F3.o35 2 = some (some 161, .move (.tmp 27), none)) rfl rfl (fun w' hS => val_move rfl) ?_
                refine yS (by kernel_rfl : opAt F3.o35 3 = some (some 162, .move (.tmp 29), none)) rfl rfl (fun w' hS => val_move rfl) ?_
                refine cS (by kernel_rfl : opAt F3.o35 4 = some (some 163, .call { callee := .value (.func 23), args := #[(.tmp 159), (.tmp 160), (.tmp 161), (.tmp 162)], argTypes := #[23, 22, 22, 3] }, none)) rfl rfl (ent Try.call23 rfl) (choose_ok hF g81 g97 g148 hsm) ?_
                rintro vw35 w35 ⟨up, rfl, hs, hup⟩
                refine ⟨trivial, ?_⟩
                replace hF := hF.st hs
                replace hT := hT.trans hs (by simp)
                replace hodd := hodd.st hs (by first | decide | (simp <;> omega))
                replace hprs := hprs.st hs (by first | decide | (simp <;> omega))
                replace hd := hd.st hs (by first | decide | (simp <;> omega)) (by first | decide | (simp <;> omega))
                replace g76 := g76.st hs (by first | decide | (simp <;> omega))
                replace g81 := g81.st hs (by first | decide | (simp <;> omega))
                replace g92 := g92.st hs (by first | decide | (simp <;> omega))
                replace g97 := g97.st hs (by first | decide | (simp <;> omega))
                replace g143 := g143.st hs (by first | decide | (simp <;> omega))
                replace g148 := g148.st hs (by first | decide | (simp <;> omega))
                replace g152 := g152.st hs (by first | decide | (simp <;> omega))
                replace h156 := h156.st hs (by first | decide | (simp <;> omega))
                rw [← hX] at hup ⊢
                refine yS (by kernel_rfl : opAt F3.o35 5 = some (some 158, .move (.tmp 163), none)) rfl rfl (fun w' hS => val_move rfl) ?_
                refine yS (by kernel_rfl : opAt F3.o35 6 = some (some 164, .extract (.tmp 158) 0, none)) rfl rfl (fun w' hS => val_extract rfl rfl) ?_
                refine yS (by kernel_rfl : opAt F3.o35 7 = some (some 165, .extract (.tmp 158) 1, none)) rfl rfl (fun w' hS => val_extract rfl rfl) ?_
                refine aS (by kernel_rfl : opAt F3.o35 8 = some (some 30, .alloc 44, none)) rfl rfl (a_alloc (cs := [.slice none 0 0, .int .i64 0, .int .i64 0]) hF 4 (by kernel_rfl)) ?_
                rintro _ w36 ⟨Cw36, bw36, rfl, hs, hp1, hF⟩
                refine ⟨trivial, ?_⟩
                replace hT := hT.trans hs (by simp)
                replace hodd := hodd.st hs (by first | decide | (simp <;> omega))
                replace hprs := hprs.st hs (by first | decide | (simp <;> omega))
                replace hd := hd.st hs (by first | decide | (simp <;> omega)) (by first | decide | (simp <;> omega))
                replace g76 := g76.st hs (by first | decide | (simp <;> omega))
                replace g81 := g81.st hs (by first | decide | (simp <;> omega))
                replace g92 := g92.st hs (by first | decide | (simp <;> omega))
                replace g97 := g97.st hs (by first | decide | (simp <;> omega))
                replace g143 := g143.st hs (by first | decide | (simp <;> omega))
                replace g148 := g148.st hs (by first | decide | (simp <;> omega))
                replace g152 := g152.st hs (by first | decide | (simp <;> omega))
                replace h156 := h156.st hs (by first | decide | (simp <;> omega))
                replace hup := hup.st hs (by first | decide | (simp <;> omega))
                refine aN (by kernel_rfl : opAt F3.o35 9 = some (none, .store 44 (.tmp 30) (.tmp 164), none)) rfl (a_storeAll (vs := [up, .int .i64 X.1.pairs, .int .i64 X.1.missed]) (n := 3) rfl rfl (by kernel_rfl) rfl rfl (by intro u hu; simp only [List.mem_cons, List.not_mem_nil, or_false] at hu; rcases hu with rfl | rfl | rfl <;> first | rfl | exact (hup.one rfl).2) hp1 rfl) ?_
                rintro _ w37 ⟨rfl, hs, hp1⟩
                refine ⟨trivial, ?_⟩
                replace hF := hF.st hs
                replace hT := hT.trans hs (by simp)
                replace hodd := hodd.st hs (by first | decide | (simp <;> omega))
                replace hprs := hprs.st hs (by first | decide | (simp <;> omega))
                replace hd := hd.st hs (by first | decide | (simp <;> omega)) (by first | decide | (simp <;> omega))
                replace g76 := g76.st hs (by first | decide | (simp <;> omega))
                replace g81 := g81.st hs (by first | decide | (simp <;> omega))
                replace g92 := g92.st hs (by first | decide | (simp <;> omega))
                replace g97 := g97.st hs (by first | decide | (simp <;> omega))
                replace g143 := g143.st hs (by first | decide | (simp <;> omega))
                replace g148 := g148.st hs (by first | decide | (simp <;> omega))
                replace g152 := g152.st hs (by first | decide | (simp <;> omega))
                replace h156 := h156.st hs (by first | decide | (simp <;> omega))
                replace hup := hup.st hs (by first | decide | (simp <;> omega))
                refine yS (by kernel_rfl : opAt F3.o35 10 = some (some 31, .assign (.tmp 165), none)) rfl rfl (fun w' hS => val_assign rfl) ?_
                refine Sch.nil ?_
                refine run_seq (x := F3.c140) (y := F3.c141) (by kernel_rfl) ?_
                refine run_plain (id := 36) (ops := F3.o36) [(0, true), (1, true), (2, true), (3, true), (4, false), (5, true), (6, true), (7, true), (8, false), (9, false), (10, true)] (by kernel_rfl) (by kernel_rfl) ?_
                refine yS (by kernel_rfl : opAt F3.o36 0 = some (some 167, .move (.tmp 17), none)) rfl rfl (fun w' hS => val_move rfl) ?_
                refine yS (by kernel_rfl : opAt F3.o36 1 = some (some 168, .move (.tmp 19), none)) rfl rfl (fun w' hS => val_move rfl) ?_
                refine yS (by kernel_rfl : opAt F3.o36 2 = some (some 169, .move (.tmp 27), none)) rfl rfl (fun w' hS => val_move rfl) ?_
                refine yS (by kernel_rfl : opAt F3.o36 3 = some (some 170, .move (.tmp 29), none)) rfl rfl (fun w' hS => val_move rfl) ?_
                refine cS (by kernel_rfl : opAt F3.o36 4 = some (some 171, .call { callee := .value (.func 24), args := #[(.tmp 167), (.tmp 168), (.tmp 169), (.tmp 170)], argTypes := #[23, 22, 22, 3] }, none)) rfl rfl (ent Try.call24 rfl) (refChoose_ok hF g81 g97 g148 hsm) ?_
                rintro vw38 w38 ⟨up2, rfl, hs, hup2⟩
                refine ⟨trivial, ?_⟩
                replace hF := hF.st hs
                replace hT := hT.trans hs (by simp)
                replace hodd := hodd.st hs (by first | decide | (simp <;> omega))
                replace hprs := hprs.st hs (by first | decide | (simp <;> omega))
                replace hd := hd.st hs (by first | decide | (simp <;> omega)) (by first | decide | (simp <;> omega))
                replace g76 := g76.st hs (by first | decide | (simp <;> omega))
                replace g81 := g81.st hs (by first | decide | (simp <;> omega))
                replace g92 := g92.st hs (by first | decide | (simp <;> omega))
                replace g97 := g97.st hs (by first | decide | (simp <;> omega))
                replace g143 := g143.st hs (by first | decide | (simp <;> omega))
                replace g148 := g148.st hs (by first | decide | (simp <;> omega))
                replace g152 := g152.st hs (by first | decide | (simp <;> omega))
                replace h156 := h156.st hs (by first | decide | (simp <;> omega))
                replace hup := hup.st hs (by first | decide | (simp <;> omega))
                replace hp1 := hp1.st hs (by first | decide | (simp <;> omega))
                rw [← hX] at hup2 ⊢
                refine yS (by kernel_rfl : opAt F3.o36 5 = some (some 166, .move (.tmp 171), none)) rfl rfl (fun w' hS => val_move rfl) ?_
                refine yS (by kernel_rfl : opAt F3.o36 6 = some (some 172, .extract (.tmp 166) 0, none)) rfl rfl (fun w' hS => val_extract rfl rfl) ?_
                refine yS (by kernel_rfl : opAt F3.o36 7 = some (some 173, .extract (.tmp 166) 1, none)) rfl rfl (fun w' hS => val_extract rfl rfl) ?_
                refine aS (by kernel_rfl : opAt F3.o36 8 = some (some 32, .alloc 44, none)) rfl rfl (a_alloc (cs := [.slice none 0 0, .int .i64 0, .int .i64 0]) hF 5 (by kernel_rfl)) ?_
                rintro _ w39 ⟨Cw39, bw39, rfl, hs, hp2, hF⟩
                refine ⟨trivial, ?_⟩
                replace hT := hT.trans hs (by simp)
                replace hodd := hodd.st hs (by first | decide | (simp <;> omega))
                replace hprs := hprs.st hs (by first | decide | (simp <;> omega))
                replace hd := hd.st hs (by first | decide | (simp <;> omega)) (by first | decide | (simp <;> omega))
                replace g76 := g76.st hs (by first | decide | (simp <;> omega))
                replace g81 := g81.st hs (by first | decide | (simp <;> omega))
                replace g92 := g92.st hs (by first | decide | (simp <;> omega))
                replace g97 := g97.st hs (by first | decide | (simp <;> omega))
                replace g143 := g143.st hs (by first | decide | (simp <;> omega))
                replace g148 := g148.st hs (by first | decide | (simp <;> omega))
                replace g152 := g152.st hs (by first | decide | (simp <;> omega))
                replace h156 := h156.st hs (by first | decide | (simp <;> omega))
                replace hup := hup.st hs (by first | decide | (simp <;> omega))
                replace hp1 := hp1.st hs (by first | decide | (simp <;> omega))
                replace hup2 := hup2.st hs (by first | decide | (simp <;> omega))
                refine aN (by kernel_rfl : opAt F3.o36 9 = some (none, .store 44 (.tmp 32) (.tmp 172), none)) rfl (a_storeAll (vs := [up2, .int .i64 X.1.pairs, .int .i64 X.1.missed]) (n := 3) rfl rfl (by kernel_rfl) rfl rfl (by intro u hu; simp only [List.mem_cons, List.not_mem_nil, or_false] at hu; rcases hu with rfl | rfl | rfl <;> first | rfl | exact (hup2.one rfl).2) hp2 rfl) ?_
                rintro _ w40 ⟨rfl, hs, hp2⟩
                refine ⟨trivial, ?_⟩
                replace hF := hF.st hs
                replace hT := hT.trans hs (by simp)
                replace hodd := hodd.st hs (by first | decide | (simp <;> omega))
                replace hprs := hprs.st hs (by first | decide | (simp <;> omega))
                replace hd := hd.st hs (by first | decide | (simp <;> omega)) (by first | decide | (simp <;> omega))
                replace g76 := g76.st hs (by first | decide | (simp <;> omega))
                replace g81 := g81.st hs (by first | decide | (simp <;> omega))
                replace g92 := g92.st hs (by first | decide | (simp <;> omega))
                replace g97 := g97.st hs (by first | decide | (simp <;> omega))
                replace g143 := g143.st hs (by first | decide | (simp <;> omega))
                replace g148 := g148.st hs (by first | decide | (simp <;> omega))
                replace g152 := g152.st hs (by first | decide | (simp <;> omega))
                replace h156 := h156.st hs (by first | decide | (simp <;> omega))
                replace hup := hup.st hs (by first | decide | (simp <;> omega))
                replace hp1 := hp1.st hs (by first | decide | (simp <;> omega))
                replace hup2 := hup2.st hs (by first | decide | (simp <;> omega))
                refine yS (by kernel_rfl : opAt F3.o36 10 = some (some 33, .assign (.tmp 173), none)) rfl rfl (fun w' hS => val_assign rfl) ?_
                refine Sch.nil ?_
                refine run_seq (x := F3.c142) (y := F3.c143) (by kernel_rfl) ?_
                refine run_plain (id := 37) (ops := F3.o37) [(0, true), (1, true), (2, true), (3, true), (4, false), (5, false), (6, false), (7, true), (8, true)] (by kernel_rfl) (by kernel_rfl) ?_
                refine yS (by kernel_rfl : opAt F3.o37 0 = some (some 174, .move (.tmp 31), none)) rfl rfl (fun w' hS => val_move rfl) ?_
                refine yS (by kernel_rfl : opAt F3.o37 1 = some (some 175, .move (.tmp 33), none)) rfl rfl (fun w' hS => val_move rfl) ?_
                refine yS (by kernel_rfl : opAt F3.o37 2 = some (some 176, .binOp .neq 37 (.tmp 174) (.tmp 175) 37, none)) rfl rfl (fun w' hS => val_F (val_neq rfl rfl) (fun e => e rfl)) ?_
                refine yS (by kernel_rfl : opAt F3.o37 3 = some (some 177, .move (.tmp 176), none)) rfl rfl (fun w' hS => val_move rfl) ?_
                refine nS (by kernel_rfl : opAt F3.o37 4 = some (some 178, .load 44 (.tmp 30), (some (3, false)))) rfl rfl trivial (val_loadOwnAgg (n := 3) hp1.at_ (by kernel_rfl) (by kernel_rfl) rfl rfl rfl) ?_
                refine nS (by kernel_rfl : opAt F3.o37 5 = some (some 179, .load 44 (.tmp 32), (some (3, false)))) rfl rfl trivial (val_loadOwnAgg (n := 3) hp2.at_ (by kernel_rfl) (by kernel_rfl) rfl rfl rfl) ?_
                refine cS (by kernel_rfl : opAt F3.o37 6 = some (some 180, .call { callee := .value (.func 25), args := #[(.tmp 178), (.tmp 179)], argTypes := #[44, 44] }, (some (3, false)))) rfl rfl (ent Try.call25 rfl) (same_ok hF hup hup2) ?_
                rintro vw41 w41 ⟨rfl, hs⟩
                refine ⟨trivial, ?_⟩
                replace hF := hF.st hs
                replace hT := hT.trans hs (by simp)
                replace hodd := hodd.st hs (by first | decide | (simp <;> omega))
                replace hprs := hprs.st hs (by first | decide | (simp <;> omega))
                replace hd := hd.st hs (by first | decide | (simp <;> omega)) (by first | decide | (simp <;> omega))
                replace g76 := g76.st hs (by first | decide | (simp <;> omega))
                replace g81 := g81.st hs (by first | decide | (simp <;> omega))
                replace g92 := g92.st hs (by first | decide | (simp <;> omega))
                replace g97 := g97.st hs (by first | decide | (simp <;> omega))
                replace g143 := g143.st hs (by first | decide | (simp <;> omega))
                replace g148 := g148.st hs (by first | decide | (simp <;> omega))
                replace g152 := g152.st hs (by first | decide | (simp <;> omega))
                replace h156 := h156.st hs (by first | decide | (simp <;> omega))
                replace hup := hup.st hs (by first | decide | (simp <;> omega))
                replace hp1 := hp1.st hs (by first | decide | (simp <;> omega))
                replace hup2 := hup2.st hs (by first | decide | (simp <;> omega))
                replace hp2 := hp2.st hs (by first | decide | (simp <;> omega))
                refine yS (by kernel_rfl : opAt F3.o37 7 = some (some 181, .unOp .not 4 (.tmp 180), (some (3, false)))) rfl rfl (fun w' hS => val_not rfl) ?_
                refine yS (by kernel_rfl : opAt F3.o37 8 = some (some 182, .pick (.tmp 177) (.const (.bool true)) (.tmp 181), none)) rfl rfl (fun w' hS => val_pick_f rfl rfl) ?_
                refine Sch.nil ?_
                refine run_cond (x := F3.c144) (y := F3.c147) (o := .tmp 182) (b := false) (by kernel_rfl) rfl (fun h => by cases h) (fun _ => ?_)
                refine run_skip (by kernel_rfl) ?_
                refine run_inBlock ?_
                refine run_plain (id := 39) (ops := F3.o39) [(0, true), (1, true)] (by kernel_rfl) (by kernel_rfl) ?_
                refine yS (by kernel_rfl : opAt F3.o39 0 = some (some 183, .binOp .add 3 (.tmp 154) (.const (.int .i64 1)) 3, none)) rfl rfl (fun w' hS => val_addi rfl rfl (by omega) (by omega)) ?_
                refine yS (by kernel_rfl : opAt F3.o39 1 = some (some 154, .move (.tmp 183), none)) rfl rfl (fun w' hS => val_move rfl) ?_
                refine Sch.nil ?_
                refine kp (sub_cons 2 rfl rfl (sub_cons 3 rfl rfl (sub_cons 4 rfl rfl (sub_cons 5 rfl rfl (sub_cons 14 rfl rfl (sub_cons 17 rfl rfl (sub_cons 19 rfl rfl (sub_cons 27 rfl rfl (sub_cons 76 rfl rfl (sub_cons 77 rfl rfl (sub_cons 78 rfl rfl (sub_cons 92 rfl rfl (sub_cons 93 rfl rfl (sub_cons 94 rfl rfl (sub_cons 143 rfl rfl (sub_cons 144 rfl rfl (sub_cons 145 rfl rfl (sub_cons 152 rfl rfl (sub_cons 153 rfl rfl (sub_cons 154 rfl (eq_int (by simp)) (sub_nil _))))))))))))))))))))) (next6 (i6 + 1, Cw39) _ ⟨(by first | omega | (simp only; omega)), hF, hT, hodd, hprs, hd, g76, g81, g92, g97, g143, g148, g152⟩ (by first | omega | (simp only; omega)))
              · skip
                refine run_exit (id := 10) (by kernel_rfl) rfl ?_
                refine run_inBlock ?_
                refine run_plain (id := 40) (ops := F3.o40) [(0, true), (1, true)] (by kernel_rfl) (by kernel_rfl) ?_
                refine yS (by kernel_rfl : opAt F3.o40 0 = some (some 184, .binOp .add 3 (.tmp 145) (.const (.int .i64 1)) 3, none)) rfl rfl (fun w' hS => val_addi rfl rfl (by omega) (by omega)) ?_
                refine yS (by kernel_rfl : opAt F3.o40 1 = some (some 145, .move (.tmp 184), none)) rfl rfl (fun w' hS => val_move rfl) ?_
                refine Sch.nil ?_
                refine kp (sub_cons 2 rfl rfl (sub_cons 3 rfl rfl (sub_cons 4 rfl rfl (sub_cons 5 rfl rfl (sub_cons 14 rfl rfl (sub_cons 17 rfl rfl (sub_cons 19 rfl rfl (sub_cons 76 rfl rfl (sub_cons 77 rfl rfl (sub_cons 78 rfl rfl (sub_cons 92 rfl rfl (sub_cons 93 rfl rfl (sub_cons 94 rfl rfl (sub_cons 143 rfl rfl (sub_cons 144 rfl rfl (sub_cons 145 rfl (eq_int (by simp)) (sub_nil _))))))))))))))))) (next5 (i5 + 1, C1) _ ⟨(by first | omega | (simp only; omega)), hF, hT, hodd, hprs, hd, g76, g81, g92, g97, g143⟩ (by first | omega | (simp only; omega)))
            · skip
              refine run_exit (id := 8) (by kernel_rfl) rfl ?_
              refine run_inBlock ?_
              refine run_plain (id := 41) (ops := F3.o41) [(0, true), (1, true)] (by kernel_rfl) (by kernel_rfl) ?_
              refine yS (by kernel_rfl : opAt F3.o41 0 = some (some 185, .binOp .add 3 (.tmp 94) (.const (.int .i64 1)) 3, none)) rfl rfl (fun w' hS => val_addi rfl rfl (by omega) (by omega)) ?_
              refine yS (by kernel_rfl : opAt F3.o41 1 = some (some 94, .move (.tmp 185), none)) rfl rfl (fun w' hS => val_move rfl) ?_
              refine Sch.nil ?_
              refine kp (sub_cons 2 rfl rfl (sub_cons 3 rfl rfl (sub_cons 4 rfl rfl (sub_cons 5 rfl rfl (sub_cons 14 rfl rfl (sub_cons 17 rfl rfl (sub_cons 76 rfl rfl (sub_cons 77 rfl rfl (sub_cons 78 rfl rfl (sub_cons 92 rfl rfl (sub_cons 93 rfl rfl (sub_cons 94 rfl (eq_int (by simp)) (sub_nil _))))))))))))) (next3 (i3 + 1, C1) _ ⟨(by first | omega | (simp only; omega)), hF, hT, hodd, hprs, hd, g76, g81, g92⟩ (by first | omega | (simp only; omega)))
        · skip
          refine run_exit (id := 4) (by kernel_rfl) rfl ?_
          refine run_inBlock ?_
          refine run_plain (id := 42) (ops := F3.o42) [(0, true), (1, true)] (by kernel_rfl) (by kernel_rfl) ?_
          refine yS (by kernel_rfl : opAt F3.o42 0 = some (some 186, .binOp .add 3 (.tmp 78) (.const (.int .i64 1)) 3, none)) rfl rfl (fun w' hS => val_addi rfl rfl (by omega) (by omega)) ?_
          refine yS (by kernel_rfl : opAt F3.o42 1 = some (some 78, .move (.tmp 186), none)) rfl rfl (fun w' hS => val_move rfl) ?_
          refine Sch.nil ?_
          refine kp (sub_cons 2 rfl rfl (sub_cons 3 rfl rfl (sub_cons 4 rfl rfl (sub_cons 5 rfl rfl (sub_cons 14 rfl rfl (sub_cons 76 rfl rfl (sub_cons 77 rfl rfl (sub_cons 78 rfl (eq_int (by simp)) (sub_nil _))))))))) (next2 (i2 + 1, C1) _ ⟨(by first | omega | (simp only; omega)), hF, hT, hodd, hprs, hd, g76⟩ (by first | omega | (simp only; omega)))
      · skip
        refine run_exit (id := 2) (by kernel_rfl) rfl ?_
        refine run_seq (x := F3.c153) (y := F3.c154) (by kernel_rfl) ?_
        refine run_plain (id := 43) (ops := F3.o43) [(0, true)] (by kernel_rfl) (by kernel_rfl) ?_
        refine yS (by kernel_rfl : opAt F3.o43 0 = some (some 12, .assign (.const (.bool true)), none)) rfl rfl (fun w' hS => val_assign rfl) ?_
        refine Sch.nil ?_
        refine run_ret1 (by kernel_rfl) Try.func3 Try.results3 rfl ?_
        exact ⟨rfl, hT.out1 (by decide)⟩
end Go.Proofs.Ytpmokjccfaakfaa

