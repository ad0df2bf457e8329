/- Steps through functions of the program. -/
import Derived.Test.YtgooehopkmbkfaaJV3
import Derived.Test.YtgooehopkmbkfaaL2
set_option linter.unusedVariables false
set_option linter.unusedSimpArgs false
set_option maxRecDepth 100000
set_option maxHeartbeats 4000000
namespace Go.Proofs.Ytgooehopkmbkfaa
open Go.K Go.K.Rep

namespace F4
noncomputable def c0 : Code := bodyOf Try.f4
noncomputable def c1 : Code := cl c0
noncomputable def o0 : Array Oper := rops c1
noncomputable def c2 : Code := cr c0
noncomputable def c3 : Code := cl c2
noncomputable def c4 : Code := cl c3
noncomputable def o1 : Array Oper := rops c4
noncomputable def c5 : Code := cr c3
noncomputable def c6 : Code := cl c5
noncomputable def c7 : Code := cl c6
noncomputable def o2 : Array Oper := rops c7
noncomputable def c8 : Code := cr c6
noncomputable def c9 : Code := cr c5
noncomputable def c10 : Code := cr c2
noncomputable def c11 : Code := cl c10
noncomputable def o3 : Array Oper := rops c11
noncomputable def c12 : Code := cr c10
noncomputable def c13 : Code := cl c12
noncomputable def o4 : Array Oper := rops c13
noncomputable def c14 : Code := cr c12
noncomputable def c15 : Code := cl c14
noncomputable def o5 : Array Oper := rops c15
noncomputable def c16 : Code := cr c14
noncomputable def c17 : Code := cl c16
noncomputable def o6 : Array Oper := rops c17
noncomputable def c18 : Code := cr c16
noncomputable def c19 : Code := cl c18
noncomputable def o7 : Array Oper := rops c19
noncomputable def c20 : Code := cr c18
noncomputable def c21 : Code := cl c20
noncomputable def c22 : Code := cl c21
noncomputable def o8 : Array Oper := rops c22
noncomputable def c23 : Code := cr c21
noncomputable def c24 : Code := cl c23
noncomputable def c25 : Code := cl c24
noncomputable def o9 : Array Oper := rops c25
noncomputable def c26 : Code := cr c24
noncomputable def c27 : Code := cr c23
noncomputable def c28 : Code := cr c20
noncomputable def c29 : Code := cl c28
noncomputable def o10 : Array Oper := rops c29
noncomputable def c30 : Code := cr c28
noncomputable def c31 : Code := cl c30
noncomputable def c32 : Code := cl c31
noncomputable def o11 : Array Oper := rops c32
noncomputable def c33 : Code := cr c31
noncomputable def c34 : Code := cl c33
noncomputable def c35 : Code := cl c34
noncomputable def c36 : Code := cl c35
noncomputable def o12 : Array Oper := rops c36
noncomputable def c37 : Code := cr c35
noncomputable def c38 : Code := cl c37
noncomputable def c39 : Code := cl c38
noncomputable def c40 : Code := cr c38
noncomputable def c41 : Code := cr c37
noncomputable def c42 : Code := cl c41
noncomputable def c43 : Code := cl c42
noncomputable def c44 : Code := cl c43
noncomputable def o13 : Array Oper := rops c44
noncomputable def c45 : Code := cr c43
noncomputable def c46 : Code := cl c45
noncomputable def c47 : Code := cl c46
noncomputable def o14 : Array Oper := rops c47
noncomputable def c48 : Code := cr c46
noncomputable def c49 : Code := cl c48
noncomputable def c50 : Code := cl c49
noncomputable def o15 : Array Oper := rops c50
noncomputable def c51 : Code := cr c49
noncomputable def c52 : Code := cr c48
noncomputable def c53 : Code := cr c45
noncomputable def o16 : Array Oper := rops c53
noncomputable def c54 : Code := cr c41
noncomputable def o17 : Array Oper := rops c54
noncomputable def c55 : Code := cr c30
noncomputable def c56 : Code := cl c55
noncomputable def c57 : Code := cl c56
noncomputable def o18 : Array Oper := rops c57
noncomputable def c58 : Code := cr c56
noncomputable def c59 : Code := cl c58
noncomputable def c60 : Code := cl c59
noncomputable def c61 : Code := cl c60
noncomputable def o19 : Array Oper := rops c61
noncomputable def c62 : Code := cr c60
noncomputable def c63 : Code := cl c62
noncomputable def c64 : Code := cl c63
noncomputable def c65 : Code := cr c63
noncomputable def c66 : Code := cr c62
noncomputable def c67 : Code := cl c66
noncomputable def c68 : Code := cl c67
noncomputable def c69 : Code := cl c68
noncomputable def o20 : Array Oper := rops c69
noncomputable def c70 : Code := cr c68
noncomputable def c71 : Code := cl c70
noncomputable def c72 : Code := cl c71
noncomputable def o21 : Array Oper := rops c72
noncomputable def c73 : Code := cr c71
noncomputable def c74 : Code := cl c73
noncomputable def c75 : Code := cl c74
noncomputable def o22 : Array Oper := rops c75
noncomputable def c76 : Code := cr c74
noncomputable def c77 : Code := cr c73
noncomputable def c78 : Code := cr c70
noncomputable def o23 : Array Oper := rops c78
noncomputable def c79 : Code := cr c66
noncomputable def o24 : Array Oper := rops c79
noncomputable def c80 : Code := cr c55
noncomputable def c81 : Code := cl c80
noncomputable def c82 : Code := cl c81
noncomputable def o25 : Array Oper := rops c82
noncomputable def c83 : Code := cr c81
noncomputable def c84 : Code := cl c83
noncomputable def c85 : Code := cl c84
noncomputable def c86 : Code := cl c85
noncomputable def o26 : Array Oper := rops c86
noncomputable def c87 : Code := cr c85
noncomputable def c88 : Code := cl c87
noncomputable def c89 : Code := cl c88
noncomputable def c90 : Code := cr c88
noncomputable def c91 : Code := cr c87
noncomputable def c92 : Code := cl c91
noncomputable def c93 : Code := cl c92
noncomputable def c94 : Code := cl c93
noncomputable def o27 : Array Oper := rops c94
noncomputable def c95 : Code := cr c93
noncomputable def c96 : Code := cl c95
noncomputable def o28 : Array Oper := rops c96
noncomputable def c97 : Code := cr c95
noncomputable def c98 : Code := cl c97
noncomputable def c99 : Code := cl c98
noncomputable def o29 : Array Oper := rops c99
noncomputable def c100 : Code := cr c98
noncomputable def c101 : Code := cr c97
noncomputable def c102 : Code := cr c91
noncomputable def o30 : Array Oper := rops c102
noncomputable def c103 : Code := cr c80
noncomputable def c104 : Code := cl c103
noncomputable def c105 : Code := cl c104
noncomputable def o31 : Array Oper := rops c105
noncomputable def c106 : Code := cr c104
noncomputable def c107 : Code := cl c106
noncomputable def c108 : Code := cl c107
noncomputable def o32 : Array Oper := rops c108
noncomputable def c109 : Code := cr c107
noncomputable def c110 : Code := cl c109
noncomputable def o33 : Array Oper := rops c110
noncomputable def c111 : Code := cr c109
noncomputable def c112 : Code := cl c111
noncomputable def c113 : Code := cl c112
noncomputable def o34 : Array Oper := rops c113
noncomputable def c114 : Code := cr c112
noncomputable def c115 : Code := cr c111
noncomputable def c116 : Code := cr c106
noncomputable def c117 : Code := cr c103
noncomputable def c118 : Code := cl c117
noncomputable def o35 : Array Oper := rops c118
noncomputable def c119 : Code := cr c117
end F4
/-- The prices that are returned prove what is returned. -/
theorem assignmentProves_ok {w₀ : World} {C : Nat → Nat} {l : List Int} {vl : Value} (hF : Lim w₀ C) (hl : RV w₀ (Mc C) l vl) : Calls Try.prog 4 #[vl] w₀ (Ret fun v w' => v = .bool true ∧ Stp [] w₀ C w' C) := by
  have hF0 := hF
  have hT := Stp.refl [2, 3, 4, 5, 6, 7, 8, 9] w₀ (col1 C)
  replace hF := hF.col1
  replace hl : RV w₀ (Mc (col1 C)) l vl := by rw [Mc_col1]; exact hl
  refine calls_start (c := F4.c0) (N := 147) [vl] Try.func4 (by kernel_rfl) (by kernel_rfl) (by kernel_rfl) ?_
  show Run _ _ _ _ [(0, vl)] _ _
  refine run_seq (x := F4.c1) (y := F4.c2) (by kernel_rfl) ?_
  refine run_plain (id := 0) (ops := F4.o0) [(0, true)] (by kernel_rfl) (by kernel_rfl) ?_
  refine yS (by kernel_rfl : opAt F4.o0 0 = some (some 2, .assign (.const (.bool false)), none)) rfl rfl (fun w' hS => val_assign rfl) ?_
  refine Sch.nil ?_
  refine run_seq (x := F4.c3) (y := F4.c10) (by kernel_rfl) ?_
  refine run_seq (x := F4.c4) (y := F4.c5) (by kernel_rfl) ?_
  refine run_plain (id := 1) (ops := F4.o1) [(0, false), (1, true), (2, true), (3, true), (4, false), (5, true), (6, true)] (by kernel_rfl) (by kernel_rfl) ?_
  refine cS (by kernel_rfl : opAt F4.o1 0 = some (some 20, .call { callee := .value (.func 10), args := #[], argTypes := #[] }, none)) rfl rfl (ent Try.call10 rfl) (awake_ok hF) ?_
  rintro vw1 w1 ⟨rfl, hs⟩
  refine ⟨trivial, ?_⟩
  replace hF := hF.st hs
  replace hT := hT.trans hs (by simp)
  replace hl := hl.st hs (by first | decide | (simp <;> omega))
  refine yS (by kernel_rfl : opAt F4.o1 1 = some (some 21, .unOp .not 4 (.tmp 20), none)) rfl rfl (fun w' hS => val_not rfl) ?_
  refine yS (by kernel_rfl : opAt F4.o1 2 = some (some 22, .move (.tmp 21), none)) rfl rfl (fun w' hS => val_move rfl) ?_
  refine yS (by kernel_rfl : opAt F4.o1 3 = some (some 23, .move (.tmp 0), (some (2, false)))) rfl rfl (fun w' hS => val_move rfl) ?_
  refine cS (by kernel_rfl : opAt F4.o1 4 = some (some 24, .call { callee := .value (.func 11), args := #[(.tmp 23)], argTypes := #[22] }, (some (2, false)))) rfl rfl (ent Try.call11 rfl) (few_any hl) ?_
  rintro vw2 w2 ⟨rfl, rfl⟩
  refine ⟨trivial, ?_⟩
  refine yS (by kernel_rfl : opAt F4.o1 5 = some (some 25, .unOp .not 4 (.tmp 24), (some (2, false)))) rfl rfl (fun w' hS => val_notd rfl) ?_
  refine yS (by kernel_rfl : opAt F4.o1 6 = some (some 26, .pick (.tmp 22) (.const (.bool true)) (.tmp 25), none)) rfl rfl (fun w' hS => val_pick_f rfl rfl) ?_
  refine Sch.nil ?_
  refine run_if (x := F4.c6) (y := F4.c9) (o := .tmp 26) (by kernel_rfl) rfl (fun h26 => ?_) (fun h26 => ?_)
  · skip
    refine run_seq (x := F4.c7) (y := F4.c8) (by kernel_rfl) ?_
    refine run_plain (id := 2) (ops := F4.o2) [(0, false), (1, true)] (by kernel_rfl) (by kernel_rfl) ?_
    refine cS (by kernel_rfl : opAt F4.o2 0 = some (some 27, .call { callee := .value (.func 10), args := #[], argTypes := #[] }, none)) rfl rfl (ent Try.call10 rfl) (awake_ok hF) ?_
    rintro vw3 w3 ⟨rfl, hs⟩
    refine ⟨trivial, ?_⟩
    replace hF := hF.st hs
    replace hT := hT.trans hs (by simp)
    replace hl := hl.st hs (by first | decide | (simp <;> omega))
    refine yS (by kernel_rfl : opAt F4.o2 1 = some (some 2, .assign (.tmp 27), none)) rfl rfl (fun w' hS => val_assign rfl) ?_
    refine Sch.nil ?_
    refine run_ret1 (by kernel_rfl) Try.func4 Try.results4 rfl ?_
    exact ⟨rfl, hT.out1 (by decide)⟩
  · skip
    refine run_skip (by kernel_rfl) ?_
    refine run_seq (x := F4.c11) (y := F4.c12) (by kernel_rfl) ?_
    refine run_plain (id := 3) (ops := F4.o3) [(0, true), (1, false), (2, true)] (by kernel_rfl) (by kernel_rfl) ?_
    refine yS (by kernel_rfl : opAt F4.o3 0 = some (some 28, .move (.tmp 0), none)) rfl rfl (fun w' hS => val_move rfl) ?_
    refine cS (by kernel_rfl : opAt F4.o3 1 = some (some 29, .call { callee := .value (.func 12), args := #[(.tmp 28)], argTypes := #[22] }, none)) rfl rfl (ent Try.call12 rfl) (new_any hF hl) ?_
    rintro vw4 w4 ⟨Cd, bd, rfl, hs, hF, hd⟩
    refine ⟨trivial, ?_⟩
    replace hT := hT.trans hs (by simp)
    replace hl := hl.st hs (by first | decide | (simp <;> omega))
    refine yS (by kernel_rfl : opAt F4.o3 2 = some (some 3, .assign (.tmp 29), none)) rfl rfl (fun w' hS => val_assign rfl) ?_
    refine Sch.nil ?_
    refine run_seq (x := F4.c13) (y := F4.c14) (by kernel_rfl) ?_
    refine run_plain (id := 4) (ops := F4.o4) [(0, true), (1, false), (2, true), (3, false), (4, true), (5, true)] (by kernel_rfl) (by kernel_rfl) ?_
    refine yS (by kernel_rfl : opAt F4.o4 0 = some (some 30, .move (.tmp 3), none)) rfl rfl (fun w' hS => val_move rfl) ?_
    refine cS (by kernel_rfl : opAt F4.o4 1 = some (some 31, .call { callee := .value (.func 13), args := #[(.tmp 30), (.const (.int .i64 7))], argTypes := #[27, 3] }, none)) rfl rfl (ent Try.call13 rfl) (next_any (n := 7) hF (by decide) hd (by omega) (by omega)) ?_
    rintro vw5 w5 ⟨n, rfl, hn, hs, hd⟩
    refine ⟨trivial, ?_⟩
    replace hF := hF.st hs
    replace hT := hT.trans hs (by simp)
    replace hl := hl.st hs (by first | decide | (simp <;> omega))
    refine yS (by kernel_rfl : opAt F4.o4 2 = some (some 32, .move (.tmp 3), none)) rfl rfl (fun w' hS => val_move rfl) ?_
    refine cS (by kernel_rfl : opAt F4.o4 3 = some (some 33, .call { callee := .value (.func 13), args := #[(.tmp 32), (.const (.int .i64 7))], argTypes := #[27, 3] }, none)) rfl rfl (ent Try.call13 rfl) (next_any (n := 7) hF (by decide) hd (by omega) (by omega)) ?_
    rintro vw6 w6 ⟨m, rfl, hm, hs, hd⟩
    refine ⟨trivial, ?_⟩
    replace hF := hF.st hs
    replace hT := hT.trans hs (by simp)
    replace hl := hl.st hs (by first | decide | (simp <;> omega))
    refine yS (by kernel_rfl : opAt F4.o4 4 = some (some 4, .assign (.tmp 31), none)) rfl rfl (fun w' hS => val_assign rfl) ?_
    refine yS (by kernel_rfl : opAt F4.o4 5 = some (some 5, .assign (.tmp 33), none)) rfl rfl (fun w' hS => val_assign rfl) ?_
    refine Sch.nil ?_
    refine run_seq (x := F4.c15) (y := F4.c16) (by kernel_rfl) ?_
    refine run_plain (id := 5) (ops := F4.o5) [(0, true), (1, true), (2, true), (3, false), (4, true)] (by kernel_rfl) (by kernel_rfl) ?_
    refine yS (by kernel_rfl : opAt F4.o5 0 = some (some 34, .move (.tmp 3), none)) rfl rfl (fun w' hS => val_move rfl) ?_
    refine yS (by kernel_rfl : opAt F4.o5 1 = some (some 35, .move (.tmp 4), none)) rfl rfl (fun w' hS => val_move rfl) ?_
    refine yS (by kernel_rfl : opAt F4.o5 2 = some (some 36, .move (.tmp 5), none)) rfl rfl (fun w' hS => val_move rfl) ?_
    refine cS (by kernel_rfl : opAt F4.o5 3 = some (some 37, .call { callee := .value (.func 14), args := #[(.tmp 34), (.tmp 35), (.tmp 36), (.const (.int .i64 2))], argTypes := #[27, 3, 3, 3] }, none)) rfl rfl (ent Try.call14 rfl) (edges_any (n := n) (m := m) (one := 2) hF (by decide) hd (by omega) (by omega) (by decide) (by decide)) ?_
    rintro v_el w7 ⟨el, hE, ⟨hs, he, hd⟩, _⟩
    have hEV := hE.ve (by omega) (by omega)
    have hEc := hEV.check
    refine ⟨trivial, ?_⟩
    replace hF := hF.st hs
    replace hT := hT.trans hs (by simp)
    replace hl := hl.st hs (by first | decide | (simp <;> omega))
    refine yS (by kernel_rfl : opAt F4.o5 4 = some (some 6, .assign (.tmp 37), none)) rfl rfl (fun w' hS => val_assign rfl) ?_
    refine Sch.nil ?_
    have hel := hE.len
    refine run_seq (x := F4.c17) (y := F4.c18) (by kernel_rfl) ?_
    refine run_plain (id := 6) (ops := F4.o6) [(0, true), (1, true), (2, true), (3, false), (4, true), (5, true), (6, true), (7, true), (8, true), (9, true), (10, true)] (by kernel_rfl) (by kernel_rfl) ?_
    refine yS (by kernel_rfl : opAt F4.o6 0 = some (some 39, .move (.tmp 4), none)) rfl rfl (fun w' hS => val_move rfl) ?_
    refine yS (by kernel_rfl : opAt F4.o6 1 = some (some 40, .move (.tmp 5), none)) rfl rfl (fun w' hS => val_move rfl) ?_
    refine yS (by kernel_rfl : opAt F4.o6 2 = some (some 41, .move (.tmp 6), none)) rfl rfl (fun w' hS => val_move rfl) ?_
    refine cS (by kernel_rfl : opAt F4.o6 3 = some (some 42, .call { callee := .value (.func 19), args := #[(.tmp 39), (.tmp 40), (.tmp 41)], argTypes := #[3, 3, 23] }, none)) rfl rfl (ent Try.call19 rfl) (solve_ok (n := n) (m := m) (l := el) hF he) ?_
    rintro vw8 w8 ⟨u1, rfl, hs, hc1⟩
    refine ⟨trivial, ?_⟩
    replace hF := hF.st hs
    replace hT := hT.trans hs (by simp)
    replace hl := hl.st hs (by first | decide | (simp <;> omega))
    replace hd := hd.st hs (by first | decide | (simp <;> omega)) (by first | decide | (simp <;> omega))
    replace he := he.st hs (by first | decide | (simp <;> omega))
    rw [hEc]
    refine yS (by kernel_rfl : opAt F4.o6 4 = some (some 38, .move (.tmp 42), none)) rfl rfl (fun w' hS => val_move rfl) ?_
    refine yS (by kernel_rfl : opAt F4.o6 5 = some (some 43, .extract (.tmp 38) 0, none)) rfl rfl (fun w' hS => val_extract rfl rfl) ?_
    refine yS (by kernel_rfl : opAt F4.o6 6 = some (some 44, .extract (.tmp 38) 1, none)) rfl rfl (fun w' hS => val_extract rfl rfl) ?_
    refine yS (by kernel_rfl : opAt F4.o6 7 = some (some 45, .extract (.tmp 38) 2, none)) rfl rfl (fun w' hS => val_extract rfl rfl) ?_
    refine yS (by kernel_rfl : opAt F4.o6 8 = some (some 7, .assign (.tmp 43), none)) rfl rfl (fun w' hS => val_assign rfl) ?_
    refine yS (by kernel_rfl : opAt F4.o6 9 = some (some 8, .assign (.tmp 44), none)) rfl rfl (fun w' hS => val_assign rfl) ?_
    refine yS (by kernel_rfl : opAt F4.o6 10 = some (some 9, .assign (.tmp 45), none)) rfl rfl (fun w' hS => val_assign rfl) ?_
    refine Sch.nil ?_
    refine run_seq (x := F4.c19) (y := F4.c20) (by kernel_rfl) ?_
    refine run_plain (id := 7) (ops := F4.o7) [(0, true), (1, true), (2, true), (3, false), (4, true), (5, true), (6, true), (7, true), (8, true), (9, true), (10, true)] (by kernel_rfl) (by kernel_rfl) ?_
    refine yS (by kernel_rfl : opAt F4.o7 0 = some (some 47, .move (.tmp 4), none)) rfl rfl (fun w' hS => val_move rfl) ?_
    refine yS (by kernel_rfl : opAt F4.o7 1 = some (some 48, .move (.tmp 5), none)) rfl rfl (fun w' hS => val_move rfl) ?_
    refine yS (by kernel_rfl : opAt F4.o7 2 = some (some 49, .move (.tmp 6), none)) rfl rfl (fun w' hS => val_move rfl) ?_
    refine cS (by kernel_rfl : opAt F4.o7 3 = some (some 50, .call { callee := .value (.func 24), args := #[(.tmp 47), (.tmp 48), (.tmp 49)], argTypes := #[3, 3, 23] }, none)) rfl rfl (ent Try.call24 rfl) (prices_all (n := n) (m := m) (l := el) hF he) ?_
    rintro vw9 w9 ⟨pu, pv, Ul, Vl, rfl, hs0, hu0, hv0, hpr, hgv⟩
    obtain ⟨Cg, hs, hF, hu, hv⟩ := hgv hEc 4 (by decide)
    clear hgv hu0 hv0
    have hp := hpr hEc
    clear hpr
    have hpv0 := sol_pv hEc hp
    have hpv := pvB_iff.2 hpv0
    obtain ⟨hub, hvb⟩ := pri_bnd hEc hp
    have hul := hp.ul
    have hvl := hp.vl
    have hcl : (solL n m el).length ≤ n := by rw [solL_bst hEc]; simpa using outS_len n m (bst n m (pos (edW el)))
    have htb := solT_bnd hEc
    rw [hEc]
    refine ⟨trivial, ?_⟩
    replace hT := hT.trans hs (by simp)
    replace hl := hl.st hs (by first | decide | (simp <;> omega))
    replace hd := hd.st hs (by first | decide | (simp <;> omega)) (by first | decide | (simp <;> omega))
    replace he := he.st hs (by first | decide | (simp <;> omega))
    replace hc1 := hc1.st hs (by first | decide | (simp <;> omega))
    refine yS (by kernel_rfl : opAt F4.o7 4 = some (some 46, .move (.tmp 50), none)) rfl rfl (fun w' hS => val_move rfl) ?_
    refine yS (by kernel_rfl : opAt F4.o7 5 = some (some 51, .extract (.tmp 46) 0, none)) rfl rfl (fun w' hS => val_extract rfl rfl) ?_
    refine yS (by kernel_rfl : opAt F4.o7 6 = some (some 52, .extract (.tmp 46) 1, none)) rfl rfl (fun w' hS => val_extract rfl rfl) ?_
    refine yS (by kernel_rfl : opAt F4.o7 7 = some (some 53, .extract (.tmp 46) 2, none)) rfl rfl (fun w' hS => val_extract rfl rfl) ?_
    refine yS (by kernel_rfl : opAt F4.o7 8 = some (some 10, .assign (.tmp 51), none)) rfl rfl (fun w' hS => val_assign rfl) ?_
    refine yS (by kernel_rfl : opAt F4.o7 9 = some (some 11, .assign (.tmp 52), none)) rfl rfl (fun w' hS => val_assign rfl) ?_
    refine yS (by kernel_rfl : opAt F4.o7 10 = some (some 12, .assign (.tmp 53), none)) rfl rfl (fun w' hS => val_assign rfl) ?_
    refine Sch.nil ?_
    refine run_seq (x := F4.c21) (y := F4.c28) (by kernel_rfl) ?_
    refine run_seq (x := F4.c22) (y := F4.c23) (by kernel_rfl) ?_
    refine run_plain (id := 8) (ops := F4.o8) [(0, true), (1, true), (2, true), (3, true), (4, true), (5, true), (6, true), (7, true), (8, true), (9, true), (10, true), (11, true), (12, true), (13, true), (14, true), (15, true), (16, true), (17, true), (18, true), (19, true), (20, true), (21, true), (22, true), (23, true), (24, true), (25, false), (26, true), (27, true)] (by kernel_rfl) (by kernel_rfl) ?_
    refine yS (by kernel_rfl : opAt F4.o8 0 = some (some 54, .move (.tmp 9), none)) rfl rfl (fun w' hS => val_move rfl) ?_
    refine yS (by kernel_rfl : opAt F4.o8 1 = some (some 55, .binOp .neq 35 (.tmp 54) (.const (.int .i64 0)) 35, none)) rfl rfl (fun w' hS => val_is (val_neq rfl rfl) (show _ = Value.bool false from congrArg Value.bool (decide_eq_false (fun e => e rfl)))) ?_
    refine yS (by kernel_rfl : opAt F4.o8 2 = some (some 56, .move (.tmp 55), none)) rfl rfl (fun w' hS => val_move rfl) ?_
    refine yS (by kernel_rfl : opAt F4.o8 3 = some (some 57, .move (.tmp 12), (some (2, false)))) rfl rfl (fun w' hS => val_move rfl) ?_
    refine yS (by kernel_rfl : opAt F4.o8 4 = some (some 58, .binOp .neq 35 (.tmp 57) (.const (.int .i64 0)) 35, (some (2, false)))) rfl rfl (fun w' hS => val_is (val_neq rfl rfl) (show _ = Value.bool false from congrArg Value.bool (decide_eq_false (fun e => e rfl)))) ?_
    refine yS (by kernel_rfl : opAt F4.o8 5 = some (some 59, .pick (.tmp 56) (.const (.bool true)) (.tmp 58), none)) rfl rfl (fun w' hS => val_pick_f rfl rfl) ?_
    refine yS (by kernel_rfl : opAt F4.o8 6 = some (some 60, .move (.tmp 59), none)) rfl rfl (fun w' hS => val_move rfl) ?_
    refine yS (by kernel_rfl : opAt F4.o8 7 = some (some 61, .move (.tmp 10), (some (6, false)))) rfl rfl (fun w' hS => val_move rfl) ?_
    refine yS (by kernel_rfl : opAt F4.o8 8 = some (some 62, .call { callee := .builtin .len, args := #[(.tmp 61)], argTypes := #[22] }, (some (6, false)))) rfl rfl (fun w' hS => hu.lenV rfl Try.underlying22 w' ) ?_
    refine yS (by kernel_rfl : opAt F4.o8 9 = some (some 63, .move (.tmp 4), (some (6, false)))) rfl rfl (fun w' hS => val_move rfl) ?_
    refine yS (by kernel_rfl : opAt F4.o8 10 = some (some 64, .binOp .neq 3 (.tmp 62) (.tmp 63) 3, (some (6, false)))) rfl rfl (fun w' hS => val_is (val_neq rfl rfl) (show _ = Value.bool false from congrArg Value.bool (decide_eq_false (fun e => e (by omega))))) ?_
    refine yS (by kernel_rfl : opAt F4.o8 11 = some (some 65, .pick (.tmp 60) (.const (.bool true)) (.tmp 64), none)) rfl rfl (fun w' hS => val_pick_f rfl rfl) ?_
    refine yS (by kernel_rfl : opAt F4.o8 12 = some (some 66, .move (.tmp 65), none)) rfl rfl (fun w' hS => val_move rfl) ?_
    refine yS (by kernel_rfl : opAt F4.o8 13 = some (some 67, .move (.tmp 11), (some (12, false)))) rfl rfl (fun w' hS => val_move rfl) ?_
    refine yS (by kernel_rfl : opAt F4.o8 14 = some (some 68, .call { callee := .builtin .len, args := #[(.tmp 67)], argTypes := #[22] }, (some (12, false)))) rfl rfl (fun w' hS => hv.lenV rfl Try.underlying22 w' ) ?_
    refine yS (by kernel_rfl : opAt F4.o8 15 = some (some 69, .move (.tmp 5), (some (12, false)))) rfl rfl (fun w' hS => val_move rfl) ?_
    refine yS (by kernel_rfl : opAt F4.o8 16 = some (some 70, .binOp .neq 3 (.tmp 68) (.tmp 69) 3, (some (12, false)))) rfl rfl (fun w' hS => val_is (val_neq rfl rfl) (show _ = Value.bool false from congrArg Value.bool (decide_eq_false (fun e => e (by omega))))) ?_
    refine yS (by kernel_rfl : opAt F4.o8 17 = some (some 71, .pick (.tmp 66) (.const (.bool true)) (.tmp 70), none)) rfl rfl (fun w' hS => val_pick_f rfl rfl) ?_
    refine yS (by kernel_rfl : opAt F4.o8 18 = some (some 72, .move (.tmp 71), none)) rfl rfl (fun w' hS => val_move rfl) ?_
    refine yS (by kernel_rfl : opAt F4.o8 19 = some (some 73, .move (.tmp 4), (some (18, false)))) rfl rfl (fun w' hS => val_move rfl) ?_
    refine yS (by kernel_rfl : opAt F4.o8 20 = some (some 74, .move (.tmp 5), (some (18, false)))) rfl rfl (fun w' hS => val_move rfl) ?_
    refine yS (by kernel_rfl : opAt F4.o8 21 = some (some 75, .move (.tmp 6), (some (18, false)))) rfl rfl (fun w' hS => val_move rfl) ?_
    refine yS (by kernel_rfl : opAt F4.o8 22 = some (some 76, .move (.tmp 7), (some (18, false)))) rfl rfl (fun w' hS => val_move rfl) ?_
    refine yS (by kernel_rfl : opAt F4.o8 23 = some (some 77, .move (.tmp 10), (some (18, false)))) rfl rfl (fun w' hS => val_move rfl) ?_
    refine yS (by kernel_rfl : opAt F4.o8 24 = some (some 78, .move (.tmp 11), (some (18, false)))) rfl rfl (fun w' hS => val_move rfl) ?_
    refine cS (by kernel_rfl : opAt F4.o8 25 = some (some 79, .call { callee := .value (.func 22), args := #[(.tmp 73), (.tmp 74), (.tmp 75), (.tmp 76), (.tmp 77), (.tmp 78)], argTypes := #[3, 3, 23, 24, 22, 22] }, (some (18, false)))) rfl rfl (ent Try.call22 rfl) (proves_ok (n := n) (m := m) (hF.frz 4) (he.frz 4) (hc1.frz 4) (hu.frz (n := 4) (by decide) (by omega)) (hv.frz 4) (by omega)) ?_
    rintro vw10 w10 ⟨rfl, hs0⟩
    have hs := hs0.unfrz (Cg)
    rw [hpv]
    refine ⟨trivial, ?_⟩
    replace hF := hF.st hs
    replace hT := hT.trans hs (by simp)
    replace hl := hl.st hs (by first | decide | (simp <;> omega))
    replace hd := hd.st hs (by first | decide | (simp <;> omega)) (by first | decide | (simp <;> omega))
    replace he := he.st hs (by first | decide | (simp <;> omega))
    replace hc1 := hc1.st hs (by first | decide | (simp <;> omega))
    replace hu := hu.st hs (by first | decide | (simp <;> omega)) (by first | decide | (simp <;> omega))
    replace hv := hv.st hs (by first | decide | (simp <;> omega))
    refine yS (by kernel_rfl : opAt F4.o8 26 = some (some 80, .unOp .not 4 (.tmp 79), (some (18, false)))) rfl rfl (fun w' hS => val_not rfl) ?_
    refine yS (by kernel_rfl : opAt F4.o8 27 = some (some 81, .pick (.tmp 72) (.const (.bool true)) (.tmp 80), none)) rfl rfl (fun w' hS => val_pick_f rfl rfl) ?_
    refine Sch.nil ?_
    refine run_cond (x := F4.c24) (y := F4.c27) (o := .tmp 81) (b := false) (by kernel_rfl) rfl (fun h => by cases h) (fun _ => ?_)
    refine run_skip (by kernel_rfl) ?_
    refine run_seq (x := F4.c29) (y := F4.c30) (by kernel_rfl) ?_
    refine run_plain (id := 10) (ops := F4.o10) [(0, true)] (by kernel_rfl) (by kernel_rfl) ?_
    refine yS (by kernel_rfl : opAt F4.o10 0 = some (some 13, .assign (.const (.int .i64 0)), none)) rfl rfl (fun w' hS => val_assign rfl) ?_
    refine Sch.nil ?_
    refine run_seq (x := F4.c31) (y := F4.c55) (by kernel_rfl) ?_
    refine run_seq (x := F4.c32) (y := F4.c33) (by kernel_rfl) ?_
    refine run_plain (id := 11) (ops := F4.o11) [(0, true), (1, true), (2, true)] (by kernel_rfl) (by kernel_rfl) ?_
    refine yS (by kernel_rfl : opAt F4.o11 0 = some (some 82, .move (.tmp 10), none)) rfl rfl (fun w' hS => val_move rfl) ?_
    refine yS (by kernel_rfl : opAt F4.o11 1 = some (some 83, .call { callee := .builtin .len, args := #[(.tmp 82)], argTypes := #[22] }, none)) rfl rfl (fun w' hS => hu.lenV rfl Try.underlying22 w' ) ?_
    refine yS (by kernel_rfl : opAt F4.o11 2 = some (some 84, .move (.const (.int .i64 0)), none)) rfl rfl (fun w' hS => val_move rfl) ?_
    refine Sch.nil ?_
    refine run_block (x := F4.c34) (id := 0) (by kernel_rfl) ?_
    
    refine run_loop (ι := Nat × (Nat → Nat)) (I := fun x w => x.1 ≤ Ul.length ∧ (0 ≤ sumN x.1 (gI Ul) ∧ sumN x.1 (gI Ul) ≤ 4194304 * x.1) ∧ Lim w x.2 ∧ Stp [2, 3, 4, 5, 6, 7, 8, 9] w₀ (col1 C) w x.2 ∧ DeckIs w x.2 3 bd ∧ RV w (Mc x.2) el v_el ∧ RV w (Mc x.2) (solL n m el) u1 ∧ OwnL w x.2 4 3 pu Ul ∧ RV w (Mc x.2) Vl pv) (e := fun x => [(3, .pointer (some ⟨bd, 0, none⟩)), (4, .int .i64 n), (5, .int .i64 m), (6, v_el), (7, u1), (8, .int .i64 (solT n m el)), (10, pu), (11, pv), (13, .int .i64 (sumN x.1 (gI Ul))), (82, pu), (83, .int .i64 Ul.length), (84, .int .i64 x.1)]) (m := fun x => Ul.length - x.1) (x₀ := (0, Cg)) (body := F4.c35) (by kernel_rfl) (sub_cons 3 rfl rfl (sub_cons 4 rfl rfl (sub_cons 5 rfl rfl (sub_cons 6 rfl rfl (sub_cons 7 rfl rfl (sub_cons 8 rfl rfl (sub_cons 10 rfl rfl (sub_cons 11 rfl rfl (sub_cons 13 rfl rfl (sub_cons 82 rfl rfl (sub_cons 83 rfl rfl (sub_cons 84 rfl rfl (sub_nil _))))))))))))) ?_ ?_
    · exact ⟨Nat.zero_le _, ⟨Int.le_refl _, Int.le_refl _⟩, hF, hT, hd, he, hc1, hu, hv⟩
    intro ⟨i, C1⟩ w11 hI next
    obtain ⟨hi, hs1, hF, hT, hd, he, hc1, hu, hv⟩ := hI
    try simp only at hi hs1 hF hT hd he hc1 hu hv
    have next1 := next
    clear next
    show Run _ _ _ _ [(3, .pointer (some ⟨bd, 0, none⟩)), (4, .int .i64 n), (5, .int .i64 m), (6, v_el), (7, u1), (8, .int .i64 (solT n m el)), (10, pu), (11, pv), (13, .int .i64 (sumN i (gI Ul))), (82, pu), (83, .int .i64 Ul.length), (84, .int .i64 i)] _ _
    refine run_seq (x := F4.c36) (y := F4.c37) (by kernel_rfl) ?_
    refine run_plain (id := 12) (ops := F4.o12) [(0, true)] (by kernel_rfl) (by kernel_rfl) ?_
    refine yS (by kernel_rfl : opAt F4.o12 0 = some (some 85, .binOp .lss 3 (.tmp 84) (.tmp 83) 3, none)) rfl rfl (fun w' hS => val_lss rfl rfl) ?_
    refine Sch.nil ?_
    refine run_seq (x := F4.c38) (y := F4.c41) (by kernel_rfl) ?_
    refine run_if (x := F4.c39) (y := F4.c40) (o := .tmp 85) (by kernel_rfl) rfl (fun h85 => ?_) (fun h85 => ?_)
    · skip
      have hil : i < Ul.length := by omega
      have hui := hub i hil
      have hgi : gI Ul i = Ul[i] := getD_in hil
      refine run_skip (by kernel_rfl) ?_
      refine run_seq (x := F4.c42) (y := F4.c54) (by kernel_rfl) ?_
      refine run_block (x := F4.c43) (id := 1) (by kernel_rfl) ?_
      refine run_seq (x := F4.c44) (y := F4.c45) (by kernel_rfl) ?_
      refine run_plain (id := 13) (ops := F4.o13) [(0, true), (1, false), (2, true)] (by kernel_rfl) (by kernel_rfl) ?_
      refine oI (e' := 3) (by kernel_rfl : opAt F4.o13 0 = some (some 86, .indexAddr 22 (.tmp 82) (.tmp 84), none)) rfl rfl hu rfl (by kernel_rfl) rfl (by omega) (by omega) ?_
      intro g86 hg86
      try simp only [Int.toNat_natCast]
      refine oN (by kernel_rfl : opAt F4.o13 1 = some (some 87, .load 3 (.tmp 86), none)) rfl rfl trivial hu hg86 (by omega) (by kernel_rfl) rfl rfl ?_
      intro v87 g87
      try simp only [Int.toNat_natCast] at g87
      first | (obtain rfl := rv_nat.1 g87) | (obtain rfl := rv_int.1 g87)
      rw [← hgi]
      refine yS (by kernel_rfl : opAt F4.o13 2 = some (some 15, .assign (.tmp 87), none)) rfl rfl (fun w' hS => val_assign rfl) ?_
      refine Sch.nil ?_
      refine run_seq (x := F4.c46) (y := F4.c53) (by kernel_rfl) ?_
      refine run_seq (x := F4.c47) (y := F4.c48) (by kernel_rfl) ?_
      refine run_plain (id := 14) (ops := F4.o14) [(0, true), (1, true)] (by kernel_rfl) (by kernel_rfl) ?_
      refine yS (by kernel_rfl : opAt F4.o14 0 = some (some 88, .move (.tmp 15), none)) rfl rfl (fun w' hS => val_move rfl) ?_
      refine yS (by kernel_rfl : opAt F4.o14 1 = some (some 89, .binOp .lss 3 (.tmp 88) (.const (.int .i64 0)) 3, none)) rfl rfl (fun w' hS => val_lss rfl rfl) ?_
      refine Sch.nil ?_
      refine run_if (x := F4.c49) (y := F4.c52) (o := .tmp 89) (by kernel_rfl) rfl (fun h89 => ?_) (fun h89 => ?_)
      · skip
        exact absurd h89 (by omega)
      · skip
        refine run_skip (by kernel_rfl) ?_
        refine run_plain (id := 16) (ops := F4.o16) [(0, true), (1, true), (2, true), (3, true)] (by kernel_rfl) (by kernel_rfl) ?_
        refine yS (by kernel_rfl : opAt F4.o16 0 = some (some 90, .move (.tmp 13), none)) rfl rfl (fun w' hS => val_move rfl) ?_
        refine yS (by kernel_rfl : opAt F4.o16 1 = some (some 91, .move (.tmp 15), none)) rfl rfl (fun w' hS => val_move rfl) ?_
        refine yS (by kernel_rfl : opAt F4.o16 2 = some (some 92, .binOp .add 3 (.tmp 90) (.tmp 91) 3, none)) rfl rfl (fun w' hS => val_addi rfl rfl (by omega) (by omega)) ?_
        refine yS (by kernel_rfl : opAt F4.o16 3 = some (some 13, .assign (.tmp 92), none)) rfl rfl (fun w' hS => val_assign rfl) ?_
        refine Sch.nil ?_
        refine run_inBlock ?_
        refine run_plain (id := 17) (ops := F4.o17) [(0, true), (1, true)] (by kernel_rfl) (by kernel_rfl) ?_
        refine yS (by kernel_rfl : opAt F4.o17 0 = some (some 93, .binOp .add 3 (.tmp 84) (.const (.int .i64 1)) 3, none)) rfl rfl (fun w' hS => val_addi rfl rfl (by omega) (by omega)) ?_
        refine yS (by kernel_rfl : opAt F4.o17 1 = some (some 84, .move (.tmp 93), none)) rfl rfl (fun w' hS => val_move rfl) ?_
        refine Sch.nil ?_
        refine kp (sub_cons 3 rfl rfl (sub_cons 4 rfl rfl (sub_cons 5 rfl rfl (sub_cons 6 rfl rfl (sub_cons 7 rfl rfl (sub_cons 8 rfl rfl (sub_cons 10 rfl rfl (sub_cons 11 rfl rfl (sub_cons 13 rfl rfl (sub_cons 82 rfl rfl (sub_cons 83 rfl rfl (sub_cons 84 rfl (eq_int (by simp)) (sub_nil _))))))))))))) (next1 (i + 1, C1) _ ⟨(by first | omega | (simp only; omega)), (by show 0 ≤ sumN i (gI Ul) + gI Ul i ∧ sumN i (gI Ul) + gI Ul i ≤ _; simp only; omega), hF, hT, hd, he, hc1, hu, hv⟩ (by first | omega | (simp only; omega)))
    · skip
      have hil : i = Ul.length := by omega
      rw [hil] at hs1
      rw [hil]
      refine run_exit (id := 0) (by kernel_rfl) rfl ?_
      refine run_seq (x := F4.c56) (y := F4.c80) (by kernel_rfl) ?_
      refine run_seq (x := F4.c57) (y := F4.c58) (by kernel_rfl) ?_
      refine run_plain (id := 18) (ops := F4.o18) [(0, true), (1, true), (2, true)] (by kernel_rfl) (by kernel_rfl) ?_
      refine yS (by kernel_rfl : opAt F4.o18 0 = some (some 94, .move (.tmp 11), none)) rfl rfl (fun w' hS => val_move rfl) ?_
      refine yS (by kernel_rfl : opAt F4.o18 1 = some (some 95, .call { callee := .builtin .len, args := #[(.tmp 94)], argTypes := #[22] }, none)) rfl rfl (fun w' hS => hv.lenV rfl Try.underlying22 w' ) ?_
      refine yS (by kernel_rfl : opAt F4.o18 2 = some (some 96, .move (.const (.int .i64 0)), none)) rfl rfl (fun w' hS => val_move rfl) ?_
      refine Sch.nil ?_
      refine run_block (x := F4.c59) (id := 2) (by kernel_rfl) ?_
      
      refine run_loop (ι := Nat × (Nat → Nat)) (I := fun x w => x.1 ≤ Vl.length ∧ (0 ≤ sumN x.1 (gI Vl) ∧ sumN x.1 (gI Vl) ≤ 4194304 * x.1) ∧ Lim w x.2 ∧ Stp [2, 3, 4, 5, 6, 7, 8, 9] w₀ (col1 C) w x.2 ∧ DeckIs w x.2 3 bd ∧ RV w (Mc x.2) el v_el ∧ RV w (Mc x.2) (solL n m el) u1 ∧ OwnL w x.2 4 3 pu Ul ∧ RV w (Mc x.2) Vl pv) (e := fun x => [(3, .pointer (some ⟨bd, 0, none⟩)), (4, .int .i64 n), (5, .int .i64 m), (6, v_el), (7, u1), (8, .int .i64 (solT n m el)), (10, pu), (11, pv), (13, .int .i64 (sumN Ul.length (gI Ul) + sumN x.1 (gI Vl))), (94, pv), (95, .int .i64 Vl.length), (96, .int .i64 x.1)]) (m := fun x => Vl.length - x.1) (x₀ := (0, C1)) (body := F4.c60) (by kernel_rfl) (sub_cons 3 rfl rfl (sub_cons 4 rfl rfl (sub_cons 5 rfl rfl (sub_cons 6 rfl rfl (sub_cons 7 rfl rfl (sub_cons 8 rfl rfl (sub_cons 10 rfl rfl (sub_cons 11 rfl rfl (sub_cons 13 rfl (eq_int (show sumN Ul.length (gI Ul) = sumN Ul.length (gI Ul) + 0 from by omega)) (sub_cons 94 rfl rfl (sub_cons 95 rfl rfl (sub_cons 96 rfl rfl (sub_nil _))))))))))))) ?_ ?_
      · exact ⟨Nat.zero_le _, ⟨Int.le_refl _, Int.le_refl _⟩, hF, hT, hd, he, hc1, hu, hv⟩
      intro ⟨j, C1⟩ w12 hI next
      obtain ⟨hj, hs2, hF, hT, hd, he, hc1, hu, hv⟩ := hI
      try simp only at hj hs2 hF hT hd he hc1 hu hv
      have next2 := next
      clear next
      show Run _ _ _ _ [(3, .pointer (some ⟨bd, 0, none⟩)), (4, .int .i64 n), (5, .int .i64 m), (6, v_el), (7, u1), (8, .int .i64 (solT n m el)), (10, pu), (11, pv), (13, .int .i64 (sumN Ul.length (gI Ul) + sumN j (gI Vl))), (94, pv), (95, .int .i64 Vl.length), (96, .int .i64 j)] _ _
      refine run_seq (x := F4.c61) (y := F4.c62) (by kernel_rfl) ?_
      refine run_plain (id := 19) (ops := F4.o19) [(0, true)] (by kernel_rfl) (by kernel_rfl) ?_
      refine yS (by kernel_rfl : opAt F4.o19 0 = some (some 97, .binOp .lss 3 (.tmp 96) (.tmp 95) 3, none)) rfl rfl (fun w' hS => val_lss rfl rfl) ?_
      refine Sch.nil ?_
      refine run_seq (x := F4.c63) (y := F4.c66) (by kernel_rfl) ?_
      refine run_if (x := F4.c64) (y := F4.c65) (o := .tmp 97) (by kernel_rfl) rfl (fun h97 => ?_) (fun h97 => ?_)
      · skip
        have hjl : j < Vl.length := by omega
        have hvj := hvb j hjl
        have hgj : gI Vl j = Vl[j] := getD_in hjl
        refine run_skip (by kernel_rfl) ?_
        refine run_seq (x := F4.c67) (y := F4.c79) (by kernel_rfl) ?_
        refine run_block (x := F4.c68) (id := 3) (by kernel_rfl) ?_
        refine run_seq (x := F4.c69) (y := F4.c70) (by kernel_rfl) ?_
        refine run_plain (id := 20) (ops := F4.o20) [(0, true), (1, false), (2, true)] (by kernel_rfl) (by kernel_rfl) ?_
        refine iS (e := 3) (by kernel_rfl : opAt F4.o20 0 = some (some 98, .indexAddr 22 (.tmp 94) (.tmp 96), none)) rfl rfl hv rfl (by kernel_rfl) rfl (by omega) (by omega) ?_
        intro b98 o98 h98
        try simp only [Int.toNat_natCast] at h98
        refine lN (by kernel_rfl : opAt F4.o20 1 = some (some 99, .load 3 (.tmp 98), none)) rfl rfl trivial h98 (by kernel_rfl) rfl rfl ?_
        intro v99 g99
        first | (obtain rfl := rv_nat.1 g99) | (obtain rfl := rv_int.1 g99)
        rw [← hgj]
        refine yS (by kernel_rfl : opAt F4.o20 2 = some (some 17, .assign (.tmp 99), none)) rfl rfl (fun w' hS => val_assign rfl) ?_
        refine Sch.nil ?_
        refine run_seq (x := F4.c71) (y := F4.c78) (by kernel_rfl) ?_
        refine run_seq (x := F4.c72) (y := F4.c73) (by kernel_rfl) ?_
        refine run_plain (id := 21) (ops := F4.o21) [(0, true), (1, true)] (by kernel_rfl) (by kernel_rfl) ?_
        refine yS (by kernel_rfl : opAt F4.o21 0 = some (some 100, .move (.tmp 17), none)) rfl rfl (fun w' hS => val_move rfl) ?_
        refine yS (by kernel_rfl : opAt F4.o21 1 = some (some 101, .binOp .lss 3 (.tmp 100) (.const (.int .i64 0)) 3, none)) rfl rfl (fun w' hS => val_lss rfl rfl) ?_
        refine Sch.nil ?_
        refine run_if (x := F4.c74) (y := F4.c77) (o := .tmp 101) (by kernel_rfl) rfl (fun h101 => ?_) (fun h101 => ?_)
        · skip
          exact absurd h101 (by omega)
        · skip
          refine run_skip (by kernel_rfl) ?_
          refine run_plain (id := 23) (ops := F4.o23) [(0, true), (1, true), (2, true), (3, true)] (by kernel_rfl) (by kernel_rfl) ?_
          refine yS (by kernel_rfl : opAt F4.o23 0 = some (some 102, .move (.tmp 13), none)) rfl rfl (fun w' hS => val_move rfl) ?_
          refine yS (by kernel_rfl : opAt F4.o23 1 = some (some 103, .move (.tmp 17), none)) rfl rfl (fun w' hS => val_move rfl) ?_
          refine yS (by kernel_rfl : opAt F4.o23 2 = some (some 104, .binOp .add 3 (.tmp 102) (.tmp 103) 3, none)) rfl rfl (fun w' hS => val_addi rfl rfl (by omega) (by omega)) ?_
          refine yS (by kernel_rfl : opAt F4.o23 3 = some (some 13, .assign (.tmp 104), none)) rfl rfl (fun w' hS => val_assign rfl) ?_
          refine Sch.nil ?_
          refine run_inBlock ?_
          refine run_plain (id := 24) (ops := F4.o24) [(0, true), (1, true)] (by kernel_rfl) (by kernel_rfl) ?_
          refine yS (by kernel_rfl : opAt F4.o24 0 = some (some 105, .binOp .add 3 (.tmp 96) (.const (.int .i64 1)) 3, none)) rfl rfl (fun w' hS => val_addi rfl rfl (by omega) (by omega)) ?_
          refine yS (by kernel_rfl : opAt F4.o24 1 = some (some 96, .move (.tmp 105), none)) rfl rfl (fun w' hS => val_move rfl) ?_
          refine Sch.nil ?_
          refine kp (sub_cons 3 rfl rfl (sub_cons 4 rfl rfl (sub_cons 5 rfl rfl (sub_cons 6 rfl rfl (sub_cons 7 rfl rfl (sub_cons 8 rfl rfl (sub_cons 10 rfl rfl (sub_cons 11 rfl rfl (sub_cons 13 rfl (eq_int (by show sumN Ul.length (gI Ul) + sumN j (gI Vl) + gI Vl j = sumN Ul.length (gI Ul) + (sumN j (gI Vl) + gI Vl j); omega)) (sub_cons 94 rfl rfl (sub_cons 95 rfl rfl (sub_cons 96 rfl (eq_int (by simp)) (sub_nil _))))))))))))) (next2 (j + 1, C1) _ ⟨(by first | omega | (simp only; omega)), (by show 0 ≤ sumN j (gI Vl) + gI Vl j ∧ sumN j (gI Vl) + gI Vl j ≤ _; simp only; omega), hF, hT, hd, he, hc1, hu, hv⟩ (by first | omega | (simp only; omega)))
      · skip
        have hjl : j = Vl.length := by omega
        rw [hjl, hp.sum]
        refine run_exit (id := 2) (by kernel_rfl) rfl ?_
        refine run_seq (x := F4.c81) (y := F4.c103) (by kernel_rfl) ?_
        refine run_seq (x := F4.c82) (y := F4.c83) (by kernel_rfl) ?_
        refine run_plain (id := 25) (ops := F4.o25) [(0, true), (1, true), (2, true)] (by kernel_rfl) (by kernel_rfl) ?_
        refine yS (by kernel_rfl : opAt F4.o25 0 = some (some 106, .move (.tmp 6), none)) rfl rfl (fun w' hS => val_move rfl) ?_
        refine yS (by kernel_rfl : opAt F4.o25 1 = some (some 107, .call { callee := .builtin .len, args := #[(.tmp 106)], argTypes := #[23] }, none)) rfl rfl (fun w' hS => he.lenV rfl Try.underlying23 w' ) ?_
        refine yS (by kernel_rfl : opAt F4.o25 2 = some (some 108, .move (.const (.int .i64 0)), none)) rfl rfl (fun w' hS => val_move rfl) ?_
        refine Sch.nil ?_
        refine run_block (x := F4.c84) (id := 4) (by kernel_rfl) ?_
        
        refine run_loop (ι := Nat × (Nat → Nat)) (I := fun x w => x.1 ≤ el.length ∧ Lim w x.2 ∧ Stp [2, 3, 4, 5, 6, 7, 8, 9] w₀ (col1 C) w x.2 ∧ DeckIs w x.2 3 bd ∧ RV w (Mc x.2) el v_el ∧ RV w (Mc x.2) (solL n m el) u1 ∧ OwnL w x.2 4 3 pu Ul ∧ RV w (Mc x.2) Vl pv) (e := fun x => [(3, .pointer (some ⟨bd, 0, none⟩)), (4, .int .i64 n), (5, .int .i64 m), (6, v_el), (7, u1), (8, .int .i64 (solT n m el)), (10, pu), (11, pv), (13, .int .i64 (solT n m el)), (106, v_el), (107, .int .i64 el.length), (108, .int .i64 x.1)]) (m := fun x => el.length - x.1) (x₀ := (0, C1)) (body := F4.c85) (by kernel_rfl) (sub_cons 3 rfl rfl (sub_cons 4 rfl rfl (sub_cons 5 rfl rfl (sub_cons 6 rfl rfl (sub_cons 7 rfl rfl (sub_cons 8 rfl rfl (sub_cons 10 rfl rfl (sub_cons 11 rfl rfl (sub_cons 13 rfl rfl (sub_cons 106 rfl rfl (sub_cons 107 rfl rfl (sub_cons 108 rfl rfl (sub_nil _))))))))))))) ?_ ?_
        · exact ⟨Nat.zero_le _, hF, hT, hd, he, hc1, hu, hv⟩
        intro ⟨k, C1⟩ w13 hI next
        obtain ⟨hk, hF, hT, hd, he, hc1, hu, hv⟩ := hI
        try simp only at hk hF hT hd he hc1 hu hv
        have next3 := next
        clear next
        show Run _ _ _ _ [(3, .pointer (some ⟨bd, 0, none⟩)), (4, .int .i64 n), (5, .int .i64 m), (6, v_el), (7, u1), (8, .int .i64 (solT n m el)), (10, pu), (11, pv), (13, .int .i64 (solT n m el)), (106, v_el), (107, .int .i64 el.length), (108, .int .i64 k)] _ _
        refine run_seq (x := F4.c86) (y := F4.c87) (by kernel_rfl) ?_
        refine run_plain (id := 26) (ops := F4.o26) [(0, true)] (by kernel_rfl) (by kernel_rfl) ?_
        refine yS (by kernel_rfl : opAt F4.o26 0 = some (some 109, .binOp .lss 3 (.tmp 108) (.tmp 107) 3, none)) rfl rfl (fun w' hS => val_lss rfl rfl) ?_
        refine Sch.nil ?_
        refine run_seq (x := F4.c88) (y := F4.c91) (by kernel_rfl) ?_
        refine run_if (x := F4.c89) (y := F4.c90) (o := .tmp 109) (by kernel_rfl) rfl (fun h109 => ?_) (fun h109 => ?_)
        · skip
          have hkl : k < el.length := by omega
          have hxo := hE.ok _ (List.getElem_mem hkl)
          have hcov := hp.cov _ (List.getElem_mem hkl)
          have hga : gI Ul (el[k]'hkl).a.toNat = Ul[(el[k]'hkl).a.toNat]'(by omega) := getD_in _
          have hgb : gI Vl (el[k]'hkl).b.toNat = Vl[(el[k]'hkl).b.toNat]'(by omega) := getD_in _
          have hba := hub (el[k]'hkl).a.toNat (by omega)
          have hbb := hvb (el[k]'hkl).b.toNat (by omega)
          refine run_skip (by kernel_rfl) ?_
          refine run_seq (x := F4.c92) (y := F4.c102) (by kernel_rfl) ?_
          refine run_block (x := F4.c93) (id := 5) (by kernel_rfl) ?_
          refine run_seq (x := F4.c94) (y := F4.c95) (by kernel_rfl) ?_
          refine run_plain (id := 27) (ops := F4.o27) [(0, true), (1, false), (2, false), (3, false)] (by kernel_rfl) (by kernel_rfl) ?_
          refine iS (e := 46) (by kernel_rfl : opAt F4.o27 0 = some (some 110, .indexAddr 23 (.tmp 106) (.tmp 108), none)) rfl rfl he rfl (by kernel_rfl) rfl (by omega) (by omega) ?_
          intro b110 o110 h110
          try simp only [Int.toNat_natCast] at h110
          refine lNA (by kernel_rfl : opAt F4.o27 1 = some (some 111, .load 46 (.tmp 110), none)) rfl rfl trivial h110 (by kernel_rfl) (by kernel_rfl) rfl rfl ?_
          intro v111 g111
          obtain rfl := rv_edge.1 g111
          refine aS (by kernel_rfl : opAt F4.o27 2 = some (some 19, .alloc 46, none)) rfl rfl (a_alloc (cs := [.int .i64 0, .int .i64 0, .int .i64 0]) hF 6 (by kernel_rfl)) ?_
          rintro _ w14 ⟨Cw14, bw14, rfl, hs, hx, hF⟩
          refine ⟨trivial, ?_⟩
          replace hT := hT.trans hs (by simp)
          replace hd := hd.st hs (by first | decide | (simp <;> omega)) (by first | decide | (simp <;> omega))
          replace he := he.st hs (by first | decide | (simp <;> omega))
          replace hc1 := hc1.st hs (by first | decide | (simp <;> omega))
          replace hu := hu.st hs (by first | decide | (simp <;> omega)) (by first | decide | (simp <;> omega))
          replace hv := hv.st hs (by first | decide | (simp <;> omega))
          replace h110 := h110.st hs (by first | decide | (simp <;> omega))
          refine aN (by kernel_rfl : opAt F4.o27 3 = some (none, .store 46 (.tmp 19) (.tmp 111), none)) rfl (a_storeAll (vs := encE (el[k]'hkl)) (n := 3) rfl rfl (by kernel_rfl) rfl rfl (by intro u hu; simp only [encE, List.mem_cons, List.not_mem_nil, or_false] at hu; rcases hu with rfl | rfl | rfl <;> rfl) hx rfl) ?_
          rintro _ w15 ⟨rfl, hs, hx⟩
          refine ⟨trivial, ?_⟩
          replace hF := hF.st hs
          replace hT := hT.trans hs (by simp)
          replace hd := hd.st hs (by first | decide | (simp <;> omega)) (by first | decide | (simp <;> omega))
          replace he := he.st hs (by first | decide | (simp <;> omega))
          replace hc1 := hc1.st hs (by first | decide | (simp <;> omega))
          replace hu := hu.st hs (by first | decide | (simp <;> omega)) (by first | decide | (simp <;> omega))
          replace hv := hv.st hs (by first | decide | (simp <;> omega))
          replace h110 := h110.st hs (by first | decide | (simp <;> omega))
          refine Sch.nil ?_
          refine run_seq (x := F4.c96) (y := F4.c97) (by kernel_rfl) ?_
          refine run_draw (id := 28) (ops := F4.o28) [] (Cw14) [(0, true), (1, true), (2, true), (3, true), (4, true), (5, true), (6, true), (7, true), (8, true), (9, true), (10, true), (11, true), (12, true), (13, true)] Try_mixed (by kernel_rfl) (by kernel_rfl) (by kernel_rfl) ?_
          intro w16 hs
          replace hF := hF.st hs
          replace hT := hT.trans hs (by simp)
          replace hd := hd.st hs (by first | decide | (simp <;> omega)) (by first | decide | (simp <;> omega))
          replace he := he.st hs (by first | decide | (simp <;> omega))
          replace hc1 := hc1.st hs (by first | decide | (simp <;> omega))
          replace hu := hu.st hs (by first | decide | (simp <;> omega)) (by first | decide | (simp <;> omega))
          replace hv := hv.st hs (by first | decide | (simp <;> omega))
          replace h110 := h110.st hs (by first | decide | (simp <;> omega))
          replace hx := hx.st hs (by first | decide | (simp <;> omega))
          refine yS (by kernel_rfl : opAt F4.o28 0 = some (some 112, .move (.tmp 10), none)) rfl rfl (fun w' hS => val_move rfl) ?_
          refine yS (by kernel_rfl : opAt F4.o28 1 = some (some 113, .fieldAddr 46 (.tmp 19) 0, none)) rfl rfl (fun w' hS => val_fieldAddr (off := 0) (by kernel_rfl) rfl) ?_
          refine yS (by kernel_rfl : opAt F4.o28 2 = some (some 114, .load 3 (.tmp 113), none)) rfl rfl (fun w' hS => val_loadOwn (hx.stay hS (by decide)) (by kernel_rfl) rfl rfl) ?_
          refine oI (e' := 3) (by kernel_rfl : opAt F4.o28 3 = some (some 115, .indexAddr 22 (.tmp 112) (.tmp 114), none)) rfl rfl hu rfl (by kernel_rfl) rfl (by omega) (by omega) ?_
          intro g115 hg115
          try simp only [Int.toNat_natCast]
          refine oS (I := []) (by kernel_rfl : opAt F4.o28 4 = some (some 116, .load 3 (.tmp 115), none)) rfl rfl hu hg115 (fun w' hS => hu.stay hg115 hS (by first | decide | (simp <;> omega))) (by omega) (by kernel_rfl) rfl rfl ?_
          intro v116 g116
          try simp only [Int.toNat_natCast] at g116
          first | (obtain rfl := rv_nat.1 g116) | (obtain rfl := rv_int.1 g116)
          rw [← hga]
          refine yS (by kernel_rfl : opAt F4.o28 5 = some (some 117, .move (.tmp 11), none)) rfl rfl (fun w' hS => val_move rfl) ?_
          refine yS (by kernel_rfl : opAt F4.o28 6 = some (some 118, .fieldAddr 46 (.tmp 19) 1, none)) rfl rfl (fun w' hS => val_fieldAddr (off := 1) (by kernel_rfl) rfl) ?_
          refine yS (by kernel_rfl : opAt F4.o28 7 = some (some 119, .load 3 (.tmp 118), none)) rfl rfl (fun w' hS => val_loadOwn (hx.stay hS (by decide)) (by kernel_rfl) rfl rfl) ?_
          refine iS (e := 3) (by kernel_rfl : opAt F4.o28 8 = some (some 120, .indexAddr 22 (.tmp 117) (.tmp 119), none)) rfl rfl hv rfl (by kernel_rfl) rfl (by omega) (by omega) ?_
          intro b120 o120 h120
          try simp only [Int.toNat_natCast] at h120
          refine lS (by kernel_rfl : opAt F4.o28 9 = some (some 121, .load 3 (.tmp 120), none)) rfl rfl (fun w' hS => h120.stay hS (by first | decide | (simp <;> omega))) h120 (by kernel_rfl) rfl rfl ?_
          intro v121 g121
          first | (obtain rfl := rv_nat.1 g121) | (obtain rfl := rv_int.1 g121)
          rw [← hgb]
          refine yS (by kernel_rfl : opAt F4.o28 10 = some (some 122, .binOp .add 3 (.tmp 116) (.tmp 121) 3, none)) rfl rfl (fun w' hS => val_addi rfl rfl (by omega) (by omega)) ?_
          refine yS (by kernel_rfl : opAt F4.o28 11 = some (some 123, .fieldAddr 46 (.tmp 19) 2, none)) rfl rfl (fun w' hS => val_fieldAddr (off := 2) (by kernel_rfl) rfl) ?_
          refine yS (by kernel_rfl : opAt F4.o28 12 = some (some 124, .load 3 (.tmp 123), none)) rfl rfl (fun w' hS => val_loadOwn (hx.stay hS (by decide)) (by kernel_rfl) rfl rfl) ?_
          refine yS (by kernel_rfl : opAt F4.o28 13 = some (some 125, .binOp .lss 3 (.tmp 122) (.tmp 124) 3, none)) rfl rfl (fun w' hS => val_lss rfl rfl) ?_
          refine Sch.nil ?_
          refine run_if (x := F4.c98) (y := F4.c101) (o := .tmp 125) (by kernel_rfl) rfl (fun h125 => ?_) (fun h125 => ?_)
          · skip
            exact absurd h125 (by omega)
          · skip
            refine run_skip (by kernel_rfl) ?_
            refine run_inBlock ?_
            refine run_plain (id := 30) (ops := F4.o30) [(0, true), (1, true)] (by kernel_rfl) (by kernel_rfl) ?_
            refine yS (by kernel_rfl : opAt F4.o30 0 = some (some 126, .binOp .add 3 (.tmp 108) (.const (.int .i64 1)) 3, none)) rfl rfl (fun w' hS => val_addi rfl rfl (by omega) (by omega)) ?_
            refine yS (by kernel_rfl : opAt F4.o30 1 = some (some 108, .move (.tmp 126), none)) rfl rfl (fun w' hS => val_move rfl) ?_
            refine Sch.nil ?_
            refine kp (sub_cons 3 rfl rfl (sub_cons 4 rfl rfl (sub_cons 5 rfl rfl (sub_cons 6 rfl rfl (sub_cons 7 rfl rfl (sub_cons 8 rfl rfl (sub_cons 10 rfl rfl (sub_cons 11 rfl rfl (sub_cons 13 rfl rfl (sub_cons 106 rfl rfl (sub_cons 107 rfl rfl (sub_cons 108 rfl (eq_int (by simp)) (sub_nil _))))))))))))) (next3 (k + 1, Cw14) _ ⟨(by first | omega | (simp only; omega)), hF, hT, hd, he, hc1, hu, hv⟩ (by first | omega | (simp only; omega)))
        · skip
          have hkl : k = el.length := by omega
          refine run_exit (id := 4) (by kernel_rfl) rfl ?_
          refine run_seq (x := F4.c104) (y := F4.c117) (by kernel_rfl) ?_
          refine run_seq (x := F4.c105) (y := F4.c106) (by kernel_rfl) ?_
          refine run_plain (id := 31) (ops := F4.o31) [(0, true), (1, true)] (by kernel_rfl) (by kernel_rfl) ?_
          refine yS (by kernel_rfl : opAt F4.o31 0 = some (some 127, .move (.tmp 4), none)) rfl rfl (fun w' hS => val_move rfl) ?_
          refine yS (by kernel_rfl : opAt F4.o31 1 = some (some 128, .binOp .gtr 3 (.tmp 127) (.const (.int .i64 0)) 3, none)) rfl rfl (fun w' hS => val_gtr rfl rfl) ?_
          refine Sch.nil ?_
          refine run_if (x := F4.c107) (y := F4.c116) (o := .tmp 128) (by kernel_rfl) rfl (fun h128 => ?_) (fun h128 => ?_)
          · skip
            have hn0 : 0 < n := by omega
            refine run_seq (x := F4.c108) (y := F4.c109) (by kernel_rfl) ?_
            refine run_plain (id := 32) (ops := F4.o32) [(0, true), (1, true), (2, true), (3, false), (4, true), (5, false), (6, true), (7, true), (8, false)] (by kernel_rfl) (by kernel_rfl) ?_
            refine yS (by kernel_rfl : opAt F4.o32 0 = some (some 129, .move (.tmp 10), none)) rfl rfl (fun w' hS => val_move rfl) ?_
            refine yS (by kernel_rfl : opAt F4.o32 1 = some (some 130, .move (.tmp 3), none)) rfl rfl (fun w' hS => val_move rfl) ?_
            refine yS (by kernel_rfl : opAt F4.o32 2 = some (some 131, .move (.tmp 4), none)) rfl rfl (fun w' hS => val_move rfl) ?_
            refine cS (by kernel_rfl : opAt F4.o32 3 = some (some 132, .call { callee := .value (.func 13), args := #[(.tmp 130), (.tmp 131)], argTypes := #[27, 3] }, none)) rfl rfl (ent Try.call13 rfl) (next_any (n := (n : Int)) hF (by decide) hd (by omega) (by omega)) ?_
            rintro vw17 w17 ⟨q, rfl, hq, hs, hd⟩
            refine ⟨trivial, ?_⟩
            replace hF := hF.st hs
            replace hT := hT.trans hs (by simp)
            replace he := he.st hs (by first | decide | (simp <;> omega))
            replace hc1 := hc1.st hs (by first | decide | (simp <;> omega))
            replace hu := hu.st hs (by first | decide | (simp <;> omega)) (by first | decide | (simp <;> omega))
            replace hv := hv.st hs (by first | decide | (simp <;> omega))
            have hqn : q < Ul.length := by omega
            have hgq : gI Ul q = Ul[q] := getD_in hqn
            have hbq := hub q hqn
            refine oI (e' := 3) (by kernel_rfl : opAt F4.o32 4 = some (some 133, .indexAddr 22 (.tmp 129) (.tmp 132), none)) rfl rfl hu rfl (by kernel_rfl) rfl (by omega) (by omega) ?_
            intro g133 hg133
            try simp only [Int.toNat_natCast]
            refine oN (by kernel_rfl : opAt F4.o32 5 = some (some 134, .load 3 (.tmp 133), none)) rfl rfl trivial hu hg133 (by omega) (by kernel_rfl) rfl rfl ?_
            intro v134 g134
            try simp only [Int.toNat_natCast] at g134
            first | (obtain rfl := rv_nat.1 g134) | (obtain rfl := rv_int.1 g134)
            refine yS (by kernel_rfl : opAt F4.o32 6 = some (some 135, .binOp .add 3 (.tmp 134) (.const (.int .i64 1)) 3, none)) rfl rfl (fun w' hS => val_addi rfl rfl (by omega) (by omega)) ?_
            refine oI (e' := 3) (by kernel_rfl : opAt F4.o32 7 = some (some 136, .indexAddr 22 (.tmp 129) (.tmp 132), none)) rfl rfl hu rfl (by kernel_rfl) rfl (by omega) (by omega) ?_
            intro g136 hg136
            try simp only [Int.toNat_natCast]
            refine aN (by kernel_rfl : opAt F4.o32 8 = some (none, .store 3 (.tmp 136) (.tmp 135), none)) rfl (a_storeO hu hg136 (by omega) rfl rfl (by kernel_rfl) (rv_int.2 rfl)) ?_
            rintro _ w18 ⟨rfl, hs, hu⟩
            refine ⟨trivial, ?_⟩
            replace hF := hF.st hs
            replace hT := hT.trans hs (by simp)
            replace hd := hd.st hs (by first | decide | (simp <;> omega)) (by first | decide | (simp <;> omega))
            replace he := he.st hs (by first | decide | (simp <;> omega))
            replace hc1 := hc1.st hs (by first | decide | (simp <;> omega))
            replace hv := hv.st hs (by first | decide | (simp <;> omega))
            refine Sch.nil ?_
            have hset : (Ul.set q (Ul[q] + 1)).length = Ul.length := List.length_set
            refine run_seq (x := F4.c110) (y := F4.c111) (by kernel_rfl) ?_
            refine run_plain (id := 33) (ops := F4.o33) [(0, true), (1, true), (2, true), (3, true), (4, true), (5, true), (6, false)] (by kernel_rfl) (by kernel_rfl) ?_
            refine yS (by kernel_rfl : opAt F4.o33 0 = some (some 137, .move (.tmp 4), none)) rfl rfl (fun w' hS => val_move rfl) ?_
            refine yS (by kernel_rfl : opAt F4.o33 1 = some (some 138, .move (.tmp 5), none)) rfl rfl (fun w' hS => val_move rfl) ?_
            refine yS (by kernel_rfl : opAt F4.o33 2 = some (some 139, .move (.tmp 6), none)) rfl rfl (fun w' hS => val_move rfl) ?_
            refine yS (by kernel_rfl : opAt F4.o33 3 = some (some 140, .move (.tmp 7), none)) rfl rfl (fun w' hS => val_move rfl) ?_
            refine yS (by kernel_rfl : opAt F4.o33 4 = some (some 141, .move (.tmp 10), none)) rfl rfl (fun w' hS => val_move rfl) ?_
            refine yS (by kernel_rfl : opAt F4.o33 5 = some (some 142, .move (.tmp 11), none)) rfl rfl (fun w' hS => val_move rfl) ?_
            refine cS (by kernel_rfl : opAt F4.o33 6 = some (some 143, .call { callee := .value (.func 22), args := #[(.tmp 137), (.tmp 138), (.tmp 139), (.tmp 140), (.tmp 141), (.tmp 142)], argTypes := #[3, 3, 23, 24, 22, 22] }, none)) rfl rfl (ent Try.call22 rfl) (proves_ok (n := n) (m := m) (hF.frz 4) (he.frz 4) (hc1.frz 4) (hu.frz (n := 4) (by decide) (by rw [hset]; omega)) (hv.frz 4) (by omega)) ?_
            rintro vw19 w19 ⟨rfl, hs0⟩
            have hs := hs0.unfrz (C1)
            rw [pv_bump hpv0 hqn]
            refine ⟨trivial, ?_⟩
            replace hF := hF.st hs
            replace hT := hT.trans hs (by simp)
            replace hd := hd.st hs (by first | decide | (simp <;> omega)) (by first | decide | (simp <;> omega))
            replace he := he.st hs (by first | decide | (simp <;> omega))
            replace hc1 := hc1.st hs (by first | decide | (simp <;> omega))
            replace hu := hu.st hs (by first | decide | (simp <;> omega)) (by first | decide | (simp <;> omega))
            replace hv := hv.st hs (by first | decide | (simp <;> omega))
            refine Sch.nil ?_
            refine run_cond (x := F4.c112) (y := F4.c115) (o := .tmp 143) (b := false) (by kernel_rfl) rfl (fun h => by cases h) (fun _ => ?_)
            refine run_skip (by kernel_rfl) ?_
            refine run_seq (x := F4.c118) (y := F4.c119) (by kernel_rfl) ?_
            refine run_plain (id := 35) (ops := F4.o35) [(0, true), (1, true), (2, true), (3, true)] (by kernel_rfl) (by kernel_rfl) ?_
            refine yS (by kernel_rfl : opAt F4.o35 0 = some (some 144, .move (.tmp 13), none)) rfl rfl (fun w' hS => val_move rfl) ?_
            refine yS (by kernel_rfl : opAt F4.o35 1 = some (some 145, .move (.tmp 8), none)) rfl rfl (fun w' hS => val_move rfl) ?_
            refine yS (by kernel_rfl : opAt F4.o35 2 = some (some 146, .binOp .eql 3 (.tmp 144) (.tmp 145) 3, none)) rfl rfl (fun w' hS => val_is (val_eql rfl rfl) (show _ = Value.bool true from congrArg Value.bool (decide_eq_true (rfl)))) ?_
            refine yS (by kernel_rfl : opAt F4.o35 3 = some (some 2, .assign (.tmp 146), none)) rfl rfl (fun w' hS => val_assign rfl) ?_
            refine Sch.nil ?_
            refine run_ret1 (by kernel_rfl) Try.func4 Try.results4 rfl ?_
            exact ⟨rfl, hT.out1 (by decide)⟩
          · skip
            refine run_skip (by kernel_rfl) ?_
            refine run_seq (x := F4.c118) (y := F4.c119) (by kernel_rfl) ?_
            refine run_plain (id := 35) (ops := F4.o35) [(0, true), (1, true), (2, true), (3, true)] (by kernel_rfl) (by kernel_rfl) ?_
            refine yS (by kernel_rfl : opAt F4.o35 0 = some (some 144, .move (.tmp 13), none)) rfl rfl (fun w' hS => val_move rfl) ?_
            refine yS (by kernel_rfl : opAt F4.o35 1 = some (some 145, .move (.tmp 8), none)) rfl rfl (fun w' hS => val_move rfl) ?_
            refine yS (by kernel_rfl : opAt F4.o35 2 = some (some 146, .binOp .eql 3 (.tmp 144) (.tmp 145) 3, none)) rfl rfl (fun w' hS => val_is (val_eql rfl rfl) (show _ = Value.bool true from congrArg Value.bool (decide_eq_true (rfl)))) ?_
            refine yS (by kernel_rfl : opAt F4.o35 3 = some (some 2, .assign (.tmp 146), none)) rfl rfl (fun w' hS => val_assign rfl) ?_
            refine Sch.nil ?_
            refine run_ret1 (by kernel_rfl) Try.func4 Try.results4 rfl ?_
            exact ⟨rfl, hT.out1 (by decide)⟩
namespace F4B
noncomputable def c0 : Code := bodyOf Try.f4
noncomputable def c1 : Code := cl c0
noncomputable def o0 : Array Oper := rops c1
noncomputable def c2 : Code := cr c0
noncomputable def c3 : Code := cl c2
noncomputable def c4 : Code := cl c3
noncomputable def o1 : Array Oper := rops c4
noncomputable def c5 : Code := cr c3
noncomputable def c6 : Code := cl c5
noncomputable def c7 : Code := cl c6
noncomputable def o2 : Array Oper := rops c7
noncomputable def c8 : Code := cr c6
noncomputable def c9 : Code := cr c5
noncomputable def c10 : Code := cr c2
noncomputable def c11 : Code := cl c10
noncomputable def o3 : Array Oper := rops c11
noncomputable def c12 : Code := cr c10
noncomputable def c13 : Code := cl c12
noncomputable def o4 : Array Oper := rops c13
noncomputable def c14 : Code := cr c12
noncomputable def c15 : Code := cl c14
noncomputable def o5 : Array Oper := rops c15
noncomputable def c16 : Code := cr c14
noncomputable def c17 : Code := cl c16
noncomputable def o6 : Array Oper := rops c17
noncomputable def c18 : Code := cr c16
noncomputable def c19 : Code := cl c18
noncomputable def o7 : Array Oper := rops c19
noncomputable def c20 : Code := cr c18
noncomputable def c21 : Code := cl c20
noncomputable def c22 : Code := cl c21
noncomputable def o8 : Array Oper := rops c22
noncomputable def c23 : Code := cr c21
noncomputable def c24 : Code := cl c23
noncomputable def c25 : Code := cl c24
noncomputable def o9 : Array Oper := rops c25
noncomputable def c26 : Code := cr c24
noncomputable def c27 : Code := cr c23
noncomputable def c28 : Code := cr c20
noncomputable def c29 : Code := cl c28
noncomputable def o10 : Array Oper := rops c29
noncomputable def c30 : Code := cr c28
noncomputable def c31 : Code := cl c30
noncomputable def c32 : Code := cl c31
noncomputable def o11 : Array Oper := rops c32
noncomputable def c33 : Code := cr c31
noncomputable def c34 : Code := cl c33
noncomputable def c35 : Code := cl c34
noncomputable def c36 : Code := cl c35
noncomputable def o12 : Array Oper := rops c36
noncomputable def c37 : Code := cr c35
noncomputable def c38 : Code := cl c37
noncomputable def c39 : Code := cl c38
noncomputable def c40 : Code := cr c38
noncomputable def c41 : Code := cr c37
noncomputable def c42 : Code := cl c41
noncomputable def c43 : Code := cl c42
noncomputable def c44 : Code := cl c43
noncomputable def o13 : Array Oper := rops c44
noncomputable def c45 : Code := cr c43
noncomputable def c46 : Code := cl c45
noncomputable def c47 : Code := cl c46
noncomputable def o14 : Array Oper := rops c47
noncomputable def c48 : Code := cr c46
noncomputable def c49 : Code := cl c48
noncomputable def c50 : Code := cl c49
noncomputable def o15 : Array Oper := rops c50
noncomputable def c51 : Code := cr c49
noncomputable def c52 : Code := cr c48
noncomputable def c53 : Code := cr c45
noncomputable def o16 : Array Oper := rops c53
noncomputable def c54 : Code := cr c41
noncomputable def o17 : Array Oper := rops c54
noncomputable def c55 : Code := cr c30
noncomputable def c56 : Code := cl c55
noncomputable def c57 : Code := cl c56
noncomputable def o18 : Array Oper := rops c57
noncomputable def c58 : Code := cr c56
noncomputable def c59 : Code := cl c58
noncomputable def c60 : Code := cl c59
noncomputable def c61 : Code := cl c60
noncomputable def o19 : Array Oper := rops c61
noncomputable def c62 : Code := cr c60
noncomputable def c63 : Code := cl c62
noncomputable def c64 : Code := cl c63
noncomputable def c65 : Code := cr c63
noncomputable def c66 : Code := cr c62
noncomputable def c67 : Code := cl c66
noncomputable def c68 : Code := cl c67
noncomputable def c69 : Code := cl c68
noncomputable def o20 : Array Oper := rops c69
noncomputable def c70 : Code := cr c68
noncomputable def c71 : Code := cl c70
noncomputable def c72 : Code := cl c71
noncomputable def o21 : Array Oper := rops c72
noncomputable def c73 : Code := cr c71
noncomputable def c74 : Code := cl c73
noncomputable def c75 : Code := cl c74
noncomputable def o22 : Array Oper := rops c75
noncomputable def c76 : Code := cr c74
noncomputable def c77 : Code := cr c73
noncomputable def c78 : Code := cr c70
noncomputable def o23 : Array Oper := rops c78
noncomputable def c79 : Code := cr c66
noncomputable def o24 : Array Oper := rops c79
noncomputable def c80 : Code := cr c55
noncomputable def c81 : Code := cl c80
noncomputable def c82 : Code := cl c81
noncomputable def o25 : Array Oper := rops c82
noncomputable def c83 : Code := cr c81
noncomputable def c84 : Code := cl c83
noncomputable def c85 : Code := cl c84
noncomputable def c86 : Code := cl c85
noncomputable def o26 : Array Oper := rops c86
noncomputable def c87 : Code := cr c85
noncomputable def c88 : Code := cl c87
noncomputable def c89 : Code := cl c88
noncomputable def c90 : Code := cr c88
noncomputable def c91 : Code := cr c87
noncomputable def c92 : Code := cl c91
noncomputable def c93 : Code := cl c92
noncomputable def c94 : Code := cl c93
noncomputable def o27 : Array Oper := rops c94
noncomputable def c95 : Code := cr c93
noncomputable def c96 : Code := cl c95
noncomputable def o28 : Array Oper := rops c96
noncomputable def c97 : Code := cr c95
noncomputable def c98 : Code := cl c97
noncomputable def c99 : Code := cl c98
noncomputable def o29 : Array Oper := rops c99
noncomputable def c100 : Code := cr c98
noncomputable def c101 : Code := cr c97
noncomputable def c102 : Code := cr c91
noncomputable def o30 : Array Oper := rops c102
noncomputable def c103 : Code := cr c80
noncomputable def c104 : Code := cl c103
noncomputable def c105 : Code := cl c104
noncomputable def o31 : Array Oper := rops c105
noncomputable def c106 : Code := cr c104
noncomputable def c107 : Code := cl c106
noncomputable def c108 : Code := cl c107
noncomputable def o32 : Array Oper := rops c108
noncomputable def c109 : Code := cr c107
noncomputable def c110 : Code := cl c109
noncomputable def o33 : Array Oper := rops c110
noncomputable def c111 : Code := cr c109
noncomputable def c112 : Code := cl c111
noncomputable def c113 : Code := cl c112
noncomputable def o34 : Array Oper := rops c113
noncomputable def c114 : Code := cr c112
noncomputable def c115 : Code := cr c111
noncomputable def c116 : Code := cr c106
noncomputable def c117 : Code := cr c103
noncomputable def c118 : Code := cl c117
noncomputable def o35 : Array Oper := rops c118
noncomputable def c119 : Code := cr c117
end F4B
/-- .. where more is handed than it looks at. -/
theorem assignmentProves_big {w₀ : World} {C : Nat → Nat} {p : Option Addr} {n c : Nat} (hF : Lim w₀ C) (hn : 400 < n) : Calls Try.prog 4 #[.slice p n c] w₀ (Ret fun v w' => v = .bool true ∧ Stp [] w₀ C w' C) := by
  have hF0 := hF
  have hT := Stp.refl [2, 3, 4, 5, 6, 7, 8, 9] w₀ (col1 C)
  replace hF := hF.col1
  refine calls_start (c := F4B.c0) (N := 147) [.slice p n c] Try.func4 (by kernel_rfl) (by kernel_rfl) (by kernel_rfl) ?_
  show Run _ _ _ _ [(0, .slice p n c)] _ _
  refine run_seq (x := F4B.c1) (y := F4B.c2) (by kernel_rfl) ?_
  refine run_plain (id := 0) (ops := F4B.o0) [(0, true)] (by kernel_rfl) (by kernel_rfl) ?_
  refine yS (by kernel_rfl : opAt F4B.o0 0 = some (some 2, .assign (.const (.bool false)), none)) rfl rfl (fun w' hS => val_assign rfl) ?_
  refine Sch.nil ?_
  refine run_seq (x := F4B.c3) (y := F4B.c10) (by kernel_rfl) ?_
  refine run_seq (x := F4B.c4) (y := F4B.c5) (by kernel_rfl) ?_
  refine run_plain (id := 1) (ops := F4B.o1) [(0, false), (1, true), (2, true), (3, true), (4, false), (5, true), (6, true)] (by kernel_rfl) (by kernel_rfl) ?_
  refine cS (by kernel_rfl : opAt F4B.o1 0 = some (some 20, .call { callee := .value (.func 10), args := #[], argTypes := #[] }, none)) rfl rfl (ent Try.call10 rfl) (awake_ok hF) ?_
  rintro vw1 w1 ⟨rfl, hs⟩
  refine ⟨trivial, ?_⟩
  replace hF := hF.st hs
  replace hT := hT.trans hs (by simp)
  refine yS (by kernel_rfl : opAt F4B.o1 1 = some (some 21, .unOp .not 4 (.tmp 20), none)) rfl rfl (fun w' hS => val_not rfl) ?_
  refine yS (by kernel_rfl : opAt F4B.o1 2 = some (some 22, .move (.tmp 21), none)) rfl rfl (fun w' hS => val_move rfl) ?_
  refine yS (by kernel_rfl : opAt F4B.o1 3 = some (some 23, .move (.tmp 0), (some (2, false)))) rfl rfl (fun w' hS => val_move rfl) ?_
  refine cS (by kernel_rfl : opAt F4B.o1 4 = some (some 24, .call { callee := .value (.func 11), args := #[(.tmp 23)], argTypes := #[22] }, (some (2, false)))) rfl rfl (ent Try.call11 rfl) (few_ok _ _ _ _) ?_
  rintro vw2 w2 ⟨rfl, rfl⟩
  refine ⟨trivial, ?_⟩
  rw [decide_eq_false (show ¬ (n : Int) ≤ 400 by omega)]
  refine yS (by kernel_rfl : opAt F4B.o1 5 = some (some 25, .unOp .not 4 (.tmp 24), (some (2, false)))) rfl rfl (fun w' hS => val_not rfl) ?_
  refine yS (by kernel_rfl : opAt F4B.o1 6 = some (some 26, .pick (.tmp 22) (.const (.bool true)) (.tmp 25), none)) rfl rfl (fun w' hS => val_pick_f rfl rfl) ?_
  refine Sch.nil ?_
  refine run_cond (x := F4B.c6) (y := F4B.c9) (o := .tmp 26) (b := true) (by kernel_rfl) rfl (fun _ => ?_) (fun h => by cases h)
  refine run_seq (x := F4B.c7) (y := F4B.c8) (by kernel_rfl) ?_
  refine run_plain (id := 2) (ops := F4B.o2) [(0, false), (1, true)] (by kernel_rfl) (by kernel_rfl) ?_
  refine cS (by kernel_rfl : opAt F4B.o2 0 = some (some 27, .call { callee := .value (.func 10), args := #[], argTypes := #[] }, none)) rfl rfl (ent Try.call10 rfl) (awake_ok hF) ?_
  rintro vw3 w3 ⟨rfl, hs⟩
  refine ⟨trivial, ?_⟩
  replace hF := hF.st hs
  replace hT := hT.trans hs (by simp)
  refine yS (by kernel_rfl : opAt F4B.o2 1 = some (some 2, .assign (.tmp 27), none)) rfl rfl (fun w' hS => val_assign rfl) ?_
  refine Sch.nil ?_
  refine run_ret1 (by kernel_rfl) Try.func4 Try.results4 rfl ?_
  exact ⟨rfl, hT.out1 (by decide)⟩
end Go.Proofs.Ytgooehopkmbkfaa
