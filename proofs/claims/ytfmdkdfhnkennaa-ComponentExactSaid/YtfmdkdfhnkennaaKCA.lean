/- Steps through functions of the program. -/
import Derived.Test.YtfmdkdfhnkennaaKC9
import Derived.Test.YtfmdkdfhnkennaaKCompV
set_option linter.unusedVariables false
set_option linter.unusedSimpArgs false
set_option maxRecDepth 100000
set_option maxHeartbeats 400000
namespace Go.Proofs.Ytfmdkdfhnkennaa
open Go.K Go.K.Rep

namespace F4
noncomputable def c0 : Code := bodyOf Try.f4
noncomputable def c1 : Code := cl c0
noncomputable def o0 : Array Oper := rops c1
noncomputable def c2 : Code := cr c0
noncomputable def c3 : Code := cl c2
noncomputable def c4 : Code := cl c3
noncomputable def o1 : Array Oper := rops c4
noncomputable def c5 : Code := cr c3
noncomputable def c6 : Code := cl c5
noncomputable def c7 : Code := cl c6
noncomputable def o2 : Array Oper := rops c7
noncomputable def c8 : Code := cr c6
noncomputable def c9 : Code := cr c5
noncomputable def c10 : Code := cr c2
noncomputable def c11 : Code := cl c10
noncomputable def o3 : Array Oper := rops c11
noncomputable def c12 : Code := cr c10
noncomputable def c13 : Code := cl c12
noncomputable def o4 : Array Oper := rops c13
noncomputable def c14 : Code := cr c12
noncomputable def c15 : Code := cl c14
noncomputable def o5 : Array Oper := rops c15
noncomputable def c16 : Code := cr c14
noncomputable def c17 : Code := cl c16
noncomputable def c18 : Code := cl c17
noncomputable def o6 : Array Oper := rops c18
noncomputable def c19 : Code := cr c17
noncomputable def c20 : Code := cl c19
noncomputable def c21 : Code := cl c20
noncomputable def o7 : Array Oper := rops c21
noncomputable def c22 : Code := cr c20
noncomputable def c23 : Code := cr c19
noncomputable def c24 : Code := cr c16
noncomputable def c25 : Code := cl c24
noncomputable def o8 : Array Oper := rops c25
noncomputable def c26 : Code := cr c24
noncomputable def c27 : Code := cl c26
noncomputable def c28 : Code := cl c27
noncomputable def o9 : Array Oper := rops c28
noncomputable def c29 : Code := cr c27
noncomputable def c30 : Code := cl c29
noncomputable def c31 : Code := cl c30
noncomputable def o10 : Array Oper := rops c31
noncomputable def c32 : Code := cr c30
noncomputable def c33 : Code := cr c29
noncomputable def c34 : Code := cr c26
noncomputable def c35 : Code := cl c34
noncomputable def o11 : Array Oper := rops c35
noncomputable def c36 : Code := cr c34
noncomputable def c37 : Code := cl c36
noncomputable def o12 : Array Oper := rops c37
noncomputable def c38 : Code := cr c36
noncomputable def c39 : Code := cl c38
noncomputable def c40 : Code := cl c39
noncomputable def o13 : Array Oper := rops c40
noncomputable def c41 : Code := cr c39
noncomputable def c42 : Code := cl c41
noncomputable def c43 : Code := cl c42
noncomputable def c44 : Code := cl c43
noncomputable def c45 : Code := cl c44
noncomputable def o14 : Array Oper := rops c45
noncomputable def c46 : Code := cr c44
noncomputable def c47 : Code := cl c46
noncomputable def c48 : Code := cr c46
noncomputable def c49 : Code := cr c43
noncomputable def c50 : Code := cl c49
noncomputable def c51 : Code := cl c50
noncomputable def o15 : Array Oper := rops c51
noncomputable def c52 : Code := cr c50
noncomputable def c53 : Code := cl c52
noncomputable def o16 : Array Oper := rops c53
noncomputable def c54 : Code := cr c52
noncomputable def c55 : Code := cl c54
noncomputable def c56 : Code := cl c55
noncomputable def c57 : Code := cl c56
noncomputable def o17 : Array Oper := rops c57
noncomputable def c58 : Code := cr c56
noncomputable def c59 : Code := cl c58
noncomputable def c60 : Code := cl c59
noncomputable def c61 : Code := cr c59
noncomputable def c62 : Code := cr c58
noncomputable def c63 : Code := cl c62
noncomputable def c64 : Code := cl c63
noncomputable def c65 : Code := cl c64
noncomputable def o18 : Array Oper := rops c65
noncomputable def c66 : Code := cr c64
noncomputable def c67 : Code := cl c66
noncomputable def o19 : Array Oper := rops c67
noncomputable def c68 : Code := cr c66
noncomputable def c69 : Code := cl c68
noncomputable def o20 : Array Oper := rops c69
noncomputable def c70 : Code := cr c68
noncomputable def c71 : Code := cr c62
noncomputable def o21 : Array Oper := rops c71
noncomputable def c72 : Code := cr c38
noncomputable def c73 : Code := cl c72
noncomputable def o22 : Array Oper := rops c73
noncomputable def c74 : Code := cr c72
noncomputable def c75 : Code := cl c74
noncomputable def c76 : Code := cl c75
noncomputable def o23 : Array Oper := rops c76
noncomputable def c77 : Code := cr c75
noncomputable def c78 : Code := cl c77
noncomputable def c79 : Code := cl c78
noncomputable def c80 : Code := cl c79
noncomputable def o24 : Array Oper := rops c80
noncomputable def c81 : Code := cr c79
noncomputable def c82 : Code := cl c81
noncomputable def c83 : Code := cl c82
noncomputable def c84 : Code := cr c82
noncomputable def c85 : Code := cr c81
noncomputable def c86 : Code := cl c85
noncomputable def c87 : Code := cl c86
noncomputable def c88 : Code := cl c87
noncomputable def o25 : Array Oper := rops c88
noncomputable def c89 : Code := cr c87
noncomputable def c90 : Code := cl c89
noncomputable def o26 : Array Oper := rops c90
noncomputable def c91 : Code := cr c89
noncomputable def c92 : Code := cl c91
noncomputable def c93 : Code := cl c92
noncomputable def o27 : Array Oper := rops c93
noncomputable def c94 : Code := cr c92
noncomputable def c95 : Code := cr c91
noncomputable def c96 : Code := cr c85
noncomputable def o28 : Array Oper := rops c96
noncomputable def c97 : Code := cr c74
noncomputable def c98 : Code := cl c97
noncomputable def o29 : Array Oper := rops c98
noncomputable def c99 : Code := cr c97
end F4
/-- The statement's function answers true. -/
theorem componentWays_ok {w₀ : World} {C : Nat → Nat} {l : List Int} {vl : Value} (hF : Lim w₀ C) (hl : RV w₀ (Mc C) l vl) : Calls Try.prog 4 #[vl] w₀ (Ret fun v w' => v = .bool true ∧ Stp [] w₀ C w' C) := by
  have hF0 := hF
  have hT := Stp.refl [2, 3, 4, 5, 6, 7, 8, 9] w₀ (col1 C)
  replace hF := hF.col1
  replace hl : RV w₀ (Mc (col1 C)) l vl := by rw [Mc_col1]; exact hl
  refine calls_start (c := F4.c0) (N := 110) [vl] Try.func4 (by kernel_rfl) (by kernel_rfl) (by kernel_rfl) ?_
  show Run _ _ _ _ [(0, vl)] _ _
  refine run_seq (x := F4.c1) (y := F4.c2) (by kernel_rfl) ?_
  refine run_plain (id := 0) (ops := F4.o0) [(0, true)] (by kernel_rfl) (by kernel_rfl) ?_
  refine yS (by kernel_rfl : opAt F4.o0 0 = some (some 2, .assign (.const (.bool false)), none)) rfl rfl (fun w' hS => val_assign rfl) ?_
  refine Sch.nil ?_
  refine run_seq (x := F4.c3) (y := F4.c10) (by kernel_rfl) ?_
  refine run_seq (x := F4.c4) (y := F4.c5) (by kernel_rfl) ?_
  refine run_plain (id := 1) (ops := F4.o1) [(0, false), (1, true), (2, true), (3, true), (4, false), (5, true), (6, true)] (by kernel_rfl) (by kernel_rfl) ?_
  refine cS (by kernel_rfl : opAt F4.o1 0 = some (some 16, .call { callee := .value (.func 8), args := #[], argTypes := #[] }, none)) rfl rfl (ent Try.call8 rfl) (awake_ok hF) ?_
  rintro vw1 w1 ⟨rfl, hs⟩
  refine ⟨trivial, ?_⟩
  replace hF := hF.st hs
  replace hT := hT.trans hs (by simp)
  replace hl := hl.st hs (by first | decide | (simp <;> omega))
  refine yS (by kernel_rfl : opAt F4.o1 1 = some (some 17, .unOp .not 4 (.tmp 16), none)) rfl rfl (fun w' hS => val_not rfl) ?_
  refine yS (by kernel_rfl : opAt F4.o1 2 = some (some 18, .move (.tmp 17), none)) rfl rfl (fun w' hS => val_move rfl) ?_
  refine yS (by kernel_rfl : opAt F4.o1 3 = some (some 19, .move (.tmp 0), (some (2, false)))) rfl rfl (fun w' hS => val_move rfl) ?_
  refine cS (by kernel_rfl : opAt F4.o1 4 = some (some 20, .call { callee := .value (.func 9), args := #[(.tmp 19)], argTypes := #[22] }, (some (2, false)))) rfl rfl (ent Try.call9 rfl) (few_any hl) ?_
  rintro vw2 w2 ⟨rfl, rfl⟩
  refine ⟨trivial, ?_⟩
  refine yS (by kernel_rfl : opAt F4.o1 5 = some (some 21, .unOp .not 4 (.tmp 20), (some (2, false)))) rfl rfl (fun w' hS => val_notd rfl) ?_
  refine yS (by kernel_rfl : opAt F4.o1 6 = some (some 22, .pick (.tmp 18) (.const (.bool true)) (.tmp 21), none)) rfl rfl (fun w' hS => val_pick_f rfl rfl) ?_
  refine Sch.nil ?_
  refine run_if (x := F4.c6) (y := F4.c9) (o := .tmp 22) (by kernel_rfl) rfl (fun h22 => ?_) (fun h22 => ?_)
  · skip
    refine run_seq (x := F4.c7) (y := F4.c8) (by kernel_rfl) ?_
    refine run_plain (id := 2) (ops := F4.o2) [(0, false), (1, true)] (by kernel_rfl) (by kernel_rfl) ?_
    refine cS (by kernel_rfl : opAt F4.o2 0 = some (some 23, .call { callee := .value (.func 8), args := #[], argTypes := #[] }, none)) rfl rfl (ent Try.call8 rfl) (awake_ok hF) ?_
    rintro vw3 w3 ⟨rfl, hs⟩
    refine ⟨trivial, ?_⟩
    replace hF := hF.st hs
    replace hT := hT.trans hs (by simp)
    replace hl := hl.st hs (by first | decide | (simp <;> omega))
    refine yS (by kernel_rfl : opAt F4.o2 1 = some (some 2, .assign (.tmp 23), none)) rfl rfl (fun w' hS => val_assign rfl) ?_
    refine Sch.nil ?_
    refine run_ret1 (by kernel_rfl) Try.func4 Try.results4 rfl ?_
    exact ⟨rfl, hT.out1 (by decide)⟩
  · skip
    refine run_skip (by kernel_rfl) ?_
    refine run_seq (x := F4.c11) (y := F4.c12) (by kernel_rfl) ?_
    refine run_plain (id := 3) (ops := F4.o3) [(0, true), (1, false), (2, true)] (by kernel_rfl) (by kernel_rfl) ?_
    refine yS (by kernel_rfl : opAt F4.o3 0 = some (some 24, .move (.tmp 0), none)) rfl rfl (fun w' hS => val_move rfl) ?_
    refine cS (by kernel_rfl : opAt F4.o3 1 = some (some 25, .call { callee := .value (.func 10), args := #[(.tmp 24)], argTypes := #[22] }, none)) rfl rfl (ent Try.call10 rfl) (new_any hF hl) ?_
    rintro vw4 w4 ⟨Cd, bd, rfl, hs, hF, hd⟩
    refine ⟨trivial, ?_⟩
    replace hT := hT.trans hs (by simp)
    replace hl := hl.st hs (by first | decide | (simp <;> omega))
    refine yS (by kernel_rfl : opAt F4.o3 2 = some (some 3, .assign (.tmp 25), none)) rfl rfl (fun w' hS => val_assign rfl) ?_
    refine Sch.nil ?_
    refine run_seq (x := F4.c13) (y := F4.c14) (by kernel_rfl) ?_
    refine run_plain (id := 4) (ops := F4.o4) [(0, true), (1, true), (2, false), (3, true), (4, false), (5, true)] (by kernel_rfl) (by kernel_rfl) ?_
    refine yS (by kernel_rfl : opAt F4.o4 0 = some (some 26, .move (.tmp 3), none)) rfl rfl (fun w' hS => val_move rfl) ?_
    refine yS (by kernel_rfl : opAt F4.o4 1 = some (some 27, .move (.tmp 3), none)) rfl rfl (fun w' hS => val_move rfl) ?_
    refine cS (by kernel_rfl : opAt F4.o4 2 = some (some 28, .call { callee := .value (.func 12), args := #[(.tmp 27), (.const (.int .i64 12))], argTypes := #[29, 3] }, none)) rfl rfl (ent Try.call12 rfl) (next_any (n := 12) hF (by decide) hd (by omega) (by omega)) ?_
    rintro vw5 w5 ⟨q, rfl, hq, hs, hd⟩
    refine ⟨trivial, ?_⟩
    replace hF := hF.st hs
    replace hT := hT.trans hs (by simp)
    replace hl := hl.st hs (by first | decide | (simp <;> omega))
    refine yS (by kernel_rfl : opAt F4.o4 3 = some (some 29, .binOp .add 3 (.const (.int .i64 3)) (.tmp 28) 3, none)) rfl rfl (fun w' hS => val_addi rfl rfl (by omega) (by omega)) ?_
    refine cS (by kernel_rfl : opAt F4.o4 4 = some (some 30, .call { callee := .value (.func 11), args := #[(.tmp 26), (.const (.int .i64 3)), (.const (.int .i64 4)), (.tmp 29)], argTypes := #[29, 3, 3, 3] }, none)) rfl rfl (ent Try.call11 rfl) (bonds_any (R := 3) (I := 4) (one := 3 + (q : Int)) hF (by decide) hd (by decide) (by decide) (by omega) (by omega)) ?_
    rintro vb w6 ⟨bl, hbl, ⟨hs, hb, hd⟩, _⟩
    refine ⟨trivial, ?_⟩
    replace hF := hF.st hs
    replace hT := hT.trans hs (by simp)
    replace hl := hl.st hs (by first | decide | (simp <;> omega))
    have hbv := hbl.vld (by decide) (by decide)
    have hck := hbv.check
    have hbL := hbl.2.2
    have hprl := parts_le bl
    have hrl2 := refsS_len bl
    refine yS (by kernel_rfl : opAt F4.o4 5 = some (some 4, .assign (.tmp 30), none)) rfl rfl (fun w' hS => val_assign rfl) ?_
    refine Sch.nil ?_
    refine run_seq (x := F4.c15) (y := F4.c16) (by kernel_rfl) ?_
    refine run_plain (id := 5) (ops := F4.o5) [(0, true), (1, false), (2, true), (3, true), (4, true), (5, true), (6, true)] (by kernel_rfl) (by kernel_rfl) ?_
    refine yS (by kernel_rfl : opAt F4.o5 0 = some (some 32, .move (.tmp 4), none)) rfl rfl (fun w' hS => val_move rfl) ?_
    refine cS (by kernel_rfl : opAt F4.o5 1 = some (some 33, .call { callee := .value (.func 19), args := #[(.tmp 32)], argTypes := #[23] }, none)) rfl rfl (ent Try.call19 rfl) (of_ok hF hb (by omega)) ?_
    rintro vw7 w7 ⟨u, rfl, hs, _, hp⟩
    refine ⟨trivial, ?_⟩
    replace hF := hF.st hs
    replace hT := hT.trans hs (by simp)
    replace hl := hl.st hs (by first | decide | (simp <;> omega))
    replace hd := hd.st hs (by first | decide | (simp <;> omega)) (by first | decide | (simp <;> omega))
    replace hb := hb.st hs (by first | decide | (simp <;> omega))
    rw [if_pos hck] at hp
    rw [hck]
    refine yS (by kernel_rfl : opAt F4.o5 2 = some (some 31, .move (.tmp 33), none)) rfl rfl (fun w' hS => val_move rfl) ?_
    refine yS (by kernel_rfl : opAt F4.o5 3 = some (some 34, .extract (.tmp 31) 0, none)) rfl rfl (fun w' hS => val_extract rfl rfl) ?_
    refine yS (by kernel_rfl : opAt F4.o5 4 = some (some 35, .extract (.tmp 31) 1, none)) rfl rfl (fun w' hS => val_extract rfl rfl) ?_
    refine yS (by kernel_rfl : opAt F4.o5 5 = some (some 5, .assign (.tmp 34), none)) rfl rfl (fun w' hS => val_assign rfl) ?_
    refine yS (by kernel_rfl : opAt F4.o5 6 = some (some 6, .assign (.tmp 35), none)) rfl rfl (fun w' hS => val_assign rfl) ?_
    refine Sch.nil ?_
    refine run_seq (x := F4.c17) (y := F4.c24) (by kernel_rfl) ?_
    refine run_seq (x := F4.c18) (y := F4.c19) (by kernel_rfl) ?_
    refine run_plain (id := 6) (ops := F4.o6) [(0, true), (1, true)] (by kernel_rfl) (by kernel_rfl) ?_
    refine yS (by kernel_rfl : opAt F4.o6 0 = some (some 36, .move (.tmp 6), none)) rfl rfl (fun w' hS => val_move rfl) ?_
    refine yS (by kernel_rfl : opAt F4.o6 1 = some (some 37, .binOp .neq 35 (.tmp 36) (.const (.int .i64 0)) 35, none)) rfl rfl (fun w' hS => val_F (val_neq rfl rfl) (fun e => e rfl)) ?_
    refine Sch.nil ?_
    refine run_cond (x := F4.c20) (y := F4.c23) (o := .tmp 37) (b := false) (by kernel_rfl) rfl (fun h => by cases h) (fun _ => ?_)
    refine run_skip (by kernel_rfl) ?_
    refine run_seq (x := F4.c25) (y := F4.c26) (by kernel_rfl) ?_
    refine run_plain (id := 8) (ops := F4.o8) [(0, true), (1, false), (2, true)] (by kernel_rfl) (by kernel_rfl) ?_
    refine yS (by kernel_rfl : opAt F4.o8 0 = some (some 38, .move (.tmp 4), none)) rfl rfl (fun w' hS => val_move rfl) ?_
    refine cS (by kernel_rfl : opAt F4.o8 1 = some (some 39, .call { callee := .value (.func 17), args := #[(.tmp 38)], argTypes := #[23] }, none)) rfl rfl (ent Try.call17 rfl) (refs_ok hF hb (by omega)) ?_
    rintro vR w8 ⟨hs, hrf⟩
    refine ⟨trivial, ?_⟩
    replace hF := hF.st hs
    replace hT := hT.trans hs (by simp)
    replace hl := hl.st hs (by first | decide | (simp <;> omega))
    replace hd := hd.st hs (by first | decide | (simp <;> omega)) (by first | decide | (simp <;> omega))
    replace hb := hb.st hs (by first | decide | (simp <;> omega))
    replace hp := hp.st hs (by first | decide | (simp <;> omega))
    refine yS (by kernel_rfl : opAt F4.o8 2 = some (some 7, .assign (.tmp 39), none)) rfl rfl (fun w' hS => val_assign rfl) ?_
    refine Sch.nil ?_
    refine run_seq (x := F4.c27) (y := F4.c34) (by kernel_rfl) ?_
    refine run_seq (x := F4.c28) (y := F4.c29) (by kernel_rfl) ?_
    refine run_plain (id := 9) (ops := F4.o9) [(0, true), (1, true), (2, true)] (by kernel_rfl) (by kernel_rfl) ?_
    refine yS (by kernel_rfl : opAt F4.o9 0 = some (some 40, .move (.tmp 7), none)) rfl rfl (fun w' hS => val_move rfl) ?_
    refine yS (by kernel_rfl : opAt F4.o9 1 = some (some 41, .call { callee := .builtin .len, args := #[(.tmp 40)], argTypes := #[38] }, none)) rfl rfl (fun w' hS => hrf.lenV rfl Try.underlying38 w' ) ?_
    refine yS (by kernel_rfl : opAt F4.o9 2 = some (some 42, .binOp .eql 3 (.tmp 41) (.const (.int .i64 0)) 3, none)) rfl rfl (fun w' hS => val_eql rfl rfl) ?_
    refine Sch.nil ?_
    refine run_if (x := F4.c30) (y := F4.c33) (o := .tmp 42) (by kernel_rfl) rfl (fun h42 => ?_) (fun h42 => ?_)
    · skip
      refine run_seq (x := F4.c31) (y := F4.c32) (by kernel_rfl) ?_
      refine run_plain (id := 10) (ops := F4.o10) [(0, true), (1, true), (2, true), (3, true)] (by kernel_rfl) (by kernel_rfl) ?_
      refine yS (by kernel_rfl : opAt F4.o10 0 = some (some 43, .move (.tmp 5), none)) rfl rfl (fun w' hS => val_move rfl) ?_
      refine yS (by kernel_rfl : opAt F4.o10 1 = some (some 44, .call { callee := .builtin .len, args := #[(.tmp 43)], argTypes := #[26] }, none)) rfl rfl (fun w' hS => hp.lenV rfl Try.underlying26 w' ) ?_
      refine yS (by kernel_rfl : opAt F4.o10 2 = some (some 45, .binOp .eql 3 (.tmp 44) (.const (.int .i64 0)) 3, none)) rfl rfl (fun w' hS => val_T (val_eql rfl rfl) (by omega)) ?_
      refine yS (by kernel_rfl : opAt F4.o10 3 = some (some 2, .assign (.tmp 45), none)) rfl rfl (fun w' hS => val_assign rfl) ?_
      refine Sch.nil ?_
      refine run_ret1 (by kernel_rfl) Try.func4 Try.results4 rfl ?_
      exact ⟨rfl, hT.out1 (by decide)⟩
    · skip
      have hrp : 0 < (refsS bl).length := by omega
      refine run_skip (by kernel_rfl) ?_
      refine run_seq (x := F4.c35) (y := F4.c36) (by kernel_rfl) ?_
      refine run_plain (id := 11) (ops := F4.o11) [(0, true), (1, true), (2, true), (3, true), (4, false), (5, true), (6, false), (7, false), (8, false)] (by kernel_rfl) (by kernel_rfl) ?_
      refine yS (by kernel_rfl : opAt F4.o11 0 = some (some 46, .move (.tmp 7), none)) rfl rfl (fun w' hS => val_move rfl) ?_
      refine yS (by kernel_rfl : opAt F4.o11 1 = some (some 47, .move (.tmp 3), none)) rfl rfl (fun w' hS => val_move rfl) ?_
      refine yS (by kernel_rfl : opAt F4.o11 2 = some (some 48, .move (.tmp 7), none)) rfl rfl (fun w' hS => val_move rfl) ?_
      refine yS (by kernel_rfl : opAt F4.o11 3 = some (some 49, .call { callee := .builtin .len, args := #[(.tmp 48)], argTypes := #[38] }, none)) rfl rfl (fun w' hS => hrf.lenV rfl Try.underlying38 w' ) ?_
      refine cS (by kernel_rfl : opAt F4.o11 4 = some (some 50, .call { callee := .value (.func 12), args := #[(.tmp 47), (.tmp 49)], argTypes := #[29, 3] }, none)) rfl rfl (ent Try.call12 rfl) (next_any (n := ((refsS bl).length : Int)) hF (by decide) hd (by omega) (by omega)) ?_
      rintro vw9 w9 ⟨z, rfl, hz, hs, hd⟩
      refine ⟨trivial, ?_⟩
      replace hF := hF.st hs
      replace hT := hT.trans hs (by simp)
      replace hl := hl.st hs (by first | decide | (simp <;> omega))
      replace hb := hb.st hs (by first | decide | (simp <;> omega))
      replace hp := hp.st hs (by first | decide | (simp <;> omega))
      replace hrf := hrf.st hs (by first | decide | (simp <;> omega))
      refine iS (e := 25) (by kernel_rfl : opAt F4.o11 5 = some (some 51, .indexAddr 38 (.tmp 46) (.tmp 50), none)) rfl rfl hrf rfl (by kernel_rfl) rfl (by omega) (by omega) ?_
      intro b51 o51 h51
      try simp only [Int.toNat_natCast] at h51
      refine lNA (by kernel_rfl : opAt F4.o11 6 = some (some 52, .load 25 (.tmp 51), none)) rfl rfl trivial h51 (by kernel_rfl) (by kernel_rfl) rfl rfl ?_
      intro v52 g52
      obtain rfl := rv_couple.1 g52
      obtain ⟨fr, hfr⟩ : ∃ fr, fr = (refsS bl)[z]'(by omega) := ⟨_, rfl⟩
      rw [← hfr]
      have hfm : fr ∈ refsS bl := by rw [hfr]; exact List.getElem_mem _
      refine aS (by kernel_rfl : opAt F4.o11 7 = some (some 8, .alloc 25, none)) rfl rfl (a_alloc (cs := [.int .i64 0, .int .i64 0]) hF 4 (by kernel_rfl)) ?_
      rintro _ w10 ⟨Cw10, bw10, rfl, hs, hx, hF⟩
      refine ⟨trivial, ?_⟩
      replace hT := hT.trans hs (by simp)
      replace hl := hl.st hs (by first | decide | (simp <;> omega))
      replace hd := hd.st hs (by first | decide | (simp <;> omega)) (by first | decide | (simp <;> omega))
      replace hb := hb.st hs (by first | decide | (simp <;> omega))
      replace hp := hp.st hs (by first | decide | (simp <;> omega))
      replace hrf := hrf.st hs (by first | decide | (simp <;> omega))
      replace h51 := h51.st hs (by first | decide | (simp <;> omega))
      refine aN (by kernel_rfl : opAt F4.o11 8 = some (none, .store 25 (.tmp 8) (.tmp 52), none)) rfl (a_storeAll (vs := encR (fr)) (n := 2) rfl rfl (by kernel_rfl) rfl rfl (by intro u hu; simp only [encR, List.mem_cons, List.not_mem_nil, or_false] at hu; rcases hu with rfl | rfl <;> rfl) hx rfl) ?_
      rintro _ w11 ⟨rfl, hs, hx⟩
      refine ⟨trivial, ?_⟩
      replace hF := hF.st hs
      replace hT := hT.trans hs (by simp)
      replace hl := hl.st hs (by first | decide | (simp <;> omega))
      replace hd := hd.st hs (by first | decide | (simp <;> omega)) (by first | decide | (simp <;> omega))
      replace hb := hb.st hs (by first | decide | (simp <;> omega))
      replace hp := hp.st hs (by first | decide | (simp <;> omega))
      replace hrf := hrf.st hs (by first | decide | (simp <;> omega))
      replace h51 := h51.st hs (by first | decide | (simp <;> omega))
      refine Sch.nil ?_
      refine run_seq (x := F4.c37) (y := F4.c38) (by kernel_rfl) ?_
      refine run_plain (id := 12) (ops := F4.o12) [(0, false), (1, false), (2, false), (3, true), (4, true)] (by kernel_rfl) (by kernel_rfl) ?_
      refine aS (by kernel_rfl : opAt F4.o12 0 = some (some 53, .makeMap 48 none, none)) rfl rfl (a_makeMap hF 5 kvC vvB) ?_
      rintro _ wm ⟨Cm, bu, rfl, hs, hu, hF⟩
      refine ⟨trivial, ?_⟩
      replace hT := hT.trans hs (by simp)
      replace hl := hl.st hs (by first | decide | (simp <;> omega))
      replace hd := hd.st hs (by first | decide | (simp <;> omega)) (by first | decide | (simp <;> omega))
      replace hb := hb.st hs (by first | decide | (simp <;> omega))
      replace hp := hp.st hs (by first | decide | (simp <;> omega))
      replace hrf := hrf.st hs (by first | decide | (simp <;> omega))
      replace h51 := h51.st hs (by first | decide | (simp <;> omega))
      replace hx := hx.st hs (by first | decide | (simp <;> omega))
      refine nS (by kernel_rfl : opAt F4.o12 1 = some (some 54, .load 25 (.tmp 8), none)) rfl rfl trivial (val_loadOwnAgg (n := 2) (vs := encR fr) hx.at_ (by kernel_rfl) (by kernel_rfl) rfl rfl rfl) ?_
      refine aN (by kernel_rfl : opAt F4.o12 2 = some (none, .insert 48 (.tmp 53) (.tmp 54) (.const (.bool true)), none)) rfl (a_insert (k := fr) (u := true) hu Try.underlying48 (keyOK_couple Try.underlying25 (by decide) (by decide) (by kernel_rfl) Try.underlying3) rfl rfl rfl) ?_
      rintro _ w12 ⟨rfl, hs, hu⟩
      refine ⟨trivial, ?_⟩
      replace hF := hF.st hs
      replace hT := hT.trans hs (by simp)
      replace hl := hl.st hs (by first | decide | (simp <;> omega))
      replace hd := hd.st hs (by first | decide | (simp <;> omega)) (by first | decide | (simp <;> omega))
      replace hb := hb.st hs (by first | decide | (simp <;> omega))
      replace hp := hp.st hs (by first | decide | (simp <;> omega))
      replace hrf := hrf.st hs (by first | decide | (simp <;> omega))
      replace h51 := h51.st hs (by first | decide | (simp <;> omega))
      replace hx := hx.st hs (by first | decide | (simp <;> omega))
      refine yS (by kernel_rfl : opAt F4.o12 3 = some (some 55, .move (.tmp 53), none)) rfl rfl (fun w' hS => val_move rfl) ?_
      refine yS (by kernel_rfl : opAt F4.o12 4 = some (some 9, .assign (.tmp 55), none)) rfl rfl (fun w' hS => val_assign rfl) ?_
      refine Sch.nil ?_
      refine run_seq (x := F4.c39) (y := F4.c72) (by kernel_rfl) ?_
      refine run_seq (x := F4.c40) (y := F4.c41) (by kernel_rfl) ?_
      refine run_plain (id := 13) (ops := F4.o13) [(0, true)] (by kernel_rfl) (by kernel_rfl) ?_
      refine yS (by kernel_rfl : opAt F4.o13 0 = some (some 10, .assign (.const (.bool true)), none)) rfl rfl (fun w' hS => val_assign rfl) ?_
      refine Sch.nil ?_
      refine run_block (x := F4.c42) (id := 0) (by kernel_rfl) ?_
      
      refine run_loop (ι := (List (Couple × Bool)) × Bool × (Nat → Nat)) (I := fun x w => WI bl fr x.1 ∧ (x.2.1 = false → ∀ y ∈ bl, rch x.1 y.A = rch x.1 y.B) ∧ Lim w x.2.2 ∧ Stp [2, 3, 4, 5, 6, 7, 8, 9] w₀ (col1 C) w x.2.2 ∧ RV w (Mc x.2.2) bl vb ∧ RV w (Mc x.2.2) (partsS bl) u ∧ RV w (Mc x.2.2) (refsS bl) vR ∧ OwnB w x.2.2 4 bw10 (.cells (encR fr).toArray 25) ∧ OwnM w x.2.2 5 bu kvC vvB x.1) (e := fun x => [(4, vb), (5, u), (7, vR), (8, .pointer (some ⟨bw10, 0, none⟩)), (9, .map (some bu)), (10, .bool x.2.1)]) (m := fun x => 2 * unr bl x.1 + x.2.1.toNat) (x₀ := (mput [] fr true, true, Cm)) (body := F4.c43) (by kernel_rfl) (sub_cons 4 rfl rfl (sub_cons 5 rfl rfl (sub_cons 7 rfl rfl (sub_cons 8 rfl rfl (sub_cons 9 rfl rfl (sub_cons 10 rfl rfl (sub_nil _))))))) ?_ ?_
      · exact ⟨WI.start hfm, (fun e => by cases e), hF, hT, hb, hp, hrf, hx, hu⟩
      intro ⟨um, ch, C1⟩ w13 hI next
      obtain ⟨hw, hcl, hF, hT, hb, hp, hrf, hx, hu⟩ := hI
      try simp only at hw hcl hF hT hb hp hrf hx hu
      have next1 := next
      clear next
      show Run _ _ _ _ [(4, vb), (5, u), (7, vR), (8, .pointer (some ⟨bw10, 0, none⟩)), (9, .map (some bu)), (10, .bool ch)] _ _
      refine run_seq (x := F4.c44) (y := F4.c49) (by kernel_rfl) ?_
      refine run_seq (x := F4.c45) (y := F4.c46) (by kernel_rfl) ?_
      refine run_plain (id := 14) (ops := F4.o14) [(0, true)] (by kernel_rfl) (by kernel_rfl) ?_
      refine yS (by kernel_rfl : opAt F4.o14 0 = some (some 56, .move (.tmp 10), none)) rfl rfl (fun w' hS => val_move rfl) ?_
      refine Sch.nil ?_
      refine run_cond (x := F4.c47) (y := F4.c48) (o := .tmp 56) (by kernel_rfl) rfl (fun h56 => ?_) (fun h56 => ?_)
      · skip
        subst h56
        refine run_skip (by kernel_rfl) ?_
        refine run_block (x := F4.c50) (id := 1) (by kernel_rfl) ?_
        refine run_seq (x := F4.c51) (y := F4.c52) (by kernel_rfl) ?_
        refine run_plain (id := 15) (ops := F4.o15) [(0, true)] (by kernel_rfl) (by kernel_rfl) ?_
        refine yS (by kernel_rfl : opAt F4.o15 0 = some (some 10, .assign (.const (.bool false)), none)) rfl rfl (fun w' hS => val_assign rfl) ?_
        refine Sch.nil ?_
        refine run_seq (x := F4.c53) (y := F4.c54) (by kernel_rfl) ?_
        refine run_plain (id := 16) (ops := F4.o16) [(0, true), (1, true), (2, true)] (by kernel_rfl) (by kernel_rfl) ?_
        refine yS (by kernel_rfl : opAt F4.o16 0 = some (some 57, .move (.tmp 4), none)) rfl rfl (fun w' hS => val_move rfl) ?_
        refine yS (by kernel_rfl : opAt F4.o16 1 = some (some 58, .call { callee := .builtin .len, args := #[(.tmp 57)], argTypes := #[23] }, none)) rfl rfl (fun w' hS => hb.lenV rfl Try.underlying23 w' ) ?_
        refine yS (by kernel_rfl : opAt F4.o16 2 = some (some 59, .move (.const (.int .i64 0)), none)) rfl rfl (fun w' hS => val_move rfl) ?_
        refine Sch.nil ?_
        refine run_block (x := F4.c55) (id := 2) (by kernel_rfl) ?_
        
        refine run_loop (ι := Nat × (List (Couple × Bool)) × Bool × (Nat → Nat)) (I := fun x w => x.1 ≤ bl.length ∧ WI bl fr x.2.1 ∧ unr bl x.2.1 ≤ unr bl um ∧ (x.2.2.1 = true → unr bl x.2.1 < unr bl um) ∧ (x.2.2.1 = false → x.2.1 = um ∧ ∀ y ∈ bl.take x.1, rch um y.A = rch um y.B) ∧ Lim w x.2.2.2 ∧ Stp [2, 3, 4, 5, 6, 7, 8, 9] w₀ (col1 C) w x.2.2.2 ∧ RV w (Mc x.2.2.2) bl vb ∧ RV w (Mc x.2.2.2) (partsS bl) u ∧ RV w (Mc x.2.2.2) (refsS bl) vR ∧ OwnB w x.2.2.2 4 bw10 (.cells (encR fr).toArray 25) ∧ OwnM w x.2.2.2 5 bu kvC vvB x.2.1) (e := fun x => [(4, vb), (5, u), (7, vR), (8, .pointer (some ⟨bw10, 0, none⟩)), (9, .map (some bu)), (10, .bool x.2.2.1), (57, vb), (58, .int .i64 bl.length), (59, .int .i64 x.1)]) (m := fun x => bl.length - x.1) (x₀ := (0, um, false, C1)) (body := F4.c56) (by kernel_rfl) (sub_cons 4 rfl rfl (sub_cons 5 rfl rfl (sub_cons 7 rfl rfl (sub_cons 8 rfl rfl (sub_cons 9 rfl rfl (sub_cons 10 rfl rfl (sub_cons 57 rfl rfl (sub_cons 58 rfl rfl (sub_cons 59 rfl rfl (sub_nil _)))))))))) ?_ ?_
        · exact ⟨Nat.zero_le _, hw, Nat.le_refl _, (fun e => by cases e), (fun _ => ⟨rfl, fun x hx => by simp at hx⟩), hF, hT, hb, hp, hrf, hx, hu⟩
        intro ⟨k, um2, ch2, C1⟩ w14 hI next
        obtain ⟨hk, hw2, hle, hlt, hsm, hF, hT, hb, hp, hrf, hx, hu⟩ := hI
        try simp only at hk hw2 hle hlt hsm hF hT hb hp hrf hx hu
        have next2 := next
        clear next
        show Run _ _ _ _ [(4, vb), (5, u), (7, vR), (8, .pointer (some ⟨bw10, 0, none⟩)), (9, .map (some bu)), (10, .bool ch2), (57, vb), (58, .int .i64 bl.length), (59, .int .i64 k)] _ _
        refine run_seq (x := F4.c57) (y := F4.c58) (by kernel_rfl) ?_
        refine run_plain (id := 17) (ops := F4.o17) [(0, true)] (by kernel_rfl) (by kernel_rfl) ?_
        refine yS (by kernel_rfl : opAt F4.o17 0 = some (some 60, .binOp .lss 3 (.tmp 59) (.tmp 58) 3, none)) rfl rfl (fun w' hS => val_lss rfl rfl) ?_
        refine Sch.nil ?_
        refine run_seq (x := F4.c59) (y := F4.c62) (by kernel_rfl) ?_
        refine run_if (x := F4.c60) (y := F4.c61) (o := .tmp 60) (by kernel_rfl) rfl (fun h60 => ?_) (fun h60 => ?_)
        · skip
          have hkl : k < bl.length := by omega
          refine run_skip (by kernel_rfl) ?_
          refine run_seq (x := F4.c63) (y := F4.c71) (by kernel_rfl) ?_
          refine run_block (x := F4.c64) (id := 3) (by kernel_rfl) ?_
          refine run_seq (x := F4.c65) (y := F4.c66) (by kernel_rfl) ?_
          refine run_plain (id := 18) (ops := F4.o18) [(0, true), (1, false), (2, false), (3, false)] (by kernel_rfl) (by kernel_rfl) ?_
          refine iS (e := 50) (by kernel_rfl : opAt F4.o18 0 = some (some 61, .indexAddr 23 (.tmp 57) (.tmp 59), none)) rfl rfl hb rfl (by kernel_rfl) rfl (by omega) (by omega) ?_
          intro b61 o61 h61
          try simp only [Int.toNat_natCast] at h61
          refine lNA (by kernel_rfl : opAt F4.o18 1 = some (some 62, .load 50 (.tmp 61), none)) rfl rfl trivial h61 (by kernel_rfl) (by kernel_rfl) rfl rfl ?_
          intro v62 g62
          obtain rfl := rv_bond.1 g62
          refine aS (by kernel_rfl : opAt F4.o18 2 = some (some 12, .alloc 50, none)) rfl rfl (a_alloc (cs := [.int .i64 0, .int .i64 0, .int .i64 0, .int .i64 0, .int .i64 0]) hF 6 (by kernel_rfl)) ?_
          rintro _ w15 ⟨Cw15, bw15, rfl, hs, hy, hF⟩
          refine ⟨trivial, ?_⟩
          replace hT := hT.trans hs (by simp)
          replace hb := hb.st hs (by first | decide | (simp <;> omega))
          replace hp := hp.st hs (by first | decide | (simp <;> omega))
          replace hrf := hrf.st hs (by first | decide | (simp <;> omega))
          replace hx := hx.st hs (by first | decide | (simp <;> omega))
          replace hu := hu.st hs (by first | decide | (simp <;> omega))
          replace h61 := h61.st hs (by first | decide | (simp <;> omega))
          refine aN (by kernel_rfl : opAt F4.o18 3 = some (none, .store 50 (.tmp 12) (.tmp 62), none)) rfl (a_storeAll (vs := encB (bl[k]'hkl)) (n := 5) rfl rfl (by kernel_rfl) rfl rfl (by intro u hu; simp only [encB, List.mem_cons, List.not_mem_nil, or_false] at hu; rcases hu with rfl | rfl | rfl | rfl | rfl <;> rfl) hy rfl) ?_
          rintro _ w16 ⟨rfl, hs, hy⟩
          refine ⟨trivial, ?_⟩
          replace hF := hF.st hs
          replace hT := hT.trans hs (by simp)
          replace hb := hb.st hs (by first | decide | (simp <;> omega))
          replace hp := hp.st hs (by first | decide | (simp <;> omega))
          replace hrf := hrf.st hs (by first | decide | (simp <;> omega))
          replace hx := hx.st hs (by first | decide | (simp <;> omega))
          replace hu := hu.st hs (by first | decide | (simp <;> omega))
          replace h61 := h61.st hs (by first | decide | (simp <;> omega))
          refine Sch.nil ?_
          refine run_seq (x := F4.c67) (y := F4.c68) (by kernel_rfl) ?_
          refine run_draw (id := 19) (ops := F4.o19) [] (Cw15) [(0, true), (1, true), (2, true), (3, true), (4, true), (5, true), (6, true), (7, true), (8, true)] Try_mixed (by kernel_rfl) (by kernel_rfl) (by kernel_rfl) ?_
          intro w17 hs
          replace hF := hF.st hs
          replace hT := hT.trans hs (by simp)
          replace hb := hb.st hs (by first | decide | (simp <;> omega))
          replace hp := hp.st hs (by first | decide | (simp <;> omega))
          replace hrf := hrf.st hs (by first | decide | (simp <;> omega))
          replace hx := hx.st hs (by first | decide | (simp <;> omega))
          replace hu := hu.st hs (by first | decide | (simp <;> omega))
          replace h61 := h61.st hs (by first | decide | (simp <;> omega))
          replace hy := hy.st hs (by first | decide | (simp <;> omega))
          refine yS (by kernel_rfl : opAt F4.o19 0 = some (some 63, .move (.tmp 9), none)) rfl rfl (fun w' hS => val_move rfl) ?_
          refine yS (by kernel_rfl : opAt F4.o19 1 = some (some 64, .fieldAddr 50 (.tmp 12) 0, none)) rfl rfl (fun w' hS => val_fieldAddr (off := 0) (by kernel_rfl) rfl) ?_
          refine yS (by kernel_rfl : opAt F4.o19 2 = some (some 65, .load 25 (.tmp 64), none)) rfl rfl (fun w' hS => val_loadOwnAgg (n := 2) (vs := encR (bl[k]'hkl).A) (hy.stay hS (by decide)) (by kernel_rfl) (by kernel_rfl) rfl rfl rfl) ?_
          refine yS (by kernel_rfl : opAt F4.o19 3 = some (some 66, .lookup 48 (.tmp 63) (.tmp 65) false, none)) rfl rfl (fun w' hS => val_is ((hu.stay hS (by decide)).lookup (z0 := false) Try.underlying48 (keyOK_couple Try.underlying25 (by decide) (by decide) (by kernel_rfl) Try.underlying3) Try.zeroValue4 rfl rfl) (show _ = Value.bool (rch um2 (bl[k]'hkl).A) from rfl)) ?_
          refine yS (by kernel_rfl : opAt F4.o19 4 = some (some 67, .move (.tmp 9), none)) rfl rfl (fun w' hS => val_move rfl) ?_
          refine yS (by kernel_rfl : opAt F4.o19 5 = some (some 68, .fieldAddr 50 (.tmp 12) 1, none)) rfl rfl (fun w' hS => val_fieldAddr (off := 2) (by kernel_rfl) rfl) ?_
          refine yS (by kernel_rfl : opAt F4.o19 6 = some (some 69, .load 25 (.tmp 68), none)) rfl rfl (fun w' hS => val_loadOwnAgg (n := 2) (vs := encR (bl[k]'hkl).B) (hy.stay hS (by decide)) (by kernel_rfl) (by kernel_rfl) rfl rfl rfl) ?_
          refine yS (by kernel_rfl : opAt F4.o19 7 = some (some 70, .lookup 48 (.tmp 67) (.tmp 69) false, none)) rfl rfl (fun w' hS => val_is ((hu.stay hS (by decide)).lookup (z0 := false) Try.underlying48 (keyOK_couple Try.underlying25 (by decide) (by decide) (by kernel_rfl) Try.underlying3) Try.zeroValue4 rfl rfl) (show _ = Value.bool (rch um2 (bl[k]'hkl).B) from rfl)) ?_
          refine yS (by kernel_rfl : opAt F4.o19 8 = some (some 71, .binOp .neq 4 (.tmp 66) (.tmp 70) 4, none)) rfl rfl (fun w' hS => val_neqB Try.underlying4 rfl rfl) ?_
          refine Sch.nil ?_
          refine run_if (x := F4.c69) (y := F4.c70) (o := .tmp 71) (by kernel_rfl) rfl (fun h71 => ?_) (fun h71 => ?_)
          · skip
            obtain ⟨hw3, hlt3⟩ := hw2.put (List.getElem_mem hkl) h71
            refine run_draw (id := 20) (ops := F4.o20) [5] (Cw15) [(0, true), (1, true), (2, true), (3, true), (4, true), (5, true), (6, false), (7, false), (8, true)] Try_mixed (by kernel_rfl) (by kernel_rfl) (by kernel_rfl) ?_
            intro w18 hs
            replace hF := hF.st hs
            replace hT := hT.trans hs (by simp)
            replace hb := hb.st hs (by first | decide | (simp <;> omega))
            replace hp := hp.st hs (by first | decide | (simp <;> omega))
            replace hrf := hrf.st hs (by first | decide | (simp <;> omega))
            replace hx := hx.st hs (by first | decide | (simp <;> omega))
            replace hu := hu.st hs (by first | decide | (simp <;> omega))
            replace h61 := h61.st hs (by first | decide | (simp <;> omega))
            replace hy := hy.st hs (by first | decide | (simp <;> omega))
            have hR := Stp.refl [5] w18 (Cw15)
            refine yS (by kernel_rfl : opAt F4.o20 0 = some (some 72, .move (.tmp 9), none)) rfl rfl (fun w' hS => val_move rfl) ?_
            refine yS (by kernel_rfl : opAt F4.o20 1 = some (some 73, .fieldAddr 50 (.tmp 12) 0, none)) rfl rfl (fun w' hS => val_fieldAddr (off := 0) (by kernel_rfl) rfl) ?_
            refine yS (by kernel_rfl : opAt F4.o20 2 = some (some 74, .load 25 (.tmp 73), none)) rfl rfl (fun w' hS => val_loadOwnAgg (n := 2) (vs := encR (bl[k]'hkl).A) (hy.stay hS (by decide)) (by kernel_rfl) (by kernel_rfl) rfl rfl rfl) ?_
            refine yS (by kernel_rfl : opAt F4.o20 3 = some (some 75, .move (.tmp 9), none)) rfl rfl (fun w' hS => val_move rfl) ?_
            refine yS (by kernel_rfl : opAt F4.o20 4 = some (some 76, .fieldAddr 50 (.tmp 12) 1, none)) rfl rfl (fun w' hS => val_fieldAddr (off := 2) (by kernel_rfl) rfl) ?_
            refine yS (by kernel_rfl : opAt F4.o20 5 = some (some 77, .load 25 (.tmp 76), none)) rfl rfl (fun w' hS => val_loadOwnAgg (n := 2) (vs := encR (bl[k]'hkl).B) (hy.stay hS (by decide)) (by kernel_rfl) (by kernel_rfl) rfl rfl rfl) ?_
            refine aN (by kernel_rfl : opAt F4.o20 6 = some (none, .mapUpdate 48 (.tmp 72) (.tmp 74) (.const (.bool true)), none)) rfl (a_mapUpdate (k := (bl[k]'hkl).A) (u := true) hu Try.underlying48 (keyOK_couple Try.underlying25 (by decide) (by decide) (by kernel_rfl) Try.underlying3) rfl rfl rfl) ?_
            rintro _ w19 ⟨rfl, hs, hu⟩
            refine ⟨(hR.trans hs (by simp)).ext, ?_⟩
            replace hF := hF.st hs
            replace hT := hT.trans hs (by simp)
            replace hb := hb.st hs (by first | decide | (simp <;> omega))
            replace hp := hp.st hs (by first | decide | (simp <;> omega))
            replace hrf := hrf.st hs (by first | decide | (simp <;> omega))
            replace hx := hx.st hs (by first | decide | (simp <;> omega))
            replace h61 := h61.st hs (by first | decide | (simp <;> omega))
            replace hy := hy.st hs (by first | decide | (simp <;> omega))
            replace hR := hR.trans hs (by simp)
            refine aN (by kernel_rfl : opAt F4.o20 7 = some (none, .mapUpdate 48 (.tmp 75) (.tmp 77) (.const (.bool true)), none)) rfl (a_mapUpdate (k := (bl[k]'hkl).B) (u := true) hu Try.underlying48 (keyOK_couple Try.underlying25 (by decide) (by decide) (by kernel_rfl) Try.underlying3) rfl rfl rfl) ?_
            rintro _ w20 ⟨rfl, hs, hu⟩
            refine ⟨(hR.trans hs (by simp)).ext, ?_⟩
            replace hF := hF.st hs
            replace hT := hT.trans hs (by simp)
            replace hb := hb.st hs (by first | decide | (simp <;> omega))
            replace hp := hp.st hs (by first | decide | (simp <;> omega))
            replace hrf := hrf.st hs (by first | decide | (simp <;> omega))
            replace hx := hx.st hs (by first | decide | (simp <;> omega))
            replace h61 := h61.st hs (by first | decide | (simp <;> omega))
            replace hy := hy.st hs (by first | decide | (simp <;> omega))
            replace hR := hR.trans hs (by simp)
            refine yS (by kernel_rfl : opAt F4.o20 8 = some (some 10, .assign (.const (.bool true)), none)) rfl rfl (fun w' hS => val_assign rfl) ?_
            refine Sch.nil ?_
            refine run_inBlock ?_
            refine run_plain (id := 21) (ops := F4.o21) [(0, true), (1, true)] (by kernel_rfl) (by kernel_rfl) ?_
            refine yS (by kernel_rfl : opAt F4.o21 0 = some (some 78, .binOp .add 3 (.tmp 59) (.const (.int .i64 1)) 3, none)) rfl rfl (fun w' hS => val_addi rfl rfl (by omega) (by omega)) ?_
            refine yS (by kernel_rfl : opAt F4.o21 1 = some (some 59, .move (.tmp 78), none)) rfl rfl (fun w' hS => val_move rfl) ?_
            refine Sch.nil ?_
            refine kp (sub_cons 4 rfl rfl (sub_cons 5 rfl rfl (sub_cons 7 rfl rfl (sub_cons 8 rfl rfl (sub_cons 9 rfl rfl (sub_cons 10 rfl rfl (sub_cons 57 rfl rfl (sub_cons 58 rfl rfl (sub_cons 59 rfl (eq_int (by simp)) (sub_nil _)))))))))) (next2 (k + 1, mput (mput um2 (bl[k]'hkl).A true) (bl[k]'hkl).B true, true, Cw15) _ ⟨(by first | omega | (simp only; omega)), hw3, (by simp only; omega), (fun _ => by simp only; omega), (fun e => by cases e), hF, hT, hb, hp, hrf, hx, hu⟩ (by first | omega | (simp only; omega)))
          · skip
            refine run_skip (by kernel_rfl) ?_
            refine run_inBlock ?_
            refine run_plain (id := 21) (ops := F4.o21) [(0, true), (1, true)] (by kernel_rfl) (by kernel_rfl) ?_
            refine yS (by kernel_rfl : opAt F4.o21 0 = some (some 78, .binOp .add 3 (.tmp 59) (.const (.int .i64 1)) 3, none)) rfl rfl (fun w' hS => val_addi rfl rfl (by omega) (by omega)) ?_
            refine yS (by kernel_rfl : opAt F4.o21 1 = some (some 59, .move (.tmp 78), none)) rfl rfl (fun w' hS => val_move rfl) ?_
            refine Sch.nil ?_
            refine kp (sub_cons 4 rfl rfl (sub_cons 5 rfl rfl (sub_cons 7 rfl rfl (sub_cons 8 rfl rfl (sub_cons 9 rfl rfl (sub_cons 10 rfl rfl (sub_cons 57 rfl rfl (sub_cons 58 rfl rfl (sub_cons 59 rfl (eq_int (by simp)) (sub_nil _)))))))))) (next2 (k + 1, um2, ch2, Cw15) _ ⟨(by first | omega | (simp only; omega)), hw2, hle, hlt, (fun e => by
                obtain ⟨e1, e2⟩ := hsm e
                refine ⟨e1, fun x hx => ?_⟩
                rw [List.take_succ_eq_append_getElem hkl] at hx
                rcases List.mem_append.1 hx with hx | hx
                · exact e2 x hx
                · simp only [List.mem_singleton] at hx; subst hx; rw [← e1]; exact Classical.not_not.1 h71), hF, hT, hb, hp, hrf, hx, hu⟩ (by first | omega | (simp only; omega)))
        · skip
          have hkl : k = bl.length := by omega
          subst hkl
          rw [List.take_length] at hsm
          refine run_exit (id := 2) (by kernel_rfl) rfl ?_
          refine run_inBlock ?_
          refine kp (sub_cons 4 rfl rfl (sub_cons 5 rfl rfl (sub_cons 7 rfl rfl (sub_cons 8 rfl rfl (sub_cons 9 rfl rfl (sub_cons 10 rfl rfl (sub_nil _))))))) (next1 (um2, ch2, C1) _ ⟨hw2, (fun e => by obtain ⟨e1, e2⟩ := hsm e; rw [e1]; exact e2), hF, hT, hb, hp, hrf, hx, hu⟩ (by
              simp only
              cases ch2 with
              | true => have := hlt rfl; simp; omega
              | false => have := (hsm rfl).1; subst this; simp))
      · skip
        have hcl2 := hcl h56
        refine run_exit (id := 0) (by kernel_rfl) rfl ?_
        refine run_seq (x := F4.c73) (y := F4.c74) (by kernel_rfl) ?_
        refine run_plain (id := 22) (ops := F4.o22) [(0, true), (1, false), (2, false), (3, true)] (by kernel_rfl) (by kernel_rfl) ?_
        refine yS (by kernel_rfl : opAt F4.o22 0 = some (some 79, .move (.tmp 5), none)) rfl rfl (fun w' hS => val_move rfl) ?_
        refine nS (by kernel_rfl : opAt F4.o22 1 = some (some 80, .load 25 (.tmp 8), none)) rfl rfl trivial (val_loadOwnAgg (n := 2) (vs := encR fr) hx.at_ (by kernel_rfl) (by kernel_rfl) rfl rfl rfl) ?_
        refine cS (by kernel_rfl : opAt F4.o22 2 = some (some 81, .call { callee := .value (.func 22), args := #[(.tmp 79), (.tmp 80)], argTypes := #[26, 25] }, none)) rfl rfl (ent Try.call22 rfl) (find_ok (c := fr) hF hp) ?_
        rintro vw21 w21 ⟨rfl, hs⟩
        refine ⟨trivial, ?_⟩
        replace hF := hF.st hs
        replace hT := hT.trans hs (by simp)
        replace hb := hb.st hs (by first | decide | (simp <;> omega))
        replace hp := hp.st hs (by first | decide | (simp <;> omega))
        replace hrf := hrf.st hs (by first | decide | (simp <;> omega))
        replace hx := hx.st hs (by first | decide | (simp <;> omega))
        replace hu := hu.st hs (by first | decide | (simp <;> omega))
        obtain ⟨i0, hi0⟩ := parts_cover hfm
        have hi0l := getD_lt hi0
        have hfi := find_part hi0
        rw [hfi]
        refine yS (by kernel_rfl : opAt F4.o22 3 = some (some 13, .assign (.tmp 81), none)) rfl rfl (fun w' hS => val_assign rfl) ?_
        refine Sch.nil ?_
        refine run_seq (x := F4.c75) (y := F4.c97) (by kernel_rfl) ?_
        refine run_seq (x := F4.c76) (y := F4.c77) (by kernel_rfl) ?_
        refine run_plain (id := 23) (ops := F4.o23) [(0, true), (1, true), (2, true)] (by kernel_rfl) (by kernel_rfl) ?_
        refine yS (by kernel_rfl : opAt F4.o23 0 = some (some 82, .move (.tmp 7), none)) rfl rfl (fun w' hS => val_move rfl) ?_
        refine yS (by kernel_rfl : opAt F4.o23 1 = some (some 83, .call { callee := .builtin .len, args := #[(.tmp 82)], argTypes := #[38] }, none)) rfl rfl (fun w' hS => hrf.lenV rfl Try.underlying38 w' ) ?_
        refine yS (by kernel_rfl : opAt F4.o23 2 = some (some 84, .move (.const (.int .i64 0)), none)) rfl rfl (fun w' hS => val_move rfl) ?_
        refine Sch.nil ?_
        refine run_block (x := F4.c78) (id := 4) (by kernel_rfl) ?_
        
        refine run_loop (ι := Nat × (Nat → Nat)) (I := fun x w => x.1 ≤ (refsS bl).length ∧ Lim w x.2 ∧ Stp [2, 3, 4, 5, 6, 7, 8, 9] w₀ (col1 C) w x.2 ∧ RV w (Mc x.2) (partsS bl) u ∧ RV w (Mc x.2) (refsS bl) vR ∧ OwnM w x.2 5 bu kvC vvB um) (e := fun x => [(5, u), (9, .map (some bu)), (13, .int .i64 i0), (82, vR), (83, .int .i64 (refsS bl).length), (84, .int .i64 x.1)]) (m := fun x => (refsS bl).length - x.1) (x₀ := (0, C1)) (body := F4.c79) (by kernel_rfl) (sub_cons 5 rfl rfl (sub_cons 9 rfl rfl (sub_cons 13 rfl rfl (sub_cons 82 rfl rfl (sub_cons 83 rfl rfl (sub_cons 84 rfl rfl (sub_nil _))))))) ?_ ?_
        · exact ⟨Nat.zero_le _, hF, hT, hp, hrf, hu⟩
        intro ⟨k, C1⟩ w22 hI next
        obtain ⟨hk, hF, hT, hp, hrf, hu⟩ := hI
        try simp only at hk hF hT hp hrf hu
        have next3 := next
        clear next
        show Run _ _ _ _ [(5, u), (9, .map (some bu)), (13, .int .i64 i0), (82, vR), (83, .int .i64 (refsS bl).length), (84, .int .i64 k)] _ _
        refine run_seq (x := F4.c80) (y := F4.c81) (by kernel_rfl) ?_
        refine run_plain (id := 24) (ops := F4.o24) [(0, true)] (by kernel_rfl) (by kernel_rfl) ?_
        refine yS (by kernel_rfl : opAt F4.o24 0 = some (some 85, .binOp .lss 3 (.tmp 84) (.tmp 83) 3, none)) rfl rfl (fun w' hS => val_lss rfl rfl) ?_
        refine Sch.nil ?_
        refine run_seq (x := F4.c82) (y := F4.c85) (by kernel_rfl) ?_
        refine run_if (x := F4.c83) (y := F4.c84) (o := .tmp 85) (by kernel_rfl) rfl (fun h85 => ?_) (fun h85 => ?_)
        · skip
          have hkl : k < (refsS bl).length := by omega
          refine run_skip (by kernel_rfl) ?_
          refine run_seq (x := F4.c86) (y := F4.c96) (by kernel_rfl) ?_
          refine run_block (x := F4.c87) (id := 5) (by kernel_rfl) ?_
          refine run_seq (x := F4.c88) (y := F4.c89) (by kernel_rfl) ?_
          refine run_plain (id := 25) (ops := F4.o25) [(0, true), (1, false), (2, false), (3, false)] (by kernel_rfl) (by kernel_rfl) ?_
          refine iS (e := 25) (by kernel_rfl : opAt F4.o25 0 = some (some 86, .indexAddr 38 (.tmp 82) (.tmp 84), none)) rfl rfl hrf rfl (by kernel_rfl) rfl (by omega) (by omega) ?_
          intro b86 o86 h86
          try simp only [Int.toNat_natCast] at h86
          refine lNA (by kernel_rfl : opAt F4.o25 1 = some (some 87, .load 25 (.tmp 86), none)) rfl rfl trivial h86 (by kernel_rfl) (by kernel_rfl) rfl rfl ?_
          intro v87 g87
          obtain rfl := rv_couple.1 g87
          refine aS (by kernel_rfl : opAt F4.o25 2 = some (some 15, .alloc 25, none)) rfl rfl (a_alloc (cs := [.int .i64 0, .int .i64 0]) hF 6 (by kernel_rfl)) ?_
          rintro _ w23 ⟨Cw23, bw23, rfl, hs, hz, hF⟩
          refine ⟨trivial, ?_⟩
          replace hT := hT.trans hs (by simp)
          replace hp := hp.st hs (by first | decide | (simp <;> omega))
          replace hrf := hrf.st hs (by first | decide | (simp <;> omega))
          replace hu := hu.st hs (by first | decide | (simp <;> omega))
          replace h86 := h86.st hs (by first | decide | (simp <;> omega))
          refine aN (by kernel_rfl : opAt F4.o25 3 = some (none, .store 25 (.tmp 15) (.tmp 87), none)) rfl (a_storeAll (vs := encR ((refsS bl)[k]'hkl)) (n := 2) rfl rfl (by kernel_rfl) rfl rfl (by intro u hu; simp only [encR, List.mem_cons, List.not_mem_nil, or_false] at hu; rcases hu with rfl | rfl <;> rfl) hz rfl) ?_
          rintro _ w24 ⟨rfl, hs, hz⟩
          refine ⟨trivial, ?_⟩
          replace hF := hF.st hs
          replace hT := hT.trans hs (by simp)
          replace hp := hp.st hs (by first | decide | (simp <;> omega))
          replace hrf := hrf.st hs (by first | decide | (simp <;> omega))
          replace hu := hu.st hs (by first | decide | (simp <;> omega))
          replace h86 := h86.st hs (by first | decide | (simp <;> omega))
          refine Sch.nil ?_
          refine run_seq (x := F4.c90) (y := F4.c91) (by kernel_rfl) ?_
          refine run_draw (id := 26) (ops := F4.o26) [] (Cw23) [(0, true), (1, true), (3, true), (5, true), (6, true), (7, true), (2, false), (4, true), (8, true)] Try_mixed (by kernel_rfl) (by kernel_rfl) (by kernel_rfl) ?_
          intro w25 hs
          replace hF := hF.st hs
          replace hT := hT.trans hs (by simp)
          replace hp := hp.st hs (by first | decide | (simp <;> omega))
          replace hrf := hrf.st hs (by first | decide | (simp <;> omega))
          replace hu := hu.st hs (by first | decide | (simp <;> omega))
          replace h86 := h86.st hs (by first | decide | (simp <;> omega))
          replace hz := hz.st hs (by first | decide | (simp <;> omega))
          have hR := Stp.refl [] w25 (Cw23)
          refine yS (by kernel_rfl : opAt F4.o26 0 = some (some 88, .move (.tmp 5), none)) rfl rfl (fun w' hS => val_move rfl) ?_
          refine yS (by kernel_rfl : opAt F4.o26 1 = some (some 89, .load 25 (.tmp 15), none)) rfl rfl (fun w' hS => val_loadOwnAgg (n := 2) (vs := encR ((refsS bl)[k]'hkl)) (hz.stay hS (by decide)) (by kernel_rfl) (by kernel_rfl) rfl rfl rfl) ?_
          refine yS (by kernel_rfl : opAt F4.o26 3 = some (some 91, .move (.tmp 13), none)) rfl rfl (fun w' hS => val_move rfl) ?_
          refine yS (by kernel_rfl : opAt F4.o26 5 = some (some 93, .move (.tmp 9), none)) rfl rfl (fun w' hS => val_move rfl) ?_
          refine yS (by kernel_rfl : opAt F4.o26 6 = some (some 94, .load 25 (.tmp 15), none)) rfl rfl (fun w' hS => val_loadOwnAgg (n := 2) (vs := encR ((refsS bl)[k]'hkl)) (hz.stay hS (by decide)) (by kernel_rfl) (by kernel_rfl) rfl rfl rfl) ?_
          refine yS (by kernel_rfl : opAt F4.o26 7 = some (some 95, .lookup 48 (.tmp 93) (.tmp 94) false, none)) rfl rfl (fun w' hS => val_is ((hu.stay hS (by decide)).lookup (z0 := false) Try.underlying48 (keyOK_couple Try.underlying25 (by decide) (by decide) (by kernel_rfl) Try.underlying3) Try.zeroValue4 rfl rfl) (show _ = Value.bool (rch um ((refsS bl)[k]'hkl)) from rfl)) ?_
          refine cS (by kernel_rfl : opAt F4.o26 2 = some (some 90, .call { callee := .value (.func 22), args := #[(.tmp 88), (.tmp 89)], argTypes := #[26, 25] }, none)) rfl rfl (ent Try.call22 rfl) (find_ok (c := (refsS bl)[k]'hkl) hF hp) ?_
          rintro vw26 w26 ⟨rfl, hs⟩
          refine ⟨(hR.trans hs (by simp)).ext, ?_⟩
          replace hF := hF.st hs
          replace hT := hT.trans hs (by simp)
          replace hp := hp.st hs (by first | decide | (simp <;> omega))
          replace hrf := hrf.st hs (by first | decide | (simp <;> omega))
          replace hu := hu.st hs (by first | decide | (simp <;> omega))
          replace h86 := h86.st hs (by first | decide | (simp <;> omega))
          replace hz := hz.st hs (by first | decide | (simp <;> omega))
          replace hR := hR.trans hs (by simp)
          refine yS (by kernel_rfl : opAt F4.o26 4 = some (some 92, .binOp .eql 3 (.tmp 90) (.tmp 91) 3, none)) rfl rfl (fun w' hS => val_eql rfl rfl) ?_
          have hEq : decide (findS (partsS bl) ((refsS bl)[k]'hkl) = (i0 : Int)) = rch um ((refsS bl)[k]'hkl) := by
            rw [← hfi]
            have a1 := find_same (l := bl) (r := (refsS bl)[k]'hkl) (s := fr) (List.getElem_mem hkl) hfm
            have a2 := hw.all hcl2 (r := (refsS bl)[k]'hkl) (List.getElem_mem hkl)
            cases hb2 : rch um ((refsS bl)[k]'hkl) with
            | true => exact decide_eq_true (a1.2 (a2.1 hb2))
            | false => exact decide_eq_false (fun e => by have := a2.2 (a1.1 e); rw [hb2] at this; cases this)
          refine yS (by kernel_rfl : opAt F4.o26 8 = some (some 96, .binOp .neq 4 (.tmp 92) (.tmp 95) 4, none)) rfl rfl (fun w' hS => val_F (val_neqB Try.underlying4 rfl rfl) (fun e => e hEq)) ?_
          refine Sch.nil ?_
          refine run_cond (x := F4.c92) (y := F4.c95) (o := .tmp 96) (b := false) (by kernel_rfl) rfl (fun h => by cases h) (fun _ => ?_)
          refine run_skip (by kernel_rfl) ?_
          refine run_inBlock ?_
          refine run_plain (id := 28) (ops := F4.o28) [(0, true), (1, true)] (by kernel_rfl) (by kernel_rfl) ?_
          refine yS (by kernel_rfl : opAt F4.o28 0 = some (some 97, .binOp .add 3 (.tmp 84) (.const (.int .i64 1)) 3, none)) rfl rfl (fun w' hS => val_addi rfl rfl (by omega) (by omega)) ?_
          refine yS (by kernel_rfl : opAt F4.o28 1 = some (some 84, .move (.tmp 97), none)) rfl rfl (fun w' hS => val_move rfl) ?_
          refine Sch.nil ?_
          refine kp (sub_cons 5 rfl rfl (sub_cons 9 rfl rfl (sub_cons 13 rfl rfl (sub_cons 82 rfl rfl (sub_cons 83 rfl rfl (sub_cons 84 rfl (eq_int (by simp)) (sub_nil _))))))) (next3 (k + 1, Cw23) _ ⟨(by first | omega | (simp only; omega)), hF, hT, hp, hrf, hu⟩ (by first | omega | (simp only; omega)))
        · skip
          refine run_exit (id := 4) (by kernel_rfl) rfl ?_
          refine run_seq (x := F4.c98) (y := F4.c99) (by kernel_rfl) ?_
          refine run_draw (id := 29) (ops := F4.o29) [] (C1) [(0, true), (1, true), (2, true), (3, true), (4, true), (5, true), (6, true), (7, true), (8, true), (9, true), (10, true), (11, true), (12, true)] Try_mixed (by kernel_rfl) (by kernel_rfl) (by kernel_rfl) ?_
          intro w27 hs
          replace hF := hF.st hs
          replace hT := hT.trans hs (by simp)
          replace hp := hp.st hs (by first | decide | (simp <;> omega))
          replace hrf := hrf.st hs (by first | decide | (simp <;> omega))
          replace hu := hu.st hs (by first | decide | (simp <;> omega))
          have hnd : (keys um).Nodup := by obtain ⟨_, es, ck, _, hm⟩ := hu; exact hm.nodup
          have hcnt := hw.count hnd hcl2 hi0
          rw [getD_at hi0l] at hcnt
          refine yS (by kernel_rfl : opAt F4.o29 0 = some (some 98, .move (.tmp 13), none)) rfl rfl (fun w' hS => val_move rfl) ?_
          refine yS (by kernel_rfl : opAt F4.o29 1 = some (some 99, .binOp .geq 3 (.tmp 98) (.const (.int .i64 0)) 3, none)) rfl rfl (fun w' hS => val_T (val_geq rfl rfl) (by omega)) ?_
          refine yS (by kernel_rfl : opAt F4.o29 2 = some (some 100, .move (.tmp 99), none)) rfl rfl (fun w' hS => val_move rfl) ?_
          refine yS (by kernel_rfl : opAt F4.o29 3 = some (some 101, .move (.tmp 5), (some (2, true)))) rfl rfl (fun w' hS => val_move rfl) ?_
          refine yS (by kernel_rfl : opAt F4.o29 4 = some (some 102, .move (.tmp 13), (some (2, true)))) rfl rfl (fun w' hS => val_move rfl) ?_
          refine iS (e := 38) (by kernel_rfl : opAt F4.o29 5 = some (some 103, .indexAddr 26 (.tmp 101) (.tmp 102), (some (2, true)))) rfl rfl hp rfl (by kernel_rfl) rfl (by omega) (by omega) ?_
          intro b103 o103 h103
          try simp only [Int.toNat_natCast] at h103
          refine lS (by kernel_rfl : opAt F4.o29 6 = some (some 104, .load 38 (.tmp 103), (some (2, true)))) rfl rfl (fun w' hS => h103.stay hS (by decide)) h103 (by kernel_rfl) rfl rfl ?_
          intro v104 g104
          refine yS (by kernel_rfl : opAt F4.o29 7 = some (some 105, .call { callee := .builtin .len, args := #[(.tmp 104)], argTypes := #[38] }, (some (2, true)))) rfl rfl (fun w' hS => g104.lenV rfl Try.underlying38 w' ) ?_
          refine yS (by kernel_rfl : opAt F4.o29 8 = some (some 106, .move (.tmp 9), (some (2, true)))) rfl rfl (fun w' hS => val_move rfl) ?_
          refine yS (by kernel_rfl : opAt F4.o29 9 = some (some 107, .call { callee := .builtin .len, args := #[(.tmp 106)], argTypes := #[48] }, (some (2, true)))) rfl rfl (fun w' hS => (hu.stay hS (by decide)).lenV rfl Try.underlying48) ?_
          refine yS (by kernel_rfl : opAt F4.o29 10 = some (some 108, .binOp .eql 3 (.tmp 105) (.tmp 107) 3, (some (2, true)))) rfl rfl (fun w' hS => val_T (val_eql rfl rfl) (by exact congrArg Int.ofNat hcnt)) ?_
          refine yS (by kernel_rfl : opAt F4.o29 11 = some (some 109, .pick (.tmp 100) (.tmp 108) (.const (.bool false)), none)) rfl rfl (fun w' hS => val_pick_t rfl rfl) ?_
          refine yS (by kernel_rfl : opAt F4.o29 12 = some (some 2, .assign (.tmp 109), none)) rfl rfl (fun w' hS => val_assign rfl) ?_
          refine Sch.nil ?_
          refine run_ret1 (by kernel_rfl) Try.func4 Try.results4 rfl ?_
          exact ⟨rfl, hT.out1 (by decide)⟩
namespace F4B
noncomputable def c0 : Code := bodyOf Try.f4
noncomputable def c1 : Code := cl c0
noncomputable def o0 : Array Oper := rops c1
noncomputable def c2 : Code := cr c0
noncomputable def c3 : Code := cl c2
noncomputable def c4 : Code := cl c3
noncomputable def o1 : Array Oper := rops c4
noncomputable def c5 : Code := cr c3
noncomputable def c6 : Code := cl c5
noncomputable def c7 : Code := cl c6
noncomputable def o2 : Array Oper := rops c7
noncomputable def c8 : Code := cr c6
noncomputable def c9 : Code := cr c5
noncomputable def c10 : Code := cr c2
noncomputable def c11 : Code := cl c10
noncomputable def o3 : Array Oper := rops c11
noncomputable def c12 : Code := cr c10
noncomputable def c13 : Code := cl c12
noncomputable def o4 : Array Oper := rops c13
noncomputable def c14 : Code := cr c12
noncomputable def c15 : Code := cl c14
noncomputable def o5 : Array Oper := rops c15
noncomputable def c16 : Code := cr c14
noncomputable def c17 : Code := cl c16
noncomputable def c18 : Code := cl c17
noncomputable def o6 : Array Oper := rops c18
noncomputable def c19 : Code := cr c17
noncomputable def c20 : Code := cl c19
noncomputable def c21 : Code := cl c20
noncomputable def o7 : Array Oper := rops c21
noncomputable def c22 : Code := cr c20
noncomputable def c23 : Code := cr c19
noncomputable def c24 : Code := cr c16
noncomputable def c25 : Code := cl c24
noncomputable def o8 : Array Oper := rops c25
noncomputable def c26 : Code := cr c24
noncomputable def c27 : Code := cl c26
noncomputable def c28 : Code := cl c27
noncomputable def o9 : Array Oper := rops c28
noncomputable def c29 : Code := cr c27
noncomputable def c30 : Code := cl c29
noncomputable def c31 : Code := cl c30
noncomputable def o10 : Array Oper := rops c31
noncomputable def c32 : Code := cr c30
noncomputable def c33 : Code := cr c29
noncomputable def c34 : Code := cr c26
noncomputable def c35 : Code := cl c34
noncomputable def o11 : Array Oper := rops c35
noncomputable def c36 : Code := cr c34
noncomputable def c37 : Code := cl c36
noncomputable def o12 : Array Oper := rops c37
noncomputable def c38 : Code := cr c36
noncomputable def c39 : Code := cl c38
noncomputable def c40 : Code := cl c39
noncomputable def o13 : Array Oper := rops c40
noncomputable def c41 : Code := cr c39
noncomputable def c42 : Code := cl c41
noncomputable def c43 : Code := cl c42
noncomputable def c44 : Code := cl c43
noncomputable def c45 : Code := cl c44
noncomputable def o14 : Array Oper := rops c45
noncomputable def c46 : Code := cr c44
noncomputable def c47 : Code := cl c46
noncomputable def c48 : Code := cr c46
noncomputable def c49 : Code := cr c43
noncomputable def c50 : Code := cl c49
noncomputable def c51 : Code := cl c50
noncomputable def o15 : Array Oper := rops c51
noncomputable def c52 : Code := cr c50
noncomputable def c53 : Code := cl c52
noncomputable def o16 : Array Oper := rops c53
noncomputable def c54 : Code := cr c52
noncomputable def c55 : Code := cl c54
noncomputable def c56 : Code := cl c55
noncomputable def c57 : Code := cl c56
noncomputable def o17 : Array Oper := rops c57
noncomputable def c58 : Code := cr c56
noncomputable def c59 : Code := cl c58
noncomputable def c60 : Code := cl c59
noncomputable def c61 : Code := cr c59
noncomputable def c62 : Code := cr c58
noncomputable def c63 : Code := cl c62
noncomputable def c64 : Code := cl c63
noncomputable def c65 : Code := cl c64
noncomputable def o18 : Array Oper := rops c65
noncomputable def c66 : Code := cr c64
noncomputable def c67 : Code := cl c66
noncomputable def o19 : Array Oper := rops c67
noncomputable def c68 : Code := cr c66
noncomputable def c69 : Code := cl c68
noncomputable def o20 : Array Oper := rops c69
noncomputable def c70 : Code := cr c68
noncomputable def c71 : Code := cr c62
noncomputable def o21 : Array Oper := rops c71
noncomputable def c72 : Code := cr c38
noncomputable def c73 : Code := cl c72
noncomputable def o22 : Array Oper := rops c73
noncomputable def c74 : Code := cr c72
noncomputable def c75 : Code := cl c74
noncomputable def c76 : Code := cl c75
noncomputable def o23 : Array Oper := rops c76
noncomputable def c77 : Code := cr c75
noncomputable def c78 : Code := cl c77
noncomputable def c79 : Code := cl c78
noncomputable def c80 : Code := cl c79
noncomputable def o24 : Array Oper := rops c80
noncomputable def c81 : Code := cr c79
noncomputable def c82 : Code := cl c81
noncomputable def c83 : Code := cl c82
noncomputable def c84 : Code := cr c82
noncomputable def c85 : Code := cr c81
noncomputable def c86 : Code := cl c85
noncomputable def c87 : Code := cl c86
noncomputable def c88 : Code := cl c87
noncomputable def o25 : Array Oper := rops c88
noncomputable def c89 : Code := cr c87
noncomputable def c90 : Code := cl c89
noncomputable def o26 : Array Oper := rops c90
noncomputable def c91 : Code := cr c89
noncomputable def c92 : Code := cl c91
noncomputable def c93 : Code := cl c92
noncomputable def o27 : Array Oper := rops c93
noncomputable def c94 : Code := cr c92
noncomputable def c95 : Code := cr c91
noncomputable def c96 : Code := cr c85
noncomputable def o28 : Array Oper := rops c96
noncomputable def c97 : Code := cr c74
noncomputable def c98 : Code := cl c97
noncomputable def o29 : Array Oper := rops c98
noncomputable def c99 : Code := cr c97
end F4B
/-- .. where more is handed than it looks at. -/
theorem componentWays_big {w₀ : World} {C : Nat → Nat} {p : Option Addr} {n c : Nat} (hF : Lim w₀ C) (hn : 400 < n) : Calls Try.prog 4 #[.slice p n c] w₀ (Ret fun v w' => v = .bool true ∧ Stp [] w₀ C w' C) := by
  have hF0 := hF
  have hT := Stp.refl [2, 3, 4, 5, 6, 7, 8, 9] w₀ (col1 C)
  replace hF := hF.col1
  refine calls_start (c := F4B.c0) (N := 110) [.slice p n c] Try.func4 (by kernel_rfl) (by kernel_rfl) (by kernel_rfl) ?_
  show Run _ _ _ _ [(0, .slice p n c)] _ _
  refine run_seq (x := F4B.c1) (y := F4B.c2) (by kernel_rfl) ?_
  refine run_plain (id := 0) (ops := F4B.o0) [(0, true)] (by kernel_rfl) (by kernel_rfl) ?_
  refine yS (by kernel_rfl : opAt F4B.o0 0 = some (some 2, .assign (.const (.bool false)), none)) rfl rfl (fun w' hS => val_assign rfl) ?_
  refine Sch.nil ?_
  refine run_seq (x := F4B.c3) (y := F4B.c10) (by kernel_rfl) ?_
  refine run_seq (x := F4B.c4) (y := F4B.c5) (by kernel_rfl) ?_
  refine run_plain (id := 1) (ops := F4B.o1) [(0, false), (1, true), (2, true), (3, true), (4, false), (5, true), (6, true)] (by kernel_rfl) (by kernel_rfl) ?_
  refine cS (by kernel_rfl : opAt F4B.o1 0 = some (some 16, .call { callee := .value (.func 8), args := #[], argTypes := #[] }, none)) rfl rfl (ent Try.call8 rfl) (awake_ok hF) ?_
  rintro vw1 w1 ⟨rfl, hs⟩
  refine ⟨trivial, ?_⟩
  replace hF := hF.st hs
  replace hT := hT.trans hs (by simp)
  refine yS (by kernel_rfl : opAt F4B.o1 1 = some (some 17, .unOp .not 4 (.tmp 16), none)) rfl rfl (fun w' hS => val_not rfl) ?_
  refine yS (by kernel_rfl : opAt F4B.o1 2 = some (some 18, .move (.tmp 17), none)) rfl rfl (fun w' hS => val_move rfl) ?_
  refine yS (by kernel_rfl : opAt F4B.o1 3 = some (some 19, .move (.tmp 0), (some (2, false)))) rfl rfl (fun w' hS => val_move rfl) ?_
  refine cS (by kernel_rfl : opAt F4B.o1 4 = some (some 20, .call { callee := .value (.func 9), args := #[(.tmp 19)], argTypes := #[22] }, (some (2, false)))) rfl rfl (ent Try.call9 rfl) (few_ok _ _ _ _) ?_
  rintro vw2 w2 ⟨rfl, rfl⟩
  refine ⟨trivial, ?_⟩
  rw [decide_eq_false (show ¬ (n : Int) ≤ 400 by omega)]
  refine yS (by kernel_rfl : opAt F4B.o1 5 = some (some 21, .unOp .not 4 (.tmp 20), (some (2, false)))) rfl rfl (fun w' hS => val_not rfl) ?_
  refine yS (by kernel_rfl : opAt F4B.o1 6 = some (some 22, .pick (.tmp 18) (.const (.bool true)) (.tmp 21), none)) rfl rfl (fun w' hS => val_pick_f rfl rfl) ?_
  refine Sch.nil ?_
  refine run_cond (x := F4B.c6) (y := F4B.c9) (o := .tmp 22) (b := true) (by kernel_rfl) rfl (fun _ => ?_) (fun h => by cases h)
  refine run_seq (x := F4B.c7) (y := F4B.c8) (by kernel_rfl) ?_
  refine run_plain (id := 2) (ops := F4B.o2) [(0, false), (1, true)] (by kernel_rfl) (by kernel_rfl) ?_
  refine cS (by kernel_rfl : opAt F4B.o2 0 = some (some 23, .call { callee := .value (.func 8), args := #[], argTypes := #[] }, none)) rfl rfl (ent Try.call8 rfl) (awake_ok hF) ?_
  rintro vw3 w3 ⟨rfl, hs⟩
  refine ⟨trivial, ?_⟩
  replace hF := hF.st hs
  replace hT := hT.trans hs (by simp)
  refine yS (by kernel_rfl : opAt F4B.o2 1 = some (some 2, .assign (.tmp 23), none)) rfl rfl (fun w' hS => val_assign rfl) ?_
  refine Sch.nil ?_
  refine run_ret1 (by kernel_rfl) Try.func4 Try.results4 rfl ?_
  exact ⟨rfl, hT.out1 (by decide)⟩
end Go.Proofs.Ytfmdkdfhnkennaa

