/- Steps through functions of the program. -/
import Derived.Test.YtejbklahkkjmhaaKP8
set_option linter.unusedVariables false
set_option linter.unusedSimpArgs false
set_option maxRecDepth 100000
set_option maxHeartbeats 400000
namespace Go.Proofs.Ytejbklahkkjmhaa
open Go.K Go.K.Rep

namespace F3B
noncomputable def c0 : Code := bodyOf Try.f3
noncomputable def c1 : Code := cl c0
noncomputable def o0 : Array Oper := rops c1
noncomputable def c2 : Code := cr c0
noncomputable def c3 : Code := cl c2
noncomputable def c4 : Code := cl c3
noncomputable def o1 : Array Oper := rops c4
noncomputable def c5 : Code := cr c3
noncomputable def c6 : Code := cl c5
noncomputable def c7 : Code := cl c6
noncomputable def o2 : Array Oper := rops c7
noncomputable def c8 : Code := cr c6
noncomputable def c9 : Code := cr c5
noncomputable def c10 : Code := cr c2
noncomputable def c11 : Code := cl c10
noncomputable def o3 : Array Oper := rops c11
noncomputable def c12 : Code := cr c10
noncomputable def c13 : Code := cl c12
noncomputable def o4 : Array Oper := rops c13
noncomputable def c14 : Code := cr c12
noncomputable def c15 : Code := cl c14
noncomputable def o5 : Array Oper := rops c15
noncomputable def c16 : Code := cr c14
noncomputable def c17 : Code := cl c16
noncomputable def o6 : Array Oper := rops c17
noncomputable def c18 : Code := cr c16
noncomputable def c19 : Code := cl c18
noncomputable def o7 : Array Oper := rops c19
noncomputable def c20 : Code := cr c18
noncomputable def c21 : Code := cl c20
noncomputable def o8 : Array Oper := rops c21
noncomputable def c22 : Code := cr c20
noncomputable def c23 : Code := cl c22
noncomputable def c24 : Code := cl c23
noncomputable def o9 : Array Oper := rops c24
noncomputable def c25 : Code := cr c23
noncomputable def c26 : Code := cl c25
noncomputable def c27 : Code := cl c26
noncomputable def o10 : Array Oper := rops c27
noncomputable def c28 : Code := cr c26
noncomputable def c29 : Code := cr c25
noncomputable def c30 : Code := cr c22
noncomputable def c31 : Code := cl c30
noncomputable def c32 : Code := cl c31
noncomputable def o11 : Array Oper := rops c32
noncomputable def c33 : Code := cr c31
noncomputable def c34 : Code := cl c33
noncomputable def c35 : Code := cl c34
noncomputable def c36 : Code := cl c35
noncomputable def o12 : Array Oper := rops c36
noncomputable def c37 : Code := cr c35
noncomputable def c38 : Code := cl c37
noncomputable def c39 : Code := cl c38
noncomputable def c40 : Code := cr c38
noncomputable def c41 : Code := cr c37
noncomputable def c42 : Code := cl c41
noncomputable def c43 : Code := cl c42
noncomputable def c44 : Code := cl c43
noncomputable def o13 : Array Oper := rops c44
noncomputable def c45 : Code := cr c43
noncomputable def c46 : Code := cl c45
noncomputable def c47 : Code := cl c46
noncomputable def o14 : Array Oper := rops c47
noncomputable def c48 : Code := cr c46
noncomputable def c49 : Code := cl c48
noncomputable def c50 : Code := cl c49
noncomputable def o15 : Array Oper := rops c50
noncomputable def c51 : Code := cr c49
noncomputable def c52 : Code := cr c48
noncomputable def c53 : Code := cr c45
noncomputable def c54 : Code := cl c53
noncomputable def o16 : Array Oper := rops c54
noncomputable def c55 : Code := cr c53
noncomputable def c56 : Code := cl c55
noncomputable def c57 : Code := cl c56
noncomputable def o17 : Array Oper := rops c57
noncomputable def c58 : Code := cr c56
noncomputable def c59 : Code := cl c58
noncomputable def c60 : Code := cl c59
noncomputable def c61 : Code := cl c60
noncomputable def c62 : Code := cl c61
noncomputable def o18 : Array Oper := rops c62
noncomputable def c63 : Code := cr c61
noncomputable def c64 : Code := cl c63
noncomputable def c65 : Code := cr c63
noncomputable def c66 : Code := cr c60
noncomputable def c67 : Code := cl c66
noncomputable def c68 : Code := cl c67
noncomputable def o20 : Array Oper := rops c68
noncomputable def c69 : Code := cr c66
noncomputable def o19 : Array Oper := rops c69
noncomputable def c70 : Code := cr c55
noncomputable def c71 : Code := cl c70
noncomputable def o21 : Array Oper := rops c71
noncomputable def c72 : Code := cr c70
noncomputable def c73 : Code := cl c72
noncomputable def c74 : Code := cl c73
noncomputable def o22 : Array Oper := rops c74
noncomputable def c75 : Code := cr c73
noncomputable def c76 : Code := cr c72
noncomputable def c77 : Code := cr c41
noncomputable def o23 : Array Oper := rops c77
noncomputable def c78 : Code := cr c30
noncomputable def c79 : Code := cl c78
noncomputable def o24 : Array Oper := rops c79
noncomputable def c80 : Code := cr c78
end F3B
/-- .. where more is handed than it looks at. -/
theorem pairsList_big {w₀ : World} {C : Nat → Nat} {p : Option Addr} {n c : Nat} (hF : Lim w₀ C) (hn : 400 < n) : Calls Try.prog 3 #[.slice p n c] w₀ (Ret fun v w' => v = .bool true ∧ Stp [] w₀ C w' C) := by
  have hF0 := hF
  have hT := Stp.refl [2, 3, 4, 5, 6, 7, 8, 9] w₀ (col1 C)
  replace hF := hF.col1
  refine calls_start (c := F3B.c0) (N := 135) [.slice p n c] Try.func3 (by kernel_rfl) (by kernel_rfl) (by kernel_rfl) ?_
  show Run _ _ _ _ [(0, .slice p n c)] _ _
  refine run_seq (x := F3B.c1) (y := F3B.c2) (by kernel_rfl) ?_
  refine run_plain (id := 0) (ops := F3B.o0) [(0, true)] (by kernel_rfl) (by kernel_rfl) ?_
  refine yS (by kernel_rfl : opAt F3B.o0 0 = some (some 2, .assign (.const (.bool false)), none)) rfl rfl (fun w' hS => val_assign rfl) ?_
  refine Sch.nil ?_
  refine run_seq (x := F3B.c3) (y := F3B.c10) (by kernel_rfl) ?_
  refine run_seq (x := F3B.c4) (y := F3B.c5) (by kernel_rfl) ?_
  refine run_plain (id := 1) (ops := F3B.o1) [(0, false), (1, true), (2, true), (3, true), (4, false), (5, true), (6, true)] (by kernel_rfl) (by kernel_rfl) ?_
  refine cS (by kernel_rfl : opAt F3B.o1 0 = some (some 16, .call { callee := .value (.func 8), args := #[], argTypes := #[] }, none)) rfl rfl (ent Try.call8 rfl) (awake_ok hF) ?_
  rintro vw1 w1 ⟨rfl, hs⟩
  refine ⟨trivial, ?_⟩
  replace hF := hF.st hs
  replace hT := hT.trans hs (by simp)
  refine yS (by kernel_rfl : opAt F3B.o1 1 = some (some 17, .unOp .not 4 (.tmp 16), none)) rfl rfl (fun w' hS => val_not rfl) ?_
  refine yS (by kernel_rfl : opAt F3B.o1 2 = some (some 18, .move (.tmp 17), none)) rfl rfl (fun w' hS => val_move rfl) ?_
  refine yS (by kernel_rfl : opAt F3B.o1 3 = some (some 19, .move (.tmp 0), (some (2, false)))) rfl rfl (fun w' hS => val_move rfl) ?_
  refine cS (by kernel_rfl : opAt F3B.o1 4 = some (some 20, .call { callee := .value (.func 9), args := #[(.tmp 19)], argTypes := #[22] }, (some (2, false)))) rfl rfl (ent Try.call9 rfl) (few_ok _ _ _ _) ?_
  rintro vw2 w2 ⟨rfl, rfl⟩
  refine ⟨trivial, ?_⟩
  rw [decide_eq_false (show ¬ (n : Int) ≤ 400 by omega)]
  refine yS (by kernel_rfl : opAt F3B.o1 5 = some (some 21, .unOp .not 4 (.tmp 20), (some (2, false)))) rfl rfl (fun w' hS => val_not rfl) ?_
  refine yS (by kernel_rfl : opAt F3B.o1 6 = some (some 22, .pick (.tmp 18) (.const (.bool true)) (.tmp 21), none)) rfl rfl (fun w' hS => val_pick_f rfl rfl) ?_
  refine Sch.nil ?_
  refine run_cond (x := F3B.c6) (y := F3B.c9) (o := .tmp 22) (b := true) (by kernel_rfl) rfl (fun _ => ?_) (fun h => by cases h)
  refine run_seq (x := F3B.c7) (y := F3B.c8) (by kernel_rfl) ?_
  refine run_plain (id := 2) (ops := F3B.o2) [(0, false), (1, true)] (by kernel_rfl) (by kernel_rfl) ?_
  refine cS (by kernel_rfl : opAt F3B.o2 0 = some (some 23, .call { callee := .value (.func 8), args := #[], argTypes := #[] }, none)) rfl rfl (ent Try.call8 rfl) (awake_ok hF) ?_
  rintro vw3 w3 ⟨rfl, hs⟩
  refine ⟨trivial, ?_⟩
  replace hF := hF.st hs
  replace hT := hT.trans hs (by simp)
  refine yS (by kernel_rfl : opAt F3B.o2 1 = some (some 2, .assign (.tmp 23), none)) rfl rfl (fun w' hS => val_assign rfl) ?_
  refine Sch.nil ?_
  refine run_ret1 (by kernel_rfl) Try.func3 Try.results3 rfl ?_
  exact ⟨rfl, hT.out1 (by decide)⟩
end Go.Proofs.Ytejbklahkkjmhaa

