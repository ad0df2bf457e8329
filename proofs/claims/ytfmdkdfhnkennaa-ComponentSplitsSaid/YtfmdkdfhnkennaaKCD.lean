/- Steps through functions of the program. -/
import Derived.Test.YtfmdkdfhnkennaaKCC
set_option linter.unusedVariables false
set_option linter.unusedSimpArgs false
set_option maxRecDepth 100000
set_option maxHeartbeats 400000
namespace Go.Proofs.Ytfmdkdfhnkennaa
open Go.K Go.K.Rep

namespace F5
noncomputable def c0 : Code := bodyOf Try.f5
noncomputable def c1 : Code := cl c0
noncomputable def o0 : Array Oper := rops c1
noncomputable def c2 : Code := cr c0
noncomputable def c3 : Code := cl c2
noncomputable def c4 : Code := cl c3
noncomputable def o1 : Array Oper := rops c4
noncomputable def c5 : Code := cr c3
noncomputable def c6 : Code := cl c5
noncomputable def c7 : Code := cl c6
noncomputable def o2 : Array Oper := rops c7
noncomputable def c8 : Code := cr c6
noncomputable def c9 : Code := cr c5
noncomputable def c10 : Code := cr c2
noncomputable def c11 : Code := cl c10
noncomputable def o3 : Array Oper := rops c11
noncomputable def c12 : Code := cr c10
noncomputable def c13 : Code := cl c12
noncomputable def o4 : Array Oper := rops c13
noncomputable def c14 : Code := cr c12
noncomputable def c15 : Code := cl c14
noncomputable def o5 : Array Oper := rops c15
noncomputable def c16 : Code := cr c14
noncomputable def c17 : Code := cl c16
noncomputable def o6 : Array Oper := rops c17
noncomputable def c18 : Code := cr c16
noncomputable def c19 : Code := cl c18
noncomputable def c20 : Code := cl c19
noncomputable def o7 : Array Oper := rops c20
noncomputable def c21 : Code := cr c19
noncomputable def c22 : Code := cl c21
noncomputable def c23 : Code := cl c22
noncomputable def o8 : Array Oper := rops c23
noncomputable def c24 : Code := cr c22
noncomputable def c25 : Code := cr c21
noncomputable def c26 : Code := cr c18
noncomputable def c27 : Code := cl c26
noncomputable def o9 : Array Oper := rops c27
noncomputable def c28 : Code := cr c26
noncomputable def c29 : Code := cl c28
noncomputable def c30 : Code := cl c29
noncomputable def o10 : Array Oper := rops c30
noncomputable def c31 : Code := cr c29
noncomputable def c32 : Code := cl c31
noncomputable def c33 : Code := cl c32
noncomputable def c34 : Code := cl c33
noncomputable def o11 : Array Oper := rops c34
noncomputable def c35 : Code := cr c33
noncomputable def c36 : Code := cl c35
noncomputable def c37 : Code := cl c36
noncomputable def c38 : Code := cr c36
noncomputable def c39 : Code := cr c35
noncomputable def c40 : Code := cl c39
noncomputable def c41 : Code := cl c40
noncomputable def c42 : Code := cl c41
noncomputable def o12 : Array Oper := rops c42
noncomputable def c43 : Code := cr c41
noncomputable def c44 : Code := cl c43
noncomputable def o13 : Array Oper := rops c44
noncomputable def c45 : Code := cr c43
noncomputable def c46 : Code := cl c45
noncomputable def o14 : Array Oper := rops c46
noncomputable def c47 : Code := cr c45
noncomputable def c48 : Code := cl c47
noncomputable def o15 : Array Oper := rops c48
noncomputable def c49 : Code := cr c47
noncomputable def c50 : Code := cl c49
noncomputable def c51 : Code := cl c50
noncomputable def o16 : Array Oper := rops c51
noncomputable def c52 : Code := cr c50
noncomputable def c53 : Code := cr c49
noncomputable def c54 : Code := cr c39
noncomputable def o17 : Array Oper := rops c54
noncomputable def c55 : Code := cr c28
noncomputable def c56 : Code := cl c55
noncomputable def o18 : Array Oper := rops c56
noncomputable def c57 : Code := cr c55
end F5
/-- The statement's function answers true. -/
theorem componentSplits_ok {w₀ : World} {C : Nat → Nat} {l : List Int} {vl : Value} (hF : Lim w₀ C) (hl : RV w₀ (Mc C) l vl) : Calls Try.prog 5 #[vl] w₀ (Ret fun v w' => v = .bool true ∧ Stp [] w₀ C w' C) := by
  have hF0 := hF
  have hT := Stp.refl [2, 3, 4, 5, 6, 7, 8, 9] w₀ (col1 C)
  replace hF := hF.col1
  replace hl : RV w₀ (Mc (col1 C)) l vl := by rw [Mc_col1]; exact hl
  refine calls_start (c := F5.c0) (N := 121) [vl] Try.func5 (by kernel_rfl) (by kernel_rfl) (by kernel_rfl) ?_
  show Run _ _ _ _ [(0, vl)] _ _
  refine run_seq (x := F5.c1) (y := F5.c2) (by kernel_rfl) ?_
  refine run_plain (id := 0) (ops := F5.o0) [(0, true)] (by kernel_rfl) (by kernel_rfl) ?_
  refine yS (by kernel_rfl : opAt F5.o0 0 = some (some 2, .assign (.const (.bool false)), none)) rfl rfl (fun w' hS => val_assign rfl) ?_
  refine Sch.nil ?_
  refine run_seq (x := F5.c3) (y := F5.c10) (by kernel_rfl) ?_
  refine run_seq (x := F5.c4) (y := F5.c5) (by kernel_rfl) ?_
  refine run_plain (id := 1) (ops := F5.o1) [(0, false), (1, true), (2, true), (3, true), (4, false), (5, true), (6, true)] (by kernel_rfl) (by kernel_rfl) ?_
  refine cS (by kernel_rfl : opAt F5.o1 0 = some (some 12, .call { callee := .value (.func 8), args := #[], argTypes := #[] }, none)) rfl rfl (ent Try.call8 rfl) (awake_ok hF) ?_
  rintro vw1 w1 ⟨rfl, hs⟩
  refine ⟨trivial, ?_⟩
  replace hF := hF.st hs
  replace hT := hT.trans hs (by simp)
  replace hl := hl.st hs (by first | decide | (simp <;> omega))
  refine yS (by kernel_rfl : opAt F5.o1 1 = some (some 13, .unOp .not 4 (.tmp 12), none)) rfl rfl (fun w' hS => val_not rfl) ?_
  refine yS (by kernel_rfl : opAt F5.o1 2 = some (some 14, .move (.tmp 13), none)) rfl rfl (fun w' hS => val_move rfl) ?_
  refine yS (by kernel_rfl : opAt F5.o1 3 = some (some 15, .move (.tmp 0), (some (2, false)))) rfl rfl (fun w' hS => val_move rfl) ?_
  refine cS (by kernel_rfl : opAt F5.o1 4 = some (some 16, .call { callee := .value (.func 9), args := #[(.tmp 15)], argTypes := #[22] }, (some (2, false)))) rfl rfl (ent Try.call9 rfl) (few_any hl) ?_
  rintro vw2 w2 ⟨rfl, rfl⟩
  refine ⟨trivial, ?_⟩
  refine yS (by kernel_rfl : opAt F5.o1 5 = some (some 17, .unOp .not 4 (.tmp 16), (some (2, false)))) rfl rfl (fun w' hS => val_notd rfl) ?_
  refine yS (by kernel_rfl : opAt F5.o1 6 = some (some 18, .pick (.tmp 14) (.const (.bool true)) (.tmp 17), none)) rfl rfl (fun w' hS => val_pick_f rfl rfl) ?_
  refine Sch.nil ?_
  refine run_if (x := F5.c6) (y := F5.c9) (o := .tmp 18) (by kernel_rfl) rfl (fun h18 => ?_) (fun h18 => ?_)
  · skip
    refine run_seq (x := F5.c7) (y := F5.c8) (by kernel_rfl) ?_
    refine run_plain (id := 2) (ops := F5.o2) [(0, false), (1, true)] (by kernel_rfl) (by kernel_rfl) ?_
    refine cS (by kernel_rfl : opAt F5.o2 0 = some (some 19, .call { callee := .value (.func 8), args := #[], argTypes := #[] }, none)) rfl rfl (ent Try.call8 rfl) (awake_ok hF) ?_
    rintro vw3 w3 ⟨rfl, hs⟩
    refine ⟨trivial, ?_⟩
    replace hF := hF.st hs
    replace hT := hT.trans hs (by simp)
    replace hl := hl.st hs (by first | decide | (simp <;> omega))
    refine yS (by kernel_rfl : opAt F5.o2 1 = some (some 2, .assign (.tmp 19), none)) rfl rfl (fun w' hS => val_assign rfl) ?_
    refine Sch.nil ?_
    refine run_ret1 (by kernel_rfl) Try.func5 Try.results5 rfl ?_
    exact ⟨rfl, hT.out1 (by decide)⟩
  · skip
    refine run_skip (by kernel_rfl) ?_
    refine run_seq (x := F5.c11) (y := F5.c12) (by kernel_rfl) ?_
    refine run_plain (id := 3) (ops := F5.o3) [(0, true), (1, false), (2, true)] (by kernel_rfl) (by kernel_rfl) ?_
    refine yS (by kernel_rfl : opAt F5.o3 0 = some (some 20, .move (.tmp 0), none)) rfl rfl (fun w' hS => val_move rfl) ?_
    refine cS (by kernel_rfl : opAt F5.o3 1 = some (some 21, .call { callee := .value (.func 10), args := #[(.tmp 20)], argTypes := #[22] }, none)) rfl rfl (ent Try.call10 rfl) (new_any hF hl) ?_
    rintro vw4 w4 ⟨Cd, bd, rfl, hs, hF, hd⟩
    refine ⟨trivial, ?_⟩
    replace hT := hT.trans hs (by simp)
    replace hl := hl.st hs (by first | decide | (simp <;> omega))
    refine yS (by kernel_rfl : opAt F5.o3 2 = some (some 3, .assign (.tmp 21), none)) rfl rfl (fun w' hS => val_assign rfl) ?_
    refine Sch.nil ?_
    refine run_seq (x := F5.c13) (y := F5.c14) (by kernel_rfl) ?_
    refine run_plain (id := 4) (ops := F5.o4) [(0, true), (1, true), (2, false), (3, true), (4, false), (5, true)] (by kernel_rfl) (by kernel_rfl) ?_
    refine yS (by kernel_rfl : opAt F5.o4 0 = some (some 22, .move (.tmp 3), none)) rfl rfl (fun w' hS => val_move rfl) ?_
    refine yS (by kernel_rfl : opAt F5.o4 1 = some (some 23, .move (.tmp 3), none)) rfl rfl (fun w' hS => val_move rfl) ?_
    refine cS (by kernel_rfl : opAt F5.o4 2 = some (some 24, .call { callee := .value (.func 12), args := #[(.tmp 23), (.const (.int .i64 20))], argTypes := #[29, 3] }, none)) rfl rfl (ent Try.call12 rfl) (next_any (n := 20) hF (by decide) hd (by omega) (by omega)) ?_
    rintro vw5 w5 ⟨q, rfl, hq, hs, hd⟩
    refine ⟨trivial, ?_⟩
    replace hF := hF.st hs
    replace hT := hT.trans hs (by simp)
    replace hl := hl.st hs (by first | decide | (simp <;> omega))
    refine yS (by kernel_rfl : opAt F5.o4 3 = some (some 25, .binOp .add 3 (.const (.int .i64 3)) (.tmp 24) 3, none)) rfl rfl (fun w' hS => val_addi rfl rfl (by omega) (by omega)) ?_
    refine cS (by kernel_rfl : opAt F5.o4 4 = some (some 26, .call { callee := .value (.func 11), args := #[(.tmp 22), (.const (.int .i64 4)), (.const (.int .i64 4)), (.tmp 25)], argTypes := #[29, 3, 3, 3] }, none)) rfl rfl (ent Try.call11 rfl) (bonds_any (R := 4) (I := 4) (one := 3 + (q : Int)) hF (by decide) hd (by decide) (by decide) (by omega) (by omega)) ?_
    rintro vb w6 ⟨bl, hbl, ⟨hs, hb, hd⟩, _⟩
    refine ⟨trivial, ?_⟩
    replace hF := hF.st hs
    replace hT := hT.trans hs (by simp)
    replace hl := hl.st hs (by first | decide | (simp <;> omega))
    have hbv := hbl.vld (by decide) (by decide)
    have hck := hbv.check
    have hbL := hbl.2.2
    have hprl := parts_le bl
    have hrl2 := refsS_len bl
    refine yS (by kernel_rfl : opAt F5.o4 5 = some (some 4, .assign (.tmp 26), none)) rfl rfl (fun w' hS => val_assign rfl) ?_
    refine Sch.nil ?_
    refine run_seq (x := F5.c15) (y := F5.c16) (by kernel_rfl) ?_
    refine run_plain (id := 5) (ops := F5.o5) [(0, true), (1, false), (2, true), (3, true), (4, true), (5, true), (6, true)] (by kernel_rfl) (by kernel_rfl) ?_
    refine yS (by kernel_rfl : opAt F5.o5 0 = some (some 28, .move (.tmp 4), none)) rfl rfl (fun w' hS => val_move rfl) ?_
    refine cS (by kernel_rfl : opAt F5.o5 1 = some (some 29, .call { callee := .value (.func 19), args := #[(.tmp 28)], argTypes := #[23] }, none)) rfl rfl (ent Try.call19 rfl) (of_ok hF hb (by omega)) ?_
    rintro vw7 w7 ⟨u, rfl, hs, _, hp⟩
    refine ⟨trivial, ?_⟩
    replace hF := hF.st hs
    replace hT := hT.trans hs (by simp)
    replace hl := hl.st hs (by first | decide | (simp <;> omega))
    replace hd := hd.st hs (by first | decide | (simp <;> omega)) (by first | decide | (simp <;> omega))
    replace hb := hb.st hs (by first | decide | (simp <;> omega))
    rw [if_pos hck] at hp
    rw [hck]
    refine yS (by kernel_rfl : opAt F5.o5 2 = some (some 27, .move (.tmp 29), none)) rfl rfl (fun w' hS => val_move rfl) ?_
    refine yS (by kernel_rfl : opAt F5.o5 3 = some (some 30, .extract (.tmp 27) 0, none)) rfl rfl (fun w' hS => val_extract rfl rfl) ?_
    refine yS (by kernel_rfl : opAt F5.o5 4 = some (some 31, .extract (.tmp 27) 1, none)) rfl rfl (fun w' hS => val_extract rfl rfl) ?_
    refine yS (by kernel_rfl : opAt F5.o5 5 = some (some 5, .assign (.tmp 30), none)) rfl rfl (fun w' hS => val_assign rfl) ?_
    refine yS (by kernel_rfl : opAt F5.o5 6 = some (some 6, .assign (.tmp 31), none)) rfl rfl (fun w' hS => val_assign rfl) ?_
    refine Sch.nil ?_
    refine run_seq (x := F5.c17) (y := F5.c18) (by kernel_rfl) ?_
    refine run_plain (id := 6) (ops := F5.o6) [(0, true), (1, false), (2, true), (3, true), (4, true), (5, true), (6, true)] (by kernel_rfl) (by kernel_rfl) ?_
    refine yS (by kernel_rfl : opAt F5.o6 0 = some (some 33, .move (.tmp 4), none)) rfl rfl (fun w' hS => val_move rfl) ?_
    refine cS (by kernel_rfl : opAt F5.o6 1 = some (some 34, .call { callee := .value (.func 24), args := #[(.tmp 33)], argTypes := #[23] }, none)) rfl rfl (ent Try.call24 rfl) (split_ok hF hb (by omega)) ?_
    rintro vw8 w8 ⟨us, rfl, hs, hsp⟩
    refine ⟨trivial, ?_⟩
    replace hF := hF.st hs
    replace hT := hT.trans hs (by simp)
    replace hl := hl.st hs (by first | decide | (simp <;> omega))
    replace hd := hd.st hs (by first | decide | (simp <;> omega)) (by first | decide | (simp <;> omega))
    replace hb := hb.st hs (by first | decide | (simp <;> omega))
    replace hp := hp.st hs (by first | decide | (simp <;> omega))
    rw [if_pos hck] at hsp
    rw [hck]
    refine yS (by kernel_rfl : opAt F5.o6 2 = some (some 32, .move (.tmp 34), none)) rfl rfl (fun w' hS => val_move rfl) ?_
    refine yS (by kernel_rfl : opAt F5.o6 3 = some (some 35, .extract (.tmp 32) 0, none)) rfl rfl (fun w' hS => val_extract rfl rfl) ?_
    refine yS (by kernel_rfl : opAt F5.o6 4 = some (some 36, .extract (.tmp 32) 1, none)) rfl rfl (fun w' hS => val_extract rfl rfl) ?_
    refine yS (by kernel_rfl : opAt F5.o6 5 = some (some 7, .assign (.tmp 35), none)) rfl rfl (fun w' hS => val_assign rfl) ?_
    refine yS (by kernel_rfl : opAt F5.o6 6 = some (some 8, .assign (.tmp 36), none)) rfl rfl (fun w' hS => val_assign rfl) ?_
    refine Sch.nil ?_
    refine run_seq (x := F5.c19) (y := F5.c26) (by kernel_rfl) ?_
    refine run_seq (x := F5.c20) (y := F5.c21) (by kernel_rfl) ?_
    refine run_plain (id := 7) (ops := F5.o7) [(0, true), (1, true), (2, true), (3, true), (4, true), (5, true), (6, true), (7, true), (8, true), (9, true), (10, true), (11, true), (12, true)] (by kernel_rfl) (by kernel_rfl) ?_
    have hsl := splitS_len bl
    refine yS (by kernel_rfl : opAt F5.o7 0 = some (some 37, .move (.tmp 6), none)) rfl rfl (fun w' hS => val_move rfl) ?_
    refine yS (by kernel_rfl : opAt F5.o7 1 = some (some 38, .binOp .neq 35 (.tmp 37) (.const (.int .i64 0)) 35, none)) rfl rfl (fun w' hS => val_F (val_neq rfl rfl) (fun e => e rfl)) ?_
    refine yS (by kernel_rfl : opAt F5.o7 2 = some (some 39, .move (.tmp 38), none)) rfl rfl (fun w' hS => val_move rfl) ?_
    refine yS (by kernel_rfl : opAt F5.o7 3 = some (some 40, .move (.tmp 8), (some (2, false)))) rfl rfl (fun w' hS => val_move rfl) ?_
    refine yS (by kernel_rfl : opAt F5.o7 4 = some (some 41, .binOp .neq 35 (.tmp 40) (.const (.int .i64 0)) 35, (some (2, false)))) rfl rfl (fun w' hS => val_F (val_neq rfl rfl) (fun e => e rfl)) ?_
    refine yS (by kernel_rfl : opAt F5.o7 5 = some (some 42, .pick (.tmp 39) (.const (.bool true)) (.tmp 41), none)) rfl rfl (fun w' hS => val_pick_f rfl rfl) ?_
    refine yS (by kernel_rfl : opAt F5.o7 6 = some (some 43, .move (.tmp 42), none)) rfl rfl (fun w' hS => val_move rfl) ?_
    refine yS (by kernel_rfl : opAt F5.o7 7 = some (some 44, .move (.tmp 5), (some (6, false)))) rfl rfl (fun w' hS => val_move rfl) ?_
    refine yS (by kernel_rfl : opAt F5.o7 8 = some (some 45, .call { callee := .builtin .len, args := #[(.tmp 44)], argTypes := #[26] }, (some (6, false)))) rfl rfl (fun w' hS => hp.lenV rfl Try.underlying26 w' ) ?_
    refine yS (by kernel_rfl : opAt F5.o7 9 = some (some 46, .move (.tmp 7), (some (6, false)))) rfl rfl (fun w' hS => val_move rfl) ?_
    refine yS (by kernel_rfl : opAt F5.o7 10 = some (some 47, .call { callee := .builtin .len, args := #[(.tmp 46)], argTypes := #[34] }, (some (6, false)))) rfl rfl (fun w' hS => hsp.lenV rfl Try.underlying34 w' ) ?_
    refine yS (by kernel_rfl : opAt F5.o7 11 = some (some 48, .binOp .neq 3 (.tmp 45) (.tmp 47) 3, (some (6, false)))) rfl rfl (fun w' hS => val_F (val_neq rfl rfl) (by omega)) ?_
    refine yS (by kernel_rfl : opAt F5.o7 12 = some (some 49, .pick (.tmp 43) (.const (.bool true)) (.tmp 48), none)) rfl rfl (fun w' hS => val_pick_f rfl rfl) ?_
    refine Sch.nil ?_
    refine run_cond (x := F5.c22) (y := F5.c25) (o := .tmp 49) (b := false) (by kernel_rfl) rfl (fun h => by cases h) (fun _ => ?_)
    refine run_skip (by kernel_rfl) ?_
    refine run_seq (x := F5.c27) (y := F5.c28) (by kernel_rfl) ?_
    refine run_plain (id := 9) (ops := F5.o9) [(0, true), (1, true)] (by kernel_rfl) (by kernel_rfl) ?_
    refine yS (by kernel_rfl : opAt F5.o9 0 = some (some 9, .assign (.const (.int .i64 0)), none)) rfl rfl (fun w' hS => val_assign rfl) ?_
    refine yS (by kernel_rfl : opAt F5.o9 1 = some (some 10, .assign (.const (.int .i64 0)), none)) rfl rfl (fun w' hS => val_assign rfl) ?_
    refine Sch.nil ?_
    refine run_seq (x := F5.c29) (y := F5.c55) (by kernel_rfl) ?_
    refine run_seq (x := F5.c30) (y := F5.c31) (by kernel_rfl) ?_
    refine run_plain (id := 10) (ops := F5.o10) [(0, true), (1, true), (2, true)] (by kernel_rfl) (by kernel_rfl) ?_
    refine yS (by kernel_rfl : opAt F5.o10 0 = some (some 50, .move (.tmp 5), none)) rfl rfl (fun w' hS => val_move rfl) ?_
    refine yS (by kernel_rfl : opAt F5.o10 1 = some (some 51, .call { callee := .builtin .len, args := #[(.tmp 50)], argTypes := #[26] }, none)) rfl rfl (fun w' hS => hp.lenV rfl Try.underlying26 w' ) ?_
    refine yS (by kernel_rfl : opAt F5.o10 2 = some (some 52, .move (.const (.int .i64 0)), none)) rfl rfl (fun w' hS => val_move rfl) ?_
    refine Sch.nil ?_
    refine run_block (x := F5.c32) (id := 0) (by kernel_rfl) ?_
    
    refine run_loop (ι := Nat × (Nat → Nat)) (I := fun x w => x.1 ≤ (partsS bl).length ∧ Lim w x.2 ∧ Stp [2, 3, 4, 5, 6, 7, 8, 9] w₀ (col1 C) w x.2 ∧ RV w (Mc x.2) bl vb ∧ RV w (Mc x.2) (partsS bl) u ∧ RV w (Mc x.2) (splitS bl) us) (e := fun x => [(4, vb), (5, u), (7, us), (9, .int .i64 (sumLen (partsS bl) x.1 : Nat)), (10, .int .i64 (sumLen (splitS bl) x.1 : Nat)), (51, .int .i64 (partsS bl).length), (52, .int .i64 x.1)]) (m := fun x => (partsS bl).length - x.1) (x₀ := (0, Cd)) (body := F5.c33) (by kernel_rfl) (sub_cons 4 rfl rfl (sub_cons 5 rfl rfl (sub_cons 7 rfl rfl (sub_cons 9 rfl rfl (sub_cons 10 rfl rfl (sub_cons 51 rfl rfl (sub_cons 52 rfl rfl (sub_nil _)))))))) ?_ ?_
    · exact ⟨Nat.zero_le _, hF, hT, hb, hp, hsp⟩
    intro ⟨k, C1⟩ w9 hI next
    obtain ⟨hk, hF, hT, hb, hp, hsp⟩ := hI
    try simp only at hk hF hT hb hp hsp
    have next1 := next
    clear next
    show Run _ _ _ _ [(4, vb), (5, u), (7, us), (9, .int .i64 (sumLen (partsS bl) k : Nat)), (10, .int .i64 (sumLen (splitS bl) k : Nat)), (51, .int .i64 (partsS bl).length), (52, .int .i64 k)] _ _
    have hs1 := sumLen_le (partsS bl) k
    have hs2 := sumLen_le (splitS bl) k
    rw [parts_sum] at hs1
    rw [split_sum] at hs2
    refine run_seq (x := F5.c34) (y := F5.c35) (by kernel_rfl) ?_
    refine run_plain (id := 11) (ops := F5.o11) [(0, true)] (by kernel_rfl) (by kernel_rfl) ?_
    refine yS (by kernel_rfl : opAt F5.o11 0 = some (some 53, .binOp .lss 3 (.tmp 52) (.tmp 51) 3, none)) rfl rfl (fun w' hS => val_lss rfl rfl) ?_
    refine Sch.nil ?_
    refine run_seq (x := F5.c36) (y := F5.c39) (by kernel_rfl) ?_
    refine run_if (x := F5.c37) (y := F5.c38) (o := .tmp 53) (by kernel_rfl) rfl (fun h53 => ?_) (fun h53 => ?_)
    · skip
      have hkl : k < (partsS bl).length := by omega
      have hkl2 : k < (splitS bl).length := by omega
      have hn1 := sumLen_succ hkl
      have hn2 := sumLen_succ hkl2
      have hm1 := sumLen_le (partsS bl) (k + 1)
      have hm2 := sumLen_le (splitS bl) (k + 1)
      rw [parts_sum] at hm1
      rw [split_sum] at hm2
      refine run_skip (by kernel_rfl) ?_
      refine run_seq (x := F5.c40) (y := F5.c54) (by kernel_rfl) ?_
      refine run_block (x := F5.c41) (id := 1) (by kernel_rfl) ?_
      refine run_seq (x := F5.c42) (y := F5.c43) (by kernel_rfl) ?_
      refine run_plain (id := 12) (ops := F5.o12) [(0, true), (1, true)] (by kernel_rfl) (by kernel_rfl) ?_
      refine yS (by kernel_rfl : opAt F5.o12 0 = some (some 54, .move (.tmp 52), none)) rfl rfl (fun w' hS => val_move rfl) ?_
      refine yS (by kernel_rfl : opAt F5.o12 1 = some (some 11, .assign (.tmp 54), none)) rfl rfl (fun w' hS => val_assign rfl) ?_
      refine Sch.nil ?_
      refine run_seq (x := F5.c44) (y := F5.c45) (by kernel_rfl) ?_
      refine run_plain (id := 13) (ops := F5.o13) [(0, true), (1, true), (2, true), (3, true), (4, false), (5, true), (6, true), (7, true)] (by kernel_rfl) (by kernel_rfl) ?_
      refine yS (by kernel_rfl : opAt F5.o13 0 = some (some 55, .move (.tmp 9), none)) rfl rfl (fun w' hS => val_move rfl) ?_
      refine yS (by kernel_rfl : opAt F5.o13 1 = some (some 56, .move (.tmp 5), none)) rfl rfl (fun w' hS => val_move rfl) ?_
      refine yS (by kernel_rfl : opAt F5.o13 2 = some (some 57, .move (.tmp 11), none)) rfl rfl (fun w' hS => val_move rfl) ?_
      refine iS (e := 38) (by kernel_rfl : opAt F5.o13 3 = some (some 58, .indexAddr 26 (.tmp 56) (.tmp 57), none)) rfl rfl hp rfl (by kernel_rfl) rfl (by omega) (by omega) ?_
      intro b58 o58 h58
      try simp only [Int.toNat_natCast] at h58
      refine lN (by kernel_rfl : opAt F5.o13 4 = some (some 59, .load 38 (.tmp 58), none)) rfl rfl trivial h58 (by kernel_rfl) rfl rfl ?_
      intro v59 g59
      refine yS (by kernel_rfl : opAt F5.o13 5 = some (some 60, .call { callee := .builtin .len, args := #[(.tmp 59)], argTypes := #[38] }, none)) rfl rfl (fun w' hS => g59.lenV rfl Try.underlying38 w' ) ?_
      refine yS (by kernel_rfl : opAt F5.o13 6 = some (some 61, .binOp .add 3 (.tmp 55) (.tmp 60) 3, none)) rfl rfl (fun w' hS => val_addi rfl rfl (by omega) (by omega)) ?_
      refine yS (by kernel_rfl : opAt F5.o13 7 = some (some 9, .assign (.tmp 61), none)) rfl rfl (fun w' hS => val_assign rfl) ?_
      refine Sch.nil ?_
      refine run_seq (x := F5.c46) (y := F5.c47) (by kernel_rfl) ?_
      refine run_plain (id := 14) (ops := F5.o14) [(0, true), (1, true), (2, true), (3, true), (4, false), (5, true), (6, true), (7, true)] (by kernel_rfl) (by kernel_rfl) ?_
      refine yS (by kernel_rfl : opAt F5.o14 0 = some (some 62, .move (.tmp 10), none)) rfl rfl (fun w' hS => val_move rfl) ?_
      refine yS (by kernel_rfl : opAt F5.o14 1 = some (some 63, .move (.tmp 7), none)) rfl rfl (fun w' hS => val_move rfl) ?_
      refine yS (by kernel_rfl : opAt F5.o14 2 = some (some 64, .move (.tmp 11), none)) rfl rfl (fun w' hS => val_move rfl) ?_
      refine iS (e := 23) (by kernel_rfl : opAt F5.o14 3 = some (some 65, .indexAddr 34 (.tmp 63) (.tmp 64), none)) rfl rfl hsp rfl (by kernel_rfl) rfl (by omega) (by omega) ?_
      intro b65 o65 h65
      try simp only [Int.toNat_natCast] at h65
      refine lN (by kernel_rfl : opAt F5.o14 4 = some (some 66, .load 23 (.tmp 65), none)) rfl rfl trivial h65 (by kernel_rfl) rfl rfl ?_
      intro v66 g66
      refine yS (by kernel_rfl : opAt F5.o14 5 = some (some 67, .call { callee := .builtin .len, args := #[(.tmp 66)], argTypes := #[23] }, none)) rfl rfl (fun w' hS => g66.lenV rfl Try.underlying23 w' ) ?_
      refine yS (by kernel_rfl : opAt F5.o14 6 = some (some 68, .binOp .add 3 (.tmp 62) (.tmp 67) 3, none)) rfl rfl (fun w' hS => val_addi rfl rfl (by omega) (by omega)) ?_
      refine yS (by kernel_rfl : opAt F5.o14 7 = some (some 10, .assign (.tmp 68), none)) rfl rfl (fun w' hS => val_assign rfl) ?_
      refine Sch.nil ?_
      refine run_seq (x := F5.c48) (y := F5.c49) (by kernel_rfl) ?_
      by_cases hA : (0 : Int) < k
      · skip
        refine run_draw (id := 15) (ops := F5.o15) [] (C1) [(0, true), (1, true), (2, true), (3, true), (5, true), (6, true), (7, true), (8, true), (4, false), (9, false), (10, true), (11, true), (12, true), (13, true), (14, true), (15, true), (16, false), (17, true), (18, true), (19, true), (20, true), (21, true), (22, true), (23, true), (24, true), (25, true), (26, true), (27, true), (28, true), (29, true), (30, true), (31, true), (32, true), (33, true), (34, true), (35, true), (36, false), (37, true), (38, true), (39, true)] Try_mixed (by kernel_rfl) (by kernel_rfl) (by kernel_rfl) ?_
        intro w10 hs
        replace hF := hF.st hs
        replace hT := hT.trans hs (by simp)
        replace hb := hb.st hs (by first | decide | (simp <;> omega))
        replace hp := hp.st hs (by first | decide | (simp <;> omega))
        replace hsp := hsp.st hs (by first | decide | (simp <;> omega))
        replace h58 := h58.st hs (by first | decide | (simp <;> omega))
        replace g59 := g59.st hs (by first | decide | (simp <;> omega))
        replace h65 := h65.st hs (by first | decide | (simp <;> omega))
        replace g66 := g66.st hs (by first | decide | (simp <;> omega))
        have hR := Stp.refl [] w10 (C1)
        have hsl1 : ((splitS bl)[k]'hkl2).length ≤ bl.length := by rw [splitS_get]; exact List.length_filter_le _ _
        have hsr := split_refs hkl2 hkl
        have hsv := (split_vld hbv hkl2).check
        have hp0 := hp
        have hsp0 := hsp
        obtain ⟨hq1, hq2, hlt⟩ := heads_rise (l := bl) (i := k) (by omega) hkl
        refine yS (by kernel_rfl : opAt F5.o15 0 = some (some 69, .move (.tmp 7), none)) rfl rfl (fun w' hS => val_move rfl) ?_
        refine yS (by kernel_rfl : opAt F5.o15 1 = some (some 70, .move (.tmp 11), none)) rfl rfl (fun w' hS => val_move rfl) ?_
        refine iS (e := 23) (by kernel_rfl : opAt F5.o15 2 = some (some 71, .indexAddr 34 (.tmp 69) (.tmp 70), none)) rfl rfl hsp0 rfl (by kernel_rfl) rfl (by omega) (by omega) ?_
        intro b71 o71 h71
        try simp only [Int.toNat_natCast] at h71
        refine lS (by kernel_rfl : opAt F5.o15 3 = some (some 72, .load 23 (.tmp 71), none)) rfl rfl (fun w' hS => h71.stay hS (by decide)) h71 (by kernel_rfl) rfl rfl ?_
        intro v72 g72
        refine yS (by kernel_rfl : opAt F5.o15 5 = some (some 74, .move (.tmp 5), none)) rfl rfl (fun w' hS => val_move rfl) ?_
        refine yS (by kernel_rfl : opAt F5.o15 6 = some (some 75, .move (.tmp 11), none)) rfl rfl (fun w' hS => val_move rfl) ?_
        refine iS (e := 38) (by kernel_rfl : opAt F5.o15 7 = some (some 76, .indexAddr 26 (.tmp 74) (.tmp 75), none)) rfl rfl hp0 rfl (by kernel_rfl) rfl (by omega) (by omega) ?_
        intro b76 o76 h76
        try simp only [Int.toNat_natCast] at h76
        refine lS (by kernel_rfl : opAt F5.o15 8 = some (some 77, .load 38 (.tmp 76), none)) rfl rfl (fun w' hS => h76.stay hS (by decide)) h76 (by kernel_rfl) rfl rfl ?_
        intro v77 g77
        refine cS (by kernel_rfl : opAt F5.o15 4 = some (some 73, .call { callee := .value (.func 17), args := #[(.tmp 72)], argTypes := #[23] }, none)) rfl rfl (ent Try.call17 rfl) (refs_ok hF g72 (by omega)) ?_
        rintro vR w11 ⟨hs, hrs⟩
        refine ⟨(hR.trans hs (by simp)).ext, ?_⟩
        replace hF := hF.st hs
        replace hT := hT.trans hs (by simp)
        replace hb := hb.st hs (by first | decide | (simp <;> omega))
        replace hp := hp.st hs (by first | decide | (simp <;> omega))
        replace hsp := hsp.st hs (by first | decide | (simp <;> omega))
        replace h58 := h58.st hs (by first | decide | (simp <;> omega))
        replace g59 := g59.st hs (by first | decide | (simp <;> omega))
        replace h65 := h65.st hs (by first | decide | (simp <;> omega))
        replace g66 := g66.st hs (by first | decide | (simp <;> omega))
        replace hR := hR.trans hs (by simp)
        replace h71 := h71.st hs (by first | decide | (simp <;> omega))
        replace g72 := g72.st hs (by first | decide | (simp <;> omega))
        replace h76 := h76.st hs (by first | decide | (simp <;> omega))
        replace g77 := g77.st hs (by first | decide | (simp <;> omega))
        rw [hsr] at hrs
        refine cS (by kernel_rfl : opAt F5.o15 9 = some (some 78, .call { callee := .value (.func 16), args := #[(.tmp 73), (.tmp 77)], argTypes := #[38, 38] }, none)) rfl rfl (ent Try.call16 rfl) (sameRefs_ok hF hrs g77) ?_
        rintro vw12 w12 ⟨rfl, hs⟩
        refine ⟨(hR.trans hs (by simp)).ext, ?_⟩
        replace hF := hF.st hs
        replace hT := hT.trans hs (by simp)
        replace hb := hb.st hs (by first | decide | (simp <;> omega))
        replace hp := hp.st hs (by first | decide | (simp <;> omega))
        replace hsp := hsp.st hs (by first | decide | (simp <;> omega))
        replace h58 := h58.st hs (by first | decide | (simp <;> omega))
        replace g59 := g59.st hs (by first | decide | (simp <;> omega))
        replace h65 := h65.st hs (by first | decide | (simp <;> omega))
        replace g66 := g66.st hs (by first | decide | (simp <;> omega))
        replace hR := hR.trans hs (by simp)
        replace h71 := h71.st hs (by first | decide | (simp <;> omega))
        replace g72 := g72.st hs (by first | decide | (simp <;> omega))
        replace h76 := h76.st hs (by first | decide | (simp <;> omega))
        replace g77 := g77.st hs (by first | decide | (simp <;> omega))
        replace hrs := hrs.st hs (by first | decide | (simp <;> omega))
        refine yS (by kernel_rfl : opAt F5.o15 10 = some (some 79, .unOp .not 4 (.tmp 78), none)) rfl rfl (fun w' hS => val_not rfl) ?_
        refine yS (by kernel_rfl : opAt F5.o15 11 = some (some 80, .move (.tmp 79), none)) rfl rfl (fun w' hS => val_move rfl) ?_
        refine yS (by kernel_rfl : opAt F5.o15 12 = some (some 81, .move (.tmp 7), (some (11, false)))) rfl rfl (fun w' hS => val_move rfl) ?_
        refine yS (by kernel_rfl : opAt F5.o15 13 = some (some 82, .move (.tmp 11), (some (11, false)))) rfl rfl (fun w' hS => val_move rfl) ?_
        refine iS (e := 23) (by kernel_rfl : opAt F5.o15 14 = some (some 83, .indexAddr 34 (.tmp 81) (.tmp 82), (some (11, false)))) rfl rfl hsp0 rfl (by kernel_rfl) rfl (by omega) (by omega) ?_
        intro b83 o83 h83
        try simp only [Int.toNat_natCast] at h83
        refine lS (by kernel_rfl : opAt F5.o15 15 = some (some 84, .load 23 (.tmp 83), (some (11, false)))) rfl rfl (fun w' hS => h83.stay hS (by decide)) h83 (by kernel_rfl) rfl rfl ?_
        intro v84 g84
        replace g84 := g84.st hR (by decide)
        refine cS (by kernel_rfl : opAt F5.o15 16 = some (some 85, .call { callee := .value (.func 14), args := #[(.tmp 84)], argTypes := #[23] }, (some (11, false)))) rfl rfl (ent Try.call14 rfl) (check_ok hF g84) ?_
        rintro vw13 w13 ⟨rfl, hs⟩
        refine ⟨(hR.trans hs (by simp)).ext, ?_⟩
        replace hF := hF.st hs
        replace hT := hT.trans hs (by simp)
        replace hb := hb.st hs (by first | decide | (simp <;> omega))
        replace hp := hp.st hs (by first | decide | (simp <;> omega))
        replace hsp := hsp.st hs (by first | decide | (simp <;> omega))
        replace h58 := h58.st hs (by first | decide | (simp <;> omega))
        replace g59 := g59.st hs (by first | decide | (simp <;> omega))
        replace h65 := h65.st hs (by first | decide | (simp <;> omega))
        replace g66 := g66.st hs (by first | decide | (simp <;> omega))
        replace hR := hR.trans hs (by simp)
        replace h71 := h71.st hs (by first | decide | (simp <;> omega))
        replace g72 := g72.st hs (by first | decide | (simp <;> omega))
        replace h76 := h76.st hs (by first | decide | (simp <;> omega))
        replace g77 := g77.st hs (by first | decide | (simp <;> omega))
        replace hrs := hrs.st hs (by first | decide | (simp <;> omega))
        replace g84 := g84.st hs (by first | decide | (simp <;> omega))
        rw [hsv]
        refine yS (by kernel_rfl : opAt F5.o15 17 = some (some 86, .binOp .neq 35 (.tmp 85) (.const (.int .i64 0)) 35, (some (11, false)))) rfl rfl (fun w' hS => val_F (val_neq rfl rfl) (fun e => e rfl)) ?_
        refine yS (by kernel_rfl : opAt F5.o15 18 = some (some 87, .pick (.tmp 80) (.const (.bool true)) (.tmp 86), none)) rfl rfl (fun w' hS => val_pick_f rfl rfl) ?_
        refine yS (by kernel_rfl : opAt F5.o15 19 = some (some 88, .move (.tmp 87), none)) rfl rfl (fun w' hS => val_move rfl) ?_
        refine yS (by kernel_rfl : opAt F5.o15 20 = some (some 89, .move (.tmp 11), (some (19, false)))) rfl rfl (fun w' hS => val_move rfl) ?_
        refine yS (by kernel_rfl : opAt F5.o15 21 = some (some 90, .binOp .gtr 3 (.tmp 89) (.const (.int .i64 0)) 3, (some (19, false)))) rfl rfl (fun w' hS => val_T (val_gtr rfl rfl) hA) ?_
        refine yS (by kernel_rfl : opAt F5.o15 22 = some (some 91, .move (.tmp 90), (some (19, false)))) rfl rfl (fun w' hS => val_move rfl) ?_
        refine yS (by kernel_rfl : opAt F5.o15 23 = some (some 92, .move (.tmp 5), (some (22, true)))) rfl rfl (fun w' hS => val_move rfl) ?_
        refine yS (by kernel_rfl : opAt F5.o15 24 = some (some 93, .move (.tmp 11), (some (22, true)))) rfl rfl (fun w' hS => val_move rfl) ?_
        refine yS (by kernel_rfl : opAt F5.o15 25 = some (some 94, .binOp .sub 3 (.tmp 93) (.const (.int .i64 1)) 3, (some (22, true)))) rfl rfl (fun w' hS => val_subi rfl rfl (by omega) (by omega)) ?_
        refine iS (e := 38) (by kernel_rfl : opAt F5.o15 26 = some (some 95, .indexAddr 26 (.tmp 92) (.tmp 94), (some (22, true)))) rfl rfl hp0 rfl (by kernel_rfl) rfl (by omega) (by omega) ?_
        intro b95 o95 h95
        try simp only [Int.toNat_natCast] at h95
        have ek1 : ((k : Int) - 1).toNat = k - 1 := by omega
        try simp only [ek1] at h95
        refine lS (by kernel_rfl : opAt F5.o15 27 = some (some 96, .load 38 (.tmp 95), (some (22, true)))) rfl rfl (fun w' hS => h95.stay hS (by decide)) h95 (by kernel_rfl) rfl rfl ?_
        intro v96 g96
        try simp only [ek1] at g96
        refine iS (e := 25) (by kernel_rfl : opAt F5.o15 28 = some (some 97, .indexAddr 38 (.tmp 96) (.const (.int .i64 0)), (some (22, true)))) rfl rfl g96 rfl (by kernel_rfl) rfl (by omega) (by omega) ?_
        intro b97 o97 h97
        try simp only [Int.toNat_natCast] at h97
        try simp only [show (0 : Int).toNat = 0 from rfl] at h97
        refine lSA (by kernel_rfl : opAt F5.o15 29 = some (some 98, .load 25 (.tmp 97), (some (22, true)))) rfl rfl (fun w' hS => h97.stay hS (by decide)) h97 (by kernel_rfl) (by kernel_rfl) rfl rfl ?_
        intro v98 g98
        obtain rfl := rv_couple.1 g98
        refine yS (by kernel_rfl : opAt F5.o15 30 = some (some 99, .move (.tmp 5), (some (22, true)))) rfl rfl (fun w' hS => val_move rfl) ?_
        refine yS (by kernel_rfl : opAt F5.o15 31 = some (some 100, .move (.tmp 11), (some (22, true)))) rfl rfl (fun w' hS => val_move rfl) ?_
        refine iS (e := 38) (by kernel_rfl : opAt F5.o15 32 = some (some 101, .indexAddr 26 (.tmp 99) (.tmp 100), (some (22, true)))) rfl rfl hp0 rfl (by kernel_rfl) rfl (by omega) (by omega) ?_
        intro b101 o101 h101
        try simp only [Int.toNat_natCast] at h101
        refine lS (by kernel_rfl : opAt F5.o15 33 = some (some 102, .load 38 (.tmp 101), (some (22, true)))) rfl rfl (fun w' hS => h101.stay hS (by decide)) h101 (by kernel_rfl) rfl rfl ?_
        intro v102 g102
        refine iS (e := 25) (by kernel_rfl : opAt F5.o15 34 = some (some 103, .indexAddr 38 (.tmp 102) (.const (.int .i64 0)), (some (22, true)))) rfl rfl g102 rfl (by kernel_rfl) rfl (by omega) (by omega) ?_
        intro b103 o103 h103
        try simp only [Int.toNat_natCast] at h103
        try simp only [show (0 : Int).toNat = 0 from rfl] at h103
        refine lSA (by kernel_rfl : opAt F5.o15 35 = some (some 104, .load 25 (.tmp 103), (some (22, true)))) rfl rfl (fun w' hS => h103.stay hS (by decide)) h103 (by kernel_rfl) (by kernel_rfl) rfl rfl ?_
        intro v104 g104
        obtain rfl := rv_couple.1 g104
        refine cS (by kernel_rfl : opAt F5.o15 36 = some (some 105, .call { callee := .value (.func 27), args := #[(.tmp 98), (.tmp 104)], argTypes := #[25, 25] }, (some (22, true)))) rfl rfl (ent Try.call27 rfl) (less30_ok (x := ((partsS bl)[k - 1]'(by omega))[0]) (y := ((partsS bl)[k])[0]) hF) ?_
        rintro vw14 w14 ⟨rfl, hs⟩
        rw [decide_eq_true hlt]
        refine ⟨(hR.trans hs (by simp)).ext, ?_⟩
        replace hF := hF.st hs
        replace hT := hT.trans hs (by simp)
        replace hb := hb.st hs (by first | decide | (simp <;> omega))
        replace hp := hp.st hs (by first | decide | (simp <;> omega))
        replace hsp := hsp.st hs (by first | decide | (simp <;> omega))
        replace h58 := h58.st hs (by first | decide | (simp <;> omega))
        replace g59 := g59.st hs (by first | decide | (simp <;> omega))
        replace h65 := h65.st hs (by first | decide | (simp <;> omega))
        replace g66 := g66.st hs (by first | decide | (simp <;> omega))
        replace hR := hR.trans hs (by simp)
        replace h71 := h71.st hs (by first | decide | (simp <;> omega))
        replace g72 := g72.st hs (by first | decide | (simp <;> omega))
        replace h76 := h76.st hs (by first | decide | (simp <;> omega))
        replace g77 := g77.st hs (by first | decide | (simp <;> omega))
        replace hrs := hrs.st hs (by first | decide | (simp <;> omega))
        replace g84 := g84.st hs (by first | decide | (simp <;> omega))
        refine yS (by kernel_rfl : opAt F5.o15 37 = some (some 106, .unOp .not 4 (.tmp 105), (some (22, true)))) rfl rfl (fun w' hS => val_not rfl) ?_
        refine yS (by kernel_rfl : opAt F5.o15 38 = some (some 107, .pick (.tmp 91) (.tmp 106) (.const (.bool false)), (some (19, false)))) rfl rfl (fun w' hS => val_pick_t rfl rfl) ?_
        refine yS (by kernel_rfl : opAt F5.o15 39 = some (some 108, .pick (.tmp 88) (.const (.bool true)) (.tmp 107), none)) rfl rfl (fun w' hS => val_pick_f rfl rfl) ?_
        refine Sch.nil ?_
        refine run_cond (x := F5.c50) (y := F5.c53) (o := .tmp 108) (b := false) (by kernel_rfl) rfl (fun h => by cases h) (fun _ => ?_)
        refine run_skip (by kernel_rfl) ?_
        refine run_inBlock ?_
        refine run_plain (id := 17) (ops := F5.o17) [(0, true), (1, true)] (by kernel_rfl) (by kernel_rfl) ?_
        refine yS (by kernel_rfl : opAt F5.o17 0 = some (some 109, .binOp .add 3 (.tmp 52) (.const (.int .i64 1)) 3, none)) rfl rfl (fun w' hS => val_addi rfl rfl (by omega) (by omega)) ?_
        refine yS (by kernel_rfl : opAt F5.o17 1 = some (some 52, .move (.tmp 109), none)) rfl rfl (fun w' hS => val_move rfl) ?_
        refine Sch.nil ?_
        refine kp (sub_cons 4 rfl rfl (sub_cons 5 rfl rfl (sub_cons 7 rfl rfl (sub_cons 9 rfl (eq_int (by simp only; rw [hn1]; simp)) (sub_cons 10 rfl (eq_int (by simp only; rw [hn2]; simp)) (sub_cons 51 rfl rfl (sub_cons 52 rfl (eq_int (by simp)) (sub_nil _)))))))) (next1 (k + 1, C1) _ ⟨(by first | omega | (simp only; omega)), hF, hT, hb, hp, hsp⟩ (by first | omega | (simp only; omega)))
      · skip
        refine run_draw (id := 15) (ops := F5.o15) [] (C1) [(0, true), (1, true), (2, true), (3, true), (5, true), (6, true), (7, true), (8, true), (4, false), (9, false), (10, true), (11, true), (12, true), (13, true), (14, true), (15, true), (16, false), (17, true), (18, true), (19, true), (20, true), (21, true), (22, true), (23, true), (24, true), (25, true), (26, true), (27, true), (28, true), (29, true), (30, true), (31, true), (32, true), (33, true), (34, true), (35, true), (36, false), (37, true), (38, true), (39, true)] Try_mixed (by kernel_rfl) (by kernel_rfl) (by kernel_rfl) ?_
        intro w15 hs
        replace hF := hF.st hs
        replace hT := hT.trans hs (by simp)
        replace hb := hb.st hs (by first | decide | (simp <;> omega))
        replace hp := hp.st hs (by first | decide | (simp <;> omega))
        replace hsp := hsp.st hs (by first | decide | (simp <;> omega))
        replace h58 := h58.st hs (by first | decide | (simp <;> omega))
        replace g59 := g59.st hs (by first | decide | (simp <;> omega))
        replace h65 := h65.st hs (by first | decide | (simp <;> omega))
        replace g66 := g66.st hs (by first | decide | (simp <;> omega))
        have hR := Stp.refl [] w15 (C1)
        have hsl1 : ((splitS bl)[k]'hkl2).length ≤ bl.length := by rw [splitS_get]; exact List.length_filter_le _ _
        have hsr := split_refs hkl2 hkl
        have hsv := (split_vld hbv hkl2).check
        have hp0 := hp
        have hsp0 := hsp
        refine yS (by kernel_rfl : opAt F5.o15 0 = some (some 69, .move (.tmp 7), none)) rfl rfl (fun w' hS => val_move rfl) ?_
        refine yS (by kernel_rfl : opAt F5.o15 1 = some (some 70, .move (.tmp 11), none)) rfl rfl (fun w' hS => val_move rfl) ?_
        refine iS (e := 23) (by kernel_rfl : opAt F5.o15 2 = some (some 71, .indexAddr 34 (.tmp 69) (.tmp 70), none)) rfl rfl hsp0 rfl (by kernel_rfl) rfl (by omega) (by omega) ?_
        intro b71 o71 h71
        try simp only [Int.toNat_natCast] at h71
        refine lS (by kernel_rfl : opAt F5.o15 3 = some (some 72, .load 23 (.tmp 71), none)) rfl rfl (fun w' hS => h71.stay hS (by decide)) h71 (by kernel_rfl) rfl rfl ?_
        intro v72 g72
        refine yS (by kernel_rfl : opAt F5.o15 5 = some (some 74, .move (.tmp 5), none)) rfl rfl (fun w' hS => val_move rfl) ?_
        refine yS (by kernel_rfl : opAt F5.o15 6 = some (some 75, .move (.tmp 11), none)) rfl rfl (fun w' hS => val_move rfl) ?_
        refine iS (e := 38) (by kernel_rfl : opAt F5.o15 7 = some (some 76, .indexAddr 26 (.tmp 74) (.tmp 75), none)) rfl rfl hp0 rfl (by kernel_rfl) rfl (by omega) (by omega) ?_
        intro b76 o76 h76
        try simp only [Int.toNat_natCast] at h76
        refine lS (by kernel_rfl : opAt F5.o15 8 = some (some 77, .load 38 (.tmp 76), none)) rfl rfl (fun w' hS => h76.stay hS (by decide)) h76 (by kernel_rfl) rfl rfl ?_
        intro v77 g77
        refine cS (by kernel_rfl : opAt F5.o15 4 = some (some 73, .call { callee := .value (.func 17), args := #[(.tmp 72)], argTypes := #[23] }, none)) rfl rfl (ent Try.call17 rfl) (refs_ok hF g72 (by omega)) ?_
        rintro vR w16 ⟨hs, hrs⟩
        refine ⟨(hR.trans hs (by simp)).ext, ?_⟩
        replace hF := hF.st hs
        replace hT := hT.trans hs (by simp)
        replace hb := hb.st hs (by first | decide | (simp <;> omega))
        replace hp := hp.st hs (by first | decide | (simp <;> omega))
        replace hsp := hsp.st hs (by first | decide | (simp <;> omega))
        replace h58 := h58.st hs (by first | decide | (simp <;> omega))
        replace g59 := g59.st hs (by first | decide | (simp <;> omega))
        replace h65 := h65.st hs (by first | decide | (simp <;> omega))
        replace g66 := g66.st hs (by first | decide | (simp <;> omega))
        replace hR := hR.trans hs (by simp)
        replace h71 := h71.st hs (by first | decide | (simp <;> omega))
        replace g72 := g72.st hs (by first | decide | (simp <;> omega))
        replace h76 := h76.st hs (by first | decide | (simp <;> omega))
        replace g77 := g77.st hs (by first | decide | (simp <;> omega))
        rw [hsr] at hrs
        refine cS (by kernel_rfl : opAt F5.o15 9 = some (some 78, .call { callee := .value (.func 16), args := #[(.tmp 73), (.tmp 77)], argTypes := #[38, 38] }, none)) rfl rfl (ent Try.call16 rfl) (sameRefs_ok hF hrs g77) ?_
        rintro vw17 w17 ⟨rfl, hs⟩
        refine ⟨(hR.trans hs (by simp)).ext, ?_⟩
        replace hF := hF.st hs
        replace hT := hT.trans hs (by simp)
        replace hb := hb.st hs (by first | decide | (simp <;> omega))
        replace hp := hp.st hs (by first | decide | (simp <;> omega))
        replace hsp := hsp.st hs (by first | decide | (simp <;> omega))
        replace h58 := h58.st hs (by first | decide | (simp <;> omega))
        replace g59 := g59.st hs (by first | decide | (simp <;> omega))
        replace h65 := h65.st hs (by first | decide | (simp <;> omega))
        replace g66 := g66.st hs (by first | decide | (simp <;> omega))
        replace hR := hR.trans hs (by simp)
        replace h71 := h71.st hs (by first | decide | (simp <;> omega))
        replace g72 := g72.st hs (by first | decide | (simp <;> omega))
        replace h76 := h76.st hs (by first | decide | (simp <;> omega))
        replace g77 := g77.st hs (by first | decide | (simp <;> omega))
        replace hrs := hrs.st hs (by first | decide | (simp <;> omega))
        refine yS (by kernel_rfl : opAt F5.o15 10 = some (some 79, .unOp .not 4 (.tmp 78), none)) rfl rfl (fun w' hS => val_not rfl) ?_
        refine yS (by kernel_rfl : opAt F5.o15 11 = some (some 80, .move (.tmp 79), none)) rfl rfl (fun w' hS => val_move rfl) ?_
        refine yS (by kernel_rfl : opAt F5.o15 12 = some (some 81, .move (.tmp 7), (some (11, false)))) rfl rfl (fun w' hS => val_move rfl) ?_
        refine yS (by kernel_rfl : opAt F5.o15 13 = some (some 82, .move (.tmp 11), (some (11, false)))) rfl rfl (fun w' hS => val_move rfl) ?_
        refine iS (e := 23) (by kernel_rfl : opAt F5.o15 14 = some (some 83, .indexAddr 34 (.tmp 81) (.tmp 82), (some (11, false)))) rfl rfl hsp0 rfl (by kernel_rfl) rfl (by omega) (by omega) ?_
        intro b83 o83 h83
        try simp only [Int.toNat_natCast] at h83
        refine lS (by kernel_rfl : opAt F5.o15 15 = some (some 84, .load 23 (.tmp 83), (some (11, false)))) rfl rfl (fun w' hS => h83.stay hS (by decide)) h83 (by kernel_rfl) rfl rfl ?_
        intro v84 g84
        replace g84 := g84.st hR (by decide)
        refine cS (by kernel_rfl : opAt F5.o15 16 = some (some 85, .call { callee := .value (.func 14), args := #[(.tmp 84)], argTypes := #[23] }, (some (11, false)))) rfl rfl (ent Try.call14 rfl) (check_ok hF g84) ?_
        rintro vw18 w18 ⟨rfl, hs⟩
        refine ⟨(hR.trans hs (by simp)).ext, ?_⟩
        replace hF := hF.st hs
        replace hT := hT.trans hs (by simp)
        replace hb := hb.st hs (by first | decide | (simp <;> omega))
        replace hp := hp.st hs (by first | decide | (simp <;> omega))
        replace hsp := hsp.st hs (by first | decide | (simp <;> omega))
        replace h58 := h58.st hs (by first | decide | (simp <;> omega))
        replace g59 := g59.st hs (by first | decide | (simp <;> omega))
        replace h65 := h65.st hs (by first | decide | (simp <;> omega))
        replace g66 := g66.st hs (by first | decide | (simp <;> omega))
        replace hR := hR.trans hs (by simp)
        replace h71 := h71.st hs (by first | decide | (simp <;> omega))
        replace g72 := g72.st hs (by first | decide | (simp <;> omega))
        replace h76 := h76.st hs (by first | decide | (simp <;> omega))
        replace g77 := g77.st hs (by first | decide | (simp <;> omega))
        replace hrs := hrs.st hs (by first | decide | (simp <;> omega))
        replace g84 := g84.st hs (by first | decide | (simp <;> omega))
        rw [hsv]
        refine yS (by kernel_rfl : opAt F5.o15 17 = some (some 86, .binOp .neq 35 (.tmp 85) (.const (.int .i64 0)) 35, (some (11, false)))) rfl rfl (fun w' hS => val_F (val_neq rfl rfl) (fun e => e rfl)) ?_
        refine yS (by kernel_rfl : opAt F5.o15 18 = some (some 87, .pick (.tmp 80) (.const (.bool true)) (.tmp 86), none)) rfl rfl (fun w' hS => val_pick_f rfl rfl) ?_
        refine yS (by kernel_rfl : opAt F5.o15 19 = some (some 88, .move (.tmp 87), none)) rfl rfl (fun w' hS => val_move rfl) ?_
        refine yS (by kernel_rfl : opAt F5.o15 20 = some (some 89, .move (.tmp 11), (some (19, false)))) rfl rfl (fun w' hS => val_move rfl) ?_
        refine yS (by kernel_rfl : opAt F5.o15 21 = some (some 90, .binOp .gtr 3 (.tmp 89) (.const (.int .i64 0)) 3, (some (19, false)))) rfl rfl (fun w' hS => val_F (val_gtr rfl rfl) hA) ?_
        refine yS (by kernel_rfl : opAt F5.o15 22 = some (some 91, .move (.tmp 90), (some (19, false)))) rfl rfl (fun w' hS => val_move rfl) ?_
        refine pS (by kernel_rfl : opAt F5.o15 23 = some (some 92, .move (.tmp 5), (some (22, true)))) rfl rfl ?_
        refine pS (by kernel_rfl : opAt F5.o15 24 = some (some 93, .move (.tmp 11), (some (22, true)))) rfl rfl ?_
        refine pS (by kernel_rfl : opAt F5.o15 25 = some (some 94, .binOp .sub 3 (.tmp 93) (.const (.int .i64 1)) 3, (some (22, true)))) rfl rfl ?_
        refine pS (by kernel_rfl : opAt F5.o15 26 = some (some 95, .indexAddr 26 (.tmp 92) (.tmp 94), (some (22, true)))) rfl rfl ?_
        refine pS (by kernel_rfl : opAt F5.o15 27 = some (some 96, .load 38 (.tmp 95), (some (22, true)))) rfl rfl ?_
        refine pS (by kernel_rfl : opAt F5.o15 28 = some (some 97, .indexAddr 38 (.tmp 96) (.const (.int .i64 0)), (some (22, true)))) rfl rfl ?_
        refine pS (by kernel_rfl : opAt F5.o15 29 = some (some 98, .load 25 (.tmp 97), (some (22, true)))) rfl rfl ?_
        refine pS (by kernel_rfl : opAt F5.o15 30 = some (some 99, .move (.tmp 5), (some (22, true)))) rfl rfl ?_
        refine pS (by kernel_rfl : opAt F5.o15 31 = some (some 100, .move (.tmp 11), (some (22, true)))) rfl rfl ?_
        refine pS (by kernel_rfl : opAt F5.o15 32 = some (some 101, .indexAddr 26 (.tmp 99) (.tmp 100), (some (22, true)))) rfl rfl ?_
        refine pS (by kernel_rfl : opAt F5.o15 33 = some (some 102, .load 38 (.tmp 101), (some (22, true)))) rfl rfl ?_
        refine pS (by kernel_rfl : opAt F5.o15 34 = some (some 103, .indexAddr 38 (.tmp 102) (.const (.int .i64 0)), (some (22, true)))) rfl rfl ?_
        refine pS (by kernel_rfl : opAt F5.o15 35 = some (some 104, .load 25 (.tmp 103), (some (22, true)))) rfl rfl ?_
        refine pW (by kernel_rfl : opAt F5.o15 36 = some (some 105, .call { callee := .value (.func 27), args := #[(.tmp 98), (.tmp 104)], argTypes := #[25, 25] }, (some (22, true)))) rfl rfl hR.ext ?_
        refine pS (by kernel_rfl : opAt F5.o15 37 = some (some 106, .unOp .not 4 (.tmp 105), (some (22, true)))) rfl rfl ?_
        refine yS (by kernel_rfl : opAt F5.o15 38 = some (some 107, .pick (.tmp 91) (.tmp 106) (.const (.bool false)), (some (19, false)))) rfl rfl (fun w' hS => val_pick_f rfl rfl) ?_
        refine yS (by kernel_rfl : opAt F5.o15 39 = some (some 108, .pick (.tmp 88) (.const (.bool true)) (.tmp 107), none)) rfl rfl (fun w' hS => val_pick_f rfl rfl) ?_
        refine Sch.nil ?_
        refine run_cond (x := F5.c50) (y := F5.c53) (o := .tmp 108) (b := false) (by kernel_rfl) rfl (fun h => by cases h) (fun _ => ?_)
        refine run_skip (by kernel_rfl) ?_
        refine run_inBlock ?_
        refine run_plain (id := 17) (ops := F5.o17) [(0, true), (1, true)] (by kernel_rfl) (by kernel_rfl) ?_
        refine yS (by kernel_rfl : opAt F5.o17 0 = some (some 109, .binOp .add 3 (.tmp 52) (.const (.int .i64 1)) 3, none)) rfl rfl (fun w' hS => val_addi rfl rfl (by omega) (by omega)) ?_
        refine yS (by kernel_rfl : opAt F5.o17 1 = some (some 52, .move (.tmp 109), none)) rfl rfl (fun w' hS => val_move rfl) ?_
        refine Sch.nil ?_
        refine kp (sub_cons 4 rfl rfl (sub_cons 5 rfl rfl (sub_cons 7 rfl rfl (sub_cons 9 rfl (eq_int (by simp only; rw [hn1]; simp)) (sub_cons 10 rfl (eq_int (by simp only; rw [hn2]; simp)) (sub_cons 51 rfl rfl (sub_cons 52 rfl (eq_int (by simp)) (sub_nil _)))))))) (next1 (k + 1, C1) _ ⟨(by first | omega | (simp only; omega)), hF, hT, hb, hp, hsp⟩ (by first | omega | (simp only; omega)))
    · skip
      have hkl : k = (partsS bl).length := by omega
      subst hkl
      refine run_exit (id := 0) (by kernel_rfl) rfl ?_
      refine run_seq (x := F5.c56) (y := F5.c57) (by kernel_rfl) ?_
      refine run_plain (id := 18) (ops := F5.o18) [(0, true), (1, true), (2, false), (3, true), (4, true), (5, true), (6, true), (7, true), (8, true), (9, true), (10, true), (11, true)] (by kernel_rfl) (by kernel_rfl) ?_
      have ha1 := sumLen_all (partsS bl)
      have ha2 := sumLen_all (splitS bl)
      rw [parts_sum] at ha1
      rw [split_sum, hsl] at ha2
      refine yS (by kernel_rfl : opAt F5.o18 0 = some (some 110, .move (.tmp 9), none)) rfl rfl (fun w' hS => val_move rfl) ?_
      refine yS (by kernel_rfl : opAt F5.o18 1 = some (some 111, .move (.tmp 4), none)) rfl rfl (fun w' hS => val_move rfl) ?_
      refine cS (by kernel_rfl : opAt F5.o18 2 = some (some 112, .call { callee := .value (.func 17), args := #[(.tmp 111)], argTypes := #[23] }, none)) rfl rfl (ent Try.call17 rfl) (refs_ok hF hb (by omega)) ?_
      rintro vR w19 ⟨hs, hrf⟩
      refine ⟨trivial, ?_⟩
      replace hF := hF.st hs
      replace hT := hT.trans hs (by simp)
      replace hb := hb.st hs (by first | decide | (simp <;> omega))
      replace hp := hp.st hs (by first | decide | (simp <;> omega))
      replace hsp := hsp.st hs (by first | decide | (simp <;> omega))
      refine yS (by kernel_rfl : opAt F5.o18 3 = some (some 113, .call { callee := .builtin .len, args := #[(.tmp 112)], argTypes := #[38] }, none)) rfl rfl (fun w' hS => hrf.lenV rfl Try.underlying38 w' ) ?_
      refine yS (by kernel_rfl : opAt F5.o18 4 = some (some 114, .binOp .eql 3 (.tmp 110) (.tmp 113) 3, none)) rfl rfl (fun w' hS => val_T (val_eql rfl rfl) (by omega)) ?_
      refine yS (by kernel_rfl : opAt F5.o18 5 = some (some 115, .move (.tmp 114), none)) rfl rfl (fun w' hS => val_move rfl) ?_
      refine yS (by kernel_rfl : opAt F5.o18 6 = some (some 116, .move (.tmp 10), (some (5, true)))) rfl rfl (fun w' hS => val_move rfl) ?_
      refine yS (by kernel_rfl : opAt F5.o18 7 = some (some 117, .move (.tmp 4), (some (5, true)))) rfl rfl (fun w' hS => val_move rfl) ?_
      refine yS (by kernel_rfl : opAt F5.o18 8 = some (some 118, .call { callee := .builtin .len, args := #[(.tmp 117)], argTypes := #[23] }, (some (5, true)))) rfl rfl (fun w' hS => hb.lenV rfl Try.underlying23 w' ) ?_
      refine yS (by kernel_rfl : opAt F5.o18 9 = some (some 119, .binOp .eql 3 (.tmp 116) (.tmp 118) 3, (some (5, true)))) rfl rfl (fun w' hS => val_T (val_eql rfl rfl) (by omega)) ?_
      refine yS (by kernel_rfl : opAt F5.o18 10 = some (some 120, .pick (.tmp 115) (.tmp 119) (.const (.bool false)), none)) rfl rfl (fun w' hS => val_pick_t rfl rfl) ?_
      refine yS (by kernel_rfl : opAt F5.o18 11 = some (some 2, .assign (.tmp 120), none)) rfl rfl (fun w' hS => val_assign rfl) ?_
      refine Sch.nil ?_
      refine run_ret1 (by kernel_rfl) Try.func5 Try.results5 rfl ?_
      exact ⟨rfl, hT.out1 (by decide)⟩
namespace F5B
noncomputable def c0 : Code := bodyOf Try.f5
noncomputable def c1 : Code := cl c0
noncomputable def o0 : Array Oper := rops c1
noncomputable def c2 : Code := cr c0
noncomputable def c3 : Code := cl c2
noncomputable def c4 : Code := cl c3
noncomputable def o1 : Array Oper := rops c4
noncomputable def c5 : Code := cr c3
noncomputable def c6 : Code := cl c5
noncomputable def c7 : Code := cl c6
noncomputable def o2 : Array Oper := rops c7
noncomputable def c8 : Code := cr c6
noncomputable def c9 : Code := cr c5
noncomputable def c10 : Code := cr c2
noncomputable def c11 : Code := cl c10
noncomputable def o3 : Array Oper := rops c11
noncomputable def c12 : Code := cr c10
noncomputable def c13 : Code := cl c12
noncomputable def o4 : Array Oper := rops c13
noncomputable def c14 : Code := cr c12
noncomputable def c15 : Code := cl c14
noncomputable def o5 : Array Oper := rops c15
noncomputable def c16 : Code := cr c14
noncomputable def c17 : Code := cl c16
noncomputable def o6 : Array Oper := rops c17
noncomputable def c18 : Code := cr c16
noncomputable def c19 : Code := cl c18
noncomputable def c20 : Code := cl c19
noncomputable def o7 : Array Oper := rops c20
noncomputable def c21 : Code := cr c19
noncomputable def c22 : Code := cl c21
noncomputable def c23 : Code := cl c22
noncomputable def o8 : Array Oper := rops c23
noncomputable def c24 : Code := cr c22
noncomputable def c25 : Code := cr c21
noncomputable def c26 : Code := cr c18
noncomputable def c27 : Code := cl c26
noncomputable def o9 : Array Oper := rops c27
noncomputable def c28 : Code := cr c26
noncomputable def c29 : Code := cl c28
noncomputable def c30 : Code := cl c29
noncomputable def o10 : Array Oper := rops c30
noncomputable def c31 : Code := cr c29
noncomputable def c32 : Code := cl c31
noncomputable def c33 : Code := cl c32
noncomputable def c34 : Code := cl c33
noncomputable def o11 : Array Oper := rops c34
noncomputable def c35 : Code := cr c33
noncomputable def c36 : Code := cl c35
noncomputable def c37 : Code := cl c36
noncomputable def c38 : Code := cr c36
noncomputable def c39 : Code := cr c35
noncomputable def c40 : Code := cl c39
noncomputable def c41 : Code := cl c40
noncomputable def c42 : Code := cl c41
noncomputable def o12 : Array Oper := rops c42
noncomputable def c43 : Code := cr c41
noncomputable def c44 : Code := cl c43
noncomputable def o13 : Array Oper := rops c44
noncomputable def c45 : Code := cr c43
noncomputable def c46 : Code := cl c45
noncomputable def o14 : Array Oper := rops c46
noncomputable def c47 : Code := cr c45
noncomputable def c48 : Code := cl c47
noncomputable def o15 : Array Oper := rops c48
noncomputable def c49 : Code := cr c47
noncomputable def c50 : Code := cl c49
noncomputable def c51 : Code := cl c50
noncomputable def o16 : Array Oper := rops c51
noncomputable def c52 : Code := cr c50
noncomputable def c53 : Code := cr c49
noncomputable def c54 : Code := cr c39
noncomputable def o17 : Array Oper := rops c54
noncomputable def c55 : Code := cr c28
noncomputable def c56 : Code := cl c55
noncomputable def o18 : Array Oper := rops c56
noncomputable def c57 : Code := cr c55
end F5B
/-- .. where more is handed than it looks at. -/
theorem componentSplits_big {w₀ : World} {C : Nat → Nat} {p : Option Addr} {n c : Nat} (hF : Lim w₀ C) (hn : 400 < n) : Calls Try.prog 5 #[.slice p n c] w₀ (Ret fun v w' => v = .bool true ∧ Stp [] w₀ C w' C) := by
  have hF0 := hF
  have hT := Stp.refl [2, 3, 4, 5, 6, 7, 8, 9] w₀ (col1 C)
  replace hF := hF.col1
  refine calls_start (c := F5B.c0) (N := 121) [.slice p n c] Try.func5 (by kernel_rfl) (by kernel_rfl) (by kernel_rfl) ?_
  show Run _ _ _ _ [(0, .slice p n c)] _ _
  refine run_seq (x := F5B.c1) (y := F5B.c2) (by kernel_rfl) ?_
  refine run_plain (id := 0) (ops := F5B.o0) [(0, true)] (by kernel_rfl) (by kernel_rfl) ?_
  refine yS (by kernel_rfl : opAt F5B.o0 0 = some (some 2, .assign (.const (.bool false)), none)) rfl rfl (fun w' hS => val_assign rfl) ?_
  refine Sch.nil ?_
  refine run_seq (x := F5B.c3) (y := F5B.c10) (by kernel_rfl) ?_
  refine run_seq (x := F5B.c4) (y := F5B.c5) (by kernel_rfl) ?_
  refine run_plain (id := 1) (ops := F5B.o1) [(0, false), (1, true), (2, true), (3, true), (4, false), (5, true), (6, true)] (by kernel_rfl) (by kernel_rfl) ?_
  refine cS (by kernel_rfl : opAt F5B.o1 0 = some (some 12, .call { callee := .value (.func 8), args := #[], argTypes := #[] }, none)) rfl rfl (ent Try.call8 rfl) (awake_ok hF) ?_
  rintro vw1 w1 ⟨rfl, hs⟩
  refine ⟨trivial, ?_⟩
  replace hF := hF.st hs
  replace hT := hT.trans hs (by simp)
  refine yS (by kernel_rfl : opAt F5B.o1 1 = some (some 13, .unOp .not 4 (.tmp 12), none)) rfl rfl (fun w' hS => val_not rfl) ?_
  refine yS (by kernel_rfl : opAt F5B.o1 2 = some (some 14, .move (.tmp 13), none)) rfl rfl (fun w' hS => val_move rfl) ?_
  refine yS (by kernel_rfl : opAt F5B.o1 3 = some (some 15, .move (.tmp 0), (some (2, false)))) rfl rfl (fun w' hS => val_move rfl) ?_
  refine cS (by kernel_rfl : opAt F5B.o1 4 = some (some 16, .call { callee := .value (.func 9), args := #[(.tmp 15)], argTypes := #[22] }, (some (2, false)))) rfl rfl (ent Try.call9 rfl) (few_ok _ _ _ _) ?_
  rintro vw2 w2 ⟨rfl, rfl⟩
  refine ⟨trivial, ?_⟩
  rw [decide_eq_false (show ¬ (n : Int) ≤ 400 by omega)]
  refine yS (by kernel_rfl : opAt F5B.o1 5 = some (some 17, .unOp .not 4 (.tmp 16), (some (2, false)))) rfl rfl (fun w' hS => val_not rfl) ?_
  refine yS (by kernel_rfl : opAt F5B.o1 6 = some (some 18, .pick (.tmp 14) (.const (.bool true)) (.tmp 17), none)) rfl rfl (fun w' hS => val_pick_f rfl rfl) ?_
  refine Sch.nil ?_
  refine run_cond (x := F5B.c6) (y := F5B.c9) (o := .tmp 18) (b := true) (by kernel_rfl) rfl (fun _ => ?_) (fun h => by cases h)
  refine run_seq (x := F5B.c7) (y := F5B.c8) (by kernel_rfl) ?_
  refine run_plain (id := 2) (ops := F5B.o2) [(0, false), (1, true)] (by kernel_rfl) (by kernel_rfl) ?_
  refine cS (by kernel_rfl : opAt F5B.o2 0 = some (some 19, .call { callee := .value (.func 8), args := #[], argTypes := #[] }, none)) rfl rfl (ent Try.call8 rfl) (awake_ok hF) ?_
  rintro vw3 w3 ⟨rfl, hs⟩
  refine ⟨trivial, ?_⟩
  replace hF := hF.st hs
  replace hT := hT.trans hs (by simp)
  refine yS (by kernel_rfl : opAt F5B.o2 1 = some (some 2, .assign (.tmp 19), none)) rfl rfl (fun w' hS => val_assign rfl) ?_
  refine Sch.nil ?_
  refine run_ret1 (by kernel_rfl) Try.func5 Try.results5 rfl ?_
  exact ⟨rfl, hT.out1 (by decide)⟩
end Go.Proofs.Ytfmdkdfhnkennaa

