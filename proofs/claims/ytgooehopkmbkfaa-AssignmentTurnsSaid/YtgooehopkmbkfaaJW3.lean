/- Steps through functions of the program. -/
import Derived.Test.YtgooehopkmbkfaaJV3
import Derived.Test.YtgooehopkmbkfaaL2
set_option linter.unusedVariables false
set_option linter.unusedSimpArgs false
set_option maxRecDepth 100000
set_option maxHeartbeats 4000000
namespace Go.Proofs.Ytgooehopkmbkfaa
open Go.K Go.K.Rep

namespace F7
noncomputable def c0 : Code := bodyOf Try.f7
noncomputable def c1 : Code := cl c0
noncomputable def o0 : Array Oper := rops c1
noncomputable def c2 : Code := cr c0
noncomputable def c3 : Code := cl c2
noncomputable def c4 : Code := cl c3
noncomputable def o1 : Array Oper := rops c4
noncomputable def c5 : Code := cr c3
noncomputable def c6 : Code := cl c5
noncomputable def c7 : Code := cl c6
noncomputable def o2 : Array Oper := rops c7
noncomputable def c8 : Code := cr c6
noncomputable def c9 : Code := cr c5
noncomputable def c10 : Code := cr c2
noncomputable def c11 : Code := cl c10
noncomputable def o3 : Array Oper := rops c11
noncomputable def c12 : Code := cr c10
noncomputable def c13 : Code := cl c12
noncomputable def o4 : Array Oper := rops c13
noncomputable def c14 : Code := cr c12
noncomputable def c15 : Code := cl c14
noncomputable def o5 : Array Oper := rops c15
noncomputable def c16 : Code := cr c14
noncomputable def c17 : Code := cl c16
noncomputable def o6 : Array Oper := rops c17
noncomputable def c18 : Code := cr c16
noncomputable def c19 : Code := cl c18
noncomputable def c20 : Code := cl c19
noncomputable def o7 : Array Oper := rops c20
noncomputable def c21 : Code := cr c19
noncomputable def c22 : Code := cl c21
noncomputable def c23 : Code := cl c22
noncomputable def c24 : Code := cl c23
noncomputable def c25 : Code := cl c24
noncomputable def o8 : Array Oper := rops c25
noncomputable def c26 : Code := cr c24
noncomputable def c27 : Code := cl c26
noncomputable def c28 : Code := cr c26
noncomputable def c29 : Code := cr c23
noncomputable def c30 : Code := cl c29
noncomputable def c31 : Code := cl c30
noncomputable def c32 : Code := cl c31
noncomputable def o10 : Array Oper := rops c32
noncomputable def c33 : Code := cr c31
noncomputable def c34 : Code := cl c33
noncomputable def c35 : Code := cl c34
noncomputable def c36 : Code := cl c35
noncomputable def o11 : Array Oper := rops c36
noncomputable def c37 : Code := cr c35
noncomputable def c38 : Code := cl c37
noncomputable def c39 : Code := cl c38
noncomputable def c40 : Code := cr c38
noncomputable def c41 : Code := cr c37
noncomputable def c42 : Code := cl c41
noncomputable def c43 : Code := cl c42
noncomputable def c44 : Code := cl c43
noncomputable def o12 : Array Oper := rops c44
noncomputable def c45 : Code := cr c43
noncomputable def c46 : Code := cl c45
noncomputable def o13 : Array Oper := rops c46
noncomputable def c47 : Code := cr c45
noncomputable def c48 : Code := cl c47
noncomputable def o14 : Array Oper := rops c48
noncomputable def c49 : Code := cr c47
noncomputable def c50 : Code := cr c41
noncomputable def o15 : Array Oper := rops c50
noncomputable def c51 : Code := cr c29
noncomputable def o9 : Array Oper := rops c51
noncomputable def c52 : Code := cr c18
noncomputable def c53 : Code := cl c52
noncomputable def o16 : Array Oper := rops c53
noncomputable def c54 : Code := cr c52
noncomputable def c55 : Code := cl c54
noncomputable def o17 : Array Oper := rops c55
noncomputable def c56 : Code := cr c54
noncomputable def c57 : Code := cl c56
noncomputable def o18 : Array Oper := rops c57
noncomputable def c58 : Code := cr c56
noncomputable def c59 : Code := cl c58
noncomputable def o19 : Array Oper := rops c59
noncomputable def c60 : Code := cr c58
end F7
/-- With both sides exchanged the greatest total is the same, and the prices, exchanged, prove it too. -/
theorem assignmentTurns_ok {w₀ : World} {C : Nat → Nat} {l : List Int} {vl : Value} (hF : Lim w₀ C) (hl : RV w₀ (Mc C) l vl) : Calls Try.prog 7 #[vl] w₀ (Ret fun v w' => v = .bool true ∧ Stp [] w₀ C w' C) := by
  have hF0 := hF
  have hT := Stp.refl [2, 3, 4, 5, 6, 7, 8, 9] w₀ (col1 C)
  replace hF := hF.col1
  replace hl : RV w₀ (Mc (col1 C)) l vl := by rw [Mc_col1]; exact hl
  refine calls_start (c := F7.c0) (N := 114) [vl] Try.func7 (by kernel_rfl) (by kernel_rfl) (by kernel_rfl) ?_
  show Run _ _ _ _ [(0, vl)] _ _
  refine run_seq (x := F7.c1) (y := F7.c2) (by kernel_rfl) ?_
  refine run_plain (id := 0) (ops := F7.o0) [(0, true)] (by kernel_rfl) (by kernel_rfl) ?_
  refine yS (by kernel_rfl : opAt F7.o0 0 = some (some 2, .assign (.const (.bool false)), none)) rfl rfl (fun w' hS => val_assign rfl) ?_
  refine Sch.nil ?_
  refine run_seq (x := F7.c3) (y := F7.c10) (by kernel_rfl) ?_
  refine run_seq (x := F7.c4) (y := F7.c5) (by kernel_rfl) ?_
  refine run_plain (id := 1) (ops := F7.o1) [(0, false), (1, true), (2, true), (3, true), (4, false), (5, true), (6, true)] (by kernel_rfl) (by kernel_rfl) ?_
  refine cS (by kernel_rfl : opAt F7.o1 0 = some (some 20, .call { callee := .value (.func 10), args := #[], argTypes := #[] }, none)) rfl rfl (ent Try.call10 rfl) (awake_ok hF) ?_
  rintro vw1 w1 ⟨rfl, hs⟩
  refine ⟨trivial, ?_⟩
  replace hF := hF.st hs
  replace hT := hT.trans hs (by simp)
  replace hl := hl.st hs (by first | decide | (simp <;> omega))
  refine yS (by kernel_rfl : opAt F7.o1 1 = some (some 21, .unOp .not 4 (.tmp 20), none)) rfl rfl (fun w' hS => val_not rfl) ?_
  refine yS (by kernel_rfl : opAt F7.o1 2 = some (some 22, .move (.tmp 21), none)) rfl rfl (fun w' hS => val_move rfl) ?_
  refine yS (by kernel_rfl : opAt F7.o1 3 = some (some 23, .move (.tmp 0), (some (2, false)))) rfl rfl (fun w' hS => val_move rfl) ?_
  refine cS (by kernel_rfl : opAt F7.o1 4 = some (some 24, .call { callee := .value (.func 11), args := #[(.tmp 23)], argTypes := #[22] }, (some (2, false)))) rfl rfl (ent Try.call11 rfl) (few_any hl) ?_
  rintro vw2 w2 ⟨rfl, rfl⟩
  refine ⟨trivial, ?_⟩
  refine yS (by kernel_rfl : opAt F7.o1 5 = some (some 25, .unOp .not 4 (.tmp 24), (some (2, false)))) rfl rfl (fun w' hS => val_notd rfl) ?_
  refine yS (by kernel_rfl : opAt F7.o1 6 = some (some 26, .pick (.tmp 22) (.const (.bool true)) (.tmp 25), none)) rfl rfl (fun w' hS => val_pick_f rfl rfl) ?_
  refine Sch.nil ?_
  refine run_if (x := F7.c6) (y := F7.c9) (o := .tmp 26) (by kernel_rfl) rfl (fun h26 => ?_) (fun h26 => ?_)
  · skip
    refine run_seq (x := F7.c7) (y := F7.c8) (by kernel_rfl) ?_
    refine run_plain (id := 2) (ops := F7.o2) [(0, false), (1, true)] (by kernel_rfl) (by kernel_rfl) ?_
    refine cS (by kernel_rfl : opAt F7.o2 0 = some (some 27, .call { callee := .value (.func 10), args := #[], argTypes := #[] }, none)) rfl rfl (ent Try.call10 rfl) (awake_ok hF) ?_
    rintro vw3 w3 ⟨rfl, hs⟩
    refine ⟨trivial, ?_⟩
    replace hF := hF.st hs
    replace hT := hT.trans hs (by simp)
    replace hl := hl.st hs (by first | decide | (simp <;> omega))
    refine yS (by kernel_rfl : opAt F7.o2 1 = some (some 2, .assign (.tmp 27), none)) rfl rfl (fun w' hS => val_assign rfl) ?_
    refine Sch.nil ?_
    refine run_ret1 (by kernel_rfl) Try.func7 Try.results7 rfl ?_
    exact ⟨rfl, hT.out1 (by decide)⟩
  · skip
    refine run_skip (by kernel_rfl) ?_
    refine run_seq (x := F7.c11) (y := F7.c12) (by kernel_rfl) ?_
    refine run_plain (id := 3) (ops := F7.o3) [(0, true), (1, false), (2, true)] (by kernel_rfl) (by kernel_rfl) ?_
    refine yS (by kernel_rfl : opAt F7.o3 0 = some (some 28, .move (.tmp 0), none)) rfl rfl (fun w' hS => val_move rfl) ?_
    refine cS (by kernel_rfl : opAt F7.o3 1 = some (some 29, .call { callee := .value (.func 12), args := #[(.tmp 28)], argTypes := #[22] }, none)) rfl rfl (ent Try.call12 rfl) (new_any hF hl) ?_
    rintro vw4 w4 ⟨Cd, bd, rfl, hs, hF, hd⟩
    refine ⟨trivial, ?_⟩
    replace hT := hT.trans hs (by simp)
    replace hl := hl.st hs (by first | decide | (simp <;> omega))
    refine yS (by kernel_rfl : opAt F7.o3 2 = some (some 3, .assign (.tmp 29), none)) rfl rfl (fun w' hS => val_assign rfl) ?_
    refine Sch.nil ?_
    refine run_seq (x := F7.c13) (y := F7.c14) (by kernel_rfl) ?_
    refine run_plain (id := 4) (ops := F7.o4) [(0, true), (1, false), (2, true), (3, true), (4, false), (5, true), (6, true), (7, true)] (by kernel_rfl) (by kernel_rfl) ?_
    refine yS (by kernel_rfl : opAt F7.o4 0 = some (some 30, .move (.tmp 3), none)) rfl rfl (fun w' hS => val_move rfl) ?_
    refine cS (by kernel_rfl : opAt F7.o4 1 = some (some 31, .call { callee := .value (.func 13), args := #[(.tmp 30), (.const (.int .i64 5))], argTypes := #[27, 3] }, none)) rfl rfl (ent Try.call13 rfl) (next_any (n := 5) hF (by decide) hd (by omega) (by omega)) ?_
    rintro vw5 w5 ⟨p, rfl, hp, hs, hd⟩
    refine ⟨trivial, ?_⟩
    replace hF := hF.st hs
    replace hT := hT.trans hs (by simp)
    replace hl := hl.st hs (by first | decide | (simp <;> omega))
    refine yS (by kernel_rfl : opAt F7.o4 2 = some (some 32, .binOp .add 3 (.const (.int .i64 1)) (.tmp 31) 3, none)) rfl rfl (fun w' hS => val_addi rfl rfl (by omega) (by omega)) ?_
    obtain ⟨n, hnd⟩ : ∃ x : Nat, x = p + 1 := ⟨_, rfl⟩
    rw [show (1 : Int) + (p : Int) = ((n : Nat) : Int) from by omega]
    refine yS (by kernel_rfl : opAt F7.o4 3 = some (some 33, .move (.tmp 3), none)) rfl rfl (fun w' hS => val_move rfl) ?_
    refine cS (by kernel_rfl : opAt F7.o4 4 = some (some 34, .call { callee := .value (.func 13), args := #[(.tmp 33), (.const (.int .i64 5))], argTypes := #[27, 3] }, none)) rfl rfl (ent Try.call13 rfl) (next_any (n := 5) hF (by decide) hd (by omega) (by omega)) ?_
    rintro vw6 w6 ⟨q, rfl, hq, hs, hd⟩
    refine ⟨trivial, ?_⟩
    replace hF := hF.st hs
    replace hT := hT.trans hs (by simp)
    replace hl := hl.st hs (by first | decide | (simp <;> omega))
    refine yS (by kernel_rfl : opAt F7.o4 5 = some (some 35, .binOp .add 3 (.const (.int .i64 1)) (.tmp 34) 3, none)) rfl rfl (fun w' hS => val_addi rfl rfl (by omega) (by omega)) ?_
    obtain ⟨m, hmd⟩ : ∃ x : Nat, x = q + 1 := ⟨_, rfl⟩
    rw [show (1 : Int) + (q : Int) = ((m : Nat) : Int) from by omega]
    refine yS (by kernel_rfl : opAt F7.o4 6 = some (some 4, .assign (.tmp 32), none)) rfl rfl (fun w' hS => val_assign rfl) ?_
    refine yS (by kernel_rfl : opAt F7.o4 7 = some (some 5, .assign (.tmp 35), none)) rfl rfl (fun w' hS => val_assign rfl) ?_
    refine Sch.nil ?_
    refine run_seq (x := F7.c15) (y := F7.c16) (by kernel_rfl) ?_
    refine run_plain (id := 5) (ops := F7.o5) [(0, true), (1, true), (2, true), (3, false), (4, true)] (by kernel_rfl) (by kernel_rfl) ?_
    refine yS (by kernel_rfl : opAt F7.o5 0 = some (some 36, .move (.tmp 3), none)) rfl rfl (fun w' hS => val_move rfl) ?_
    refine yS (by kernel_rfl : opAt F7.o5 1 = some (some 37, .move (.tmp 4), none)) rfl rfl (fun w' hS => val_move rfl) ?_
    refine yS (by kernel_rfl : opAt F7.o5 2 = some (some 38, .move (.tmp 5), none)) rfl rfl (fun w' hS => val_move rfl) ?_
    refine cS (by kernel_rfl : opAt F7.o5 3 = some (some 39, .call { callee := .value (.func 14), args := #[(.tmp 36), (.tmp 37), (.tmp 38), (.const (.int .i64 2))], argTypes := #[27, 3, 3, 3] }, none)) rfl rfl (ent Try.call14 rfl) (edges_any (n := n) (m := m) (one := 2) hF (by decide) hd (by omega) (by omega) (by decide) (by decide)) ?_
    rintro v_el w7 ⟨el, hE, ⟨hs, he, hd⟩, _⟩
    have hEV := hE.ve (by omega) (by omega)
    have hEc := hEV.check
    refine ⟨trivial, ?_⟩
    replace hF := hF.st hs
    replace hT := hT.trans hs (by simp)
    replace hl := hl.st hs (by first | decide | (simp <;> omega))
    refine yS (by kernel_rfl : opAt F7.o5 4 = some (some 6, .assign (.tmp 39), none)) rfl rfl (fun w' hS => val_assign rfl) ?_
    refine Sch.nil ?_
    have hel := hE.len
    clear hd
    refine run_seq (x := F7.c17) (y := F7.c18) (by kernel_rfl) ?_
    refine run_plain (id := 6) (ops := F7.o6) [(0, true)] (by kernel_rfl) (by kernel_rfl) ?_
    refine yS (by kernel_rfl : opAt F7.o6 0 = some (some 7, .assign (.const (.slice none 0 0)), none)) rfl rfl (fun w' hS => val_assign rfl) ?_
    refine Sch.nil ?_
    refine run_seq (x := F7.c19) (y := F7.c52) (by kernel_rfl) ?_
    refine run_seq (x := F7.c20) (y := F7.c21) (by kernel_rfl) ?_
    refine run_plain (id := 7) (ops := F7.o7) [(0, true)] (by kernel_rfl) (by kernel_rfl) ?_
    refine yS (by kernel_rfl : opAt F7.o7 0 = some (some 8, .assign (.const (.int .i64 0)), none)) rfl rfl (fun w' hS => val_assign rfl) ?_
    refine Sch.nil ?_
    refine run_block (x := F7.c22) (id := 0) (by kernel_rfl) ?_
    
    refine run_loop (ι := Nat × Value × (Nat → Nat)) (I := fun x w => x.1 ≤ m ∧ Lim w x.2.2 ∧ Stp [2, 3, 4, 5, 6, 7, 8, 9] w₀ (col1 C) w x.2.2 ∧ RV w (Mc x.2.2) el v_el ∧ OwnL w x.2.2 4 46 x.2.1 (turnL el x.1)) (e := fun x => [(4, .int .i64 n), (5, .int .i64 m), (6, v_el), (7, x.2.1), (8, .int .i64 x.1)]) (m := fun x => m - x.1) (x₀ := (0, .slice none 0 0, Cd)) (body := F7.c23) (by kernel_rfl) (sub_cons 4 rfl rfl (sub_cons 5 rfl rfl (sub_cons 6 rfl rfl (sub_cons 7 rfl rfl (sub_cons 8 rfl rfl (sub_nil _)))))) ?_ ?_
    · exact ⟨Nat.zero_le _, hF, hT, he, OwnL.nil⟩
    intro ⟨k, vt, C1⟩ w8 hI next
    obtain ⟨hk, hF, hT, he, ht⟩ := hI
    try simp only at hk hF hT he ht
    have next1 := next
    clear next
    show Run _ _ _ _ [(4, .int .i64 n), (5, .int .i64 m), (6, v_el), (7, vt), (8, .int .i64 k)] _ _
    have htl := turnL_len (l := el) k
    refine run_seq (x := F7.c24) (y := F7.c29) (by kernel_rfl) ?_
    refine run_seq (x := F7.c25) (y := F7.c26) (by kernel_rfl) ?_
    refine run_plain (id := 8) (ops := F7.o8) [(0, true), (1, true), (2, true)] (by kernel_rfl) (by kernel_rfl) ?_
    refine yS (by kernel_rfl : opAt F7.o8 0 = some (some 40, .move (.tmp 8), none)) rfl rfl (fun w' hS => val_move rfl) ?_
    refine yS (by kernel_rfl : opAt F7.o8 1 = some (some 41, .move (.tmp 5), none)) rfl rfl (fun w' hS => val_move rfl) ?_
    refine yS (by kernel_rfl : opAt F7.o8 2 = some (some 42, .binOp .lss 3 (.tmp 40) (.tmp 41) 3, none)) rfl rfl (fun w' hS => val_lss rfl rfl) ?_
    refine Sch.nil ?_
    refine run_if (x := F7.c27) (y := F7.c28) (o := .tmp 42) (by kernel_rfl) rfl (fun h42 => ?_) (fun h42 => ?_)
    · skip
      have hkm : k < m := by omega
      refine run_skip (by kernel_rfl) ?_
      refine run_seq (x := F7.c30) (y := F7.c51) (by kernel_rfl) ?_
      refine run_block (x := F7.c31) (id := 1) (by kernel_rfl) ?_
      refine run_seq (x := F7.c32) (y := F7.c33) (by kernel_rfl) ?_
      refine run_plain (id := 10) (ops := F7.o10) [(0, true), (1, true), (2, true)] (by kernel_rfl) (by kernel_rfl) ?_
      refine yS (by kernel_rfl : opAt F7.o10 0 = some (some 45, .move (.tmp 6), none)) rfl rfl (fun w' hS => val_move rfl) ?_
      refine yS (by kernel_rfl : opAt F7.o10 1 = some (some 46, .call { callee := .builtin .len, args := #[(.tmp 45)], argTypes := #[23] }, none)) rfl rfl (fun w' hS => he.lenV rfl Try.underlying23 w' ) ?_
      refine yS (by kernel_rfl : opAt F7.o10 2 = some (some 47, .move (.const (.int .i64 0)), none)) rfl rfl (fun w' hS => val_move rfl) ?_
      refine Sch.nil ?_
      refine run_block (x := F7.c34) (id := 2) (by kernel_rfl) ?_
      
      refine run_loop (ι := Nat × Value × (Nat → Nat)) (I := fun x w => x.1 ≤ el.length ∧ Lim w x.2.2 ∧ Stp [2, 3, 4, 5, 6, 7, 8, 9] w₀ (col1 C) w x.2.2 ∧ RV w (Mc x.2.2) el v_el ∧ OwnL w x.2.2 4 46 x.2.1 (turnL el k ++ turnR (el.take x.1) k)) (e := fun x => [(4, .int .i64 n), (5, .int .i64 m), (6, v_el), (7, x.2.1), (8, .int .i64 k), (45, v_el), (46, .int .i64 el.length), (47, .int .i64 x.1)]) (m := fun x => el.length - x.1) (x₀ := (0, vt, C1)) (body := F7.c35) (by kernel_rfl) (sub_cons 4 rfl rfl (sub_cons 5 rfl rfl (sub_cons 6 rfl rfl (sub_cons 7 rfl rfl (sub_cons 8 rfl rfl (sub_cons 45 rfl rfl (sub_cons 46 rfl rfl (sub_cons 47 rfl rfl (sub_nil _))))))))) ?_ ?_
      · exact ⟨Nat.zero_le _, hF, hT, he, by simpa [turnR] using ht⟩
      intro ⟨i, vt, C1⟩ w9 hI next
      obtain ⟨hi, hF, hT, he, ht⟩ := hI
      try simp only at hi hF hT he ht
      have next2 := next
      clear next
      show Run _ _ _ _ [(4, .int .i64 n), (5, .int .i64 m), (6, v_el), (7, vt), (8, .int .i64 k), (45, v_el), (46, .int .i64 el.length), (47, .int .i64 i)] _ _
      have htr := turnR_len (l := el.take i) (k := k)
      rw [List.length_take] at htr
      have hkl : k * el.length ≤ 320 := Nat.le_trans (Nat.mul_le_mul (show k ≤ 5 by omega) hel) (by decide)
      refine run_seq (x := F7.c36) (y := F7.c37) (by kernel_rfl) ?_
      refine run_plain (id := 11) (ops := F7.o11) [(0, true)] (by kernel_rfl) (by kernel_rfl) ?_
      refine yS (by kernel_rfl : opAt F7.o11 0 = some (some 48, .binOp .lss 3 (.tmp 47) (.tmp 46) 3, none)) rfl rfl (fun w' hS => val_lss rfl rfl) ?_
      refine Sch.nil ?_
      refine run_seq (x := F7.c38) (y := F7.c41) (by kernel_rfl) ?_
      refine run_if (x := F7.c39) (y := F7.c40) (o := .tmp 48) (by kernel_rfl) rfl (fun h48 => ?_) (fun h48 => ?_)
      · skip
        have hil : i < el.length := by omega
        have htk := List.take_succ_eq_append_getElem hil
        refine run_skip (by kernel_rfl) ?_
        refine run_seq (x := F7.c42) (y := F7.c50) (by kernel_rfl) ?_
        refine run_block (x := F7.c43) (id := 3) (by kernel_rfl) ?_
        refine run_seq (x := F7.c44) (y := F7.c45) (by kernel_rfl) ?_
        refine run_plain (id := 12) (ops := F7.o12) [(0, true), (1, false), (2, false), (3, false)] (by kernel_rfl) (by kernel_rfl) ?_
        refine iS (e := 46) (by kernel_rfl : opAt F7.o12 0 = some (some 49, .indexAddr 23 (.tmp 45) (.tmp 47), none)) rfl rfl he rfl (by kernel_rfl) rfl (by omega) (by omega) ?_
        intro b49 o49 h49
        try simp only [Int.toNat_natCast] at h49
        refine lNA (by kernel_rfl : opAt F7.o12 1 = some (some 50, .load 46 (.tmp 49), none)) rfl rfl trivial h49 (by kernel_rfl) (by kernel_rfl) rfl rfl ?_
        intro v50 g50
        obtain rfl := rv_edge.1 g50
        refine aS (by kernel_rfl : opAt F7.o12 2 = some (some 10, .alloc 46, none)) rfl rfl (a_alloc (cs := [.int .i64 0, .int .i64 0, .int .i64 0]) hF 6 (by kernel_rfl)) ?_
        rintro _ w10 ⟨Cw10, bw10, rfl, hs, hx, hF⟩
        refine ⟨trivial, ?_⟩
        replace hT := hT.trans hs (by simp)
        replace he := he.st hs (by first | decide | (simp <;> omega))
        replace ht := ht.st hs (by first | decide | (simp <;> omega)) (by first | decide | (simp <;> omega))
        replace h49 := h49.st hs (by first | decide | (simp <;> omega))
        refine aN (by kernel_rfl : opAt F7.o12 3 = some (none, .store 46 (.tmp 10) (.tmp 50), none)) rfl (a_storeAll (vs := encE (el[i]'hil)) (n := 3) rfl rfl (by kernel_rfl) rfl rfl (by intro u hu; simp only [encE, List.mem_cons, List.not_mem_nil, or_false] at hu; rcases hu with rfl | rfl | rfl <;> rfl) hx rfl) ?_
        rintro _ w11 ⟨rfl, hs, hx⟩
        refine ⟨trivial, ?_⟩
        replace hF := hF.st hs
        replace hT := hT.trans hs (by simp)
        replace he := he.st hs (by first | decide | (simp <;> omega))
        replace ht := ht.st hs (by first | decide | (simp <;> omega)) (by first | decide | (simp <;> omega))
        replace h49 := h49.st hs (by first | decide | (simp <;> omega))
        refine Sch.nil ?_
        refine run_seq (x := F7.c46) (y := F7.c47) (by kernel_rfl) ?_
        refine run_plain (id := 13) (ops := F7.o13) [(0, true), (1, false), (2, true), (3, true)] (by kernel_rfl) (by kernel_rfl) ?_
        refine yS (by kernel_rfl : opAt F7.o13 0 = some (some 51, .fieldAddr 46 (.tmp 10) 1, none)) rfl rfl (fun w' hS => val_fieldAddr (off := 1) (by kernel_rfl) rfl) ?_
        refine nS (by kernel_rfl : opAt F7.o13 1 = some (some 52, .load 3 (.tmp 51), none)) rfl rfl trivial (val_loadOwn hx.at_ (by kernel_rfl) rfl rfl) ?_
        refine yS (by kernel_rfl : opAt F7.o13 2 = some (some 53, .move (.tmp 8), none)) rfl rfl (fun w' hS => val_move rfl) ?_
        refine yS (by kernel_rfl : opAt F7.o13 3 = some (some 54, .binOp .eql 3 (.tmp 52) (.tmp 53) 3, none)) rfl rfl (fun w' hS => val_eql rfl rfl) ?_
        refine Sch.nil ?_
        refine run_if (x := F7.c48) (y := F7.c49) (o := .tmp 54) (by kernel_rfl) rfl (fun h54 => ?_) (fun h54 => ?_)
        · skip
          refine run_plain (id := 14) (ops := F7.o14) [(0, true), (1, true), (2, false), (3, true), (4, false), (5, true), (6, false), (7, true), (8, false), (9, false), (10, true)] (by kernel_rfl) (by kernel_rfl) ?_
          refine yS (by kernel_rfl : opAt F7.o14 0 = some (some 55, .move (.tmp 7), none)) rfl rfl (fun w' hS => val_move rfl) ?_
          refine yS (by kernel_rfl : opAt F7.o14 1 = some (some 56, .fieldAddr 46 (.tmp 10) 1, none)) rfl rfl (fun w' hS => val_fieldAddr (off := 1) (by kernel_rfl) rfl) ?_
          refine nS (by kernel_rfl : opAt F7.o14 2 = some (some 57, .load 3 (.tmp 56), none)) rfl rfl trivial (val_loadOwn hx.at_ (by kernel_rfl) rfl rfl) ?_
          refine yS (by kernel_rfl : opAt F7.o14 3 = some (some 58, .fieldAddr 46 (.tmp 10) 0, none)) rfl rfl (fun w' hS => val_fieldAddr (off := 0) (by kernel_rfl) rfl) ?_
          refine nS (by kernel_rfl : opAt F7.o14 4 = some (some 59, .load 3 (.tmp 58), none)) rfl rfl trivial (val_loadOwn hx.at_ (by kernel_rfl) rfl rfl) ?_
          refine yS (by kernel_rfl : opAt F7.o14 5 = some (some 60, .fieldAddr 46 (.tmp 10) 2, none)) rfl rfl (fun w' hS => val_fieldAddr (off := 2) (by kernel_rfl) rfl) ?_
          refine nS (by kernel_rfl : opAt F7.o14 6 = some (some 61, .load 3 (.tmp 60), none)) rfl rfl trivial (val_loadOwn hx.at_ (by kernel_rfl) rfl rfl) ?_
          refine yS (by kernel_rfl : opAt F7.o14 7 = some (some 62, .build 46 #[(0, (.tmp 57)), (1, (.tmp 59)), (2, (.tmp 61))], none)) rfl rfl (fun w' hS => val_build (zs := [.int .i64 0, .int .i64 0, .int .i64 0]) (ps := [(0, 1), (1, 1), (2, 1)]) (qs := [(0, [.int .i64 (el[i]'hil).b]), (1, [.int .i64 (el[i]'hil).a]), (2, [.int .i64 (el[i]'hil).w])]) (cs := [.int .i64 (el[i]'hil).b, .int .i64 (el[i]'hil).a, .int .i64 (el[i]'hil).w]) (by kernel_rfl) (by kernel_rfl) (by exact ⟨rfl, ⟨_, rfl, rfl⟩, rfl, ⟨_, rfl, rfl⟩, rfl, ⟨_, rfl, rfl⟩, trivial⟩) rfl) ?_
          refine aS (by kernel_rfl : opAt F7.o14 8 = some (some 63, .buildSlice 23 1 #[(0, (.tmp 62))], none)) rfl rfl (a_buildSlice (ys := ([turnE (el[i]'hil)] : List K.Edge)) (e := 46) (bytes := 24) hF (by kernel_rfl) rfl (by decide) (by decide) ⟨rfl, ⟨_, rfl, rv_edge.2 rfl⟩, trivial⟩) ?_
          rintro v63 w12 ⟨hs, g63, hF⟩
          refine ⟨trivial, ?_⟩
          replace hT := hT.trans hs (by simp)
          replace he := he.st hs (by first | decide | (simp <;> omega))
          replace ht := ht.st hs (by first | decide | (simp <;> omega)) (by first | decide | (simp <;> omega))
          replace h49 := h49.st hs (by first | decide | (simp <;> omega))
          replace hx := hx.st hs (by first | decide | (simp <;> omega))
          refine aS (by kernel_rfl : opAt F7.o14 9 = some (some 64, .call { callee := .builtin .append, args := #[(.tmp 55), (.tmp 63)], argTypes := #[23, 23] }, none)) rfl rfl (a_append (e := 46) (bytes := 24) hF (by decide) rfl rfl (by kernel_rfl) (by decide) ht g63 (by simp only [List.length_append, List.length_cons, List.length_nil, List.length_take, List.length_drop, List.length_map]; omega) (by simp only [List.length_append, List.length_cons, List.length_nil, List.length_take, List.length_drop, List.length_map]; omega)) ?_
          rintro v64 w13 ⟨Cw13, hs, ht, hF⟩
          refine ⟨trivial, ?_⟩
          replace hT := hT.trans hs (by simp)
          replace he := he.st hs (by first | decide | (simp <;> omega))
          replace h49 := h49.st hs (by first | decide | (simp <;> omega))
          replace hx := hx.st hs (by first | decide | (simp <;> omega))
          replace g63 := g63.st hs (by first | decide | (simp <;> omega))
          refine yS (by kernel_rfl : opAt F7.o14 10 = some (some 7, .assign (.tmp 64), none)) rfl rfl (fun w' hS => val_assign rfl) ?_
          refine Sch.nil ?_
          refine run_inBlock ?_
          refine run_plain (id := 15) (ops := F7.o15) [(0, true), (1, true)] (by kernel_rfl) (by kernel_rfl) ?_
          refine yS (by kernel_rfl : opAt F7.o15 0 = some (some 65, .binOp .add 3 (.tmp 47) (.const (.int .i64 1)) 3, none)) rfl rfl (fun w' hS => val_addi rfl rfl (by omega) (by omega)) ?_
          refine yS (by kernel_rfl : opAt F7.o15 1 = some (some 47, .move (.tmp 65), none)) rfl rfl (fun w' hS => val_move rfl) ?_
          refine Sch.nil ?_
          refine kp (sub_cons 4 rfl rfl (sub_cons 5 rfl rfl (sub_cons 6 rfl rfl (sub_cons 7 rfl rfl (sub_cons 8 rfl rfl (sub_cons 45 rfl rfl (sub_cons 46 rfl rfl (sub_cons 47 rfl (eq_int (by simp)) (sub_nil _))))))))) (next2 (i + 1, v64, Cw13) _ ⟨(by first | omega | (simp only; omega)), hF, hT, he, (by simp only; unfold turnR at ht ⊢; rw [htk, List.filter_append, List.filter_cons, if_pos (by simpa using h54), List.filter_nil, List.map_append, ← List.append_assoc]; exact ht)⟩ (by first | omega | (simp only; omega)))
        · skip
          refine run_skip (by kernel_rfl) ?_
          refine run_inBlock ?_
          refine run_plain (id := 15) (ops := F7.o15) [(0, true), (1, true)] (by kernel_rfl) (by kernel_rfl) ?_
          refine yS (by kernel_rfl : opAt F7.o15 0 = some (some 65, .binOp .add 3 (.tmp 47) (.const (.int .i64 1)) 3, none)) rfl rfl (fun w' hS => val_addi rfl rfl (by omega) (by omega)) ?_
          refine yS (by kernel_rfl : opAt F7.o15 1 = some (some 47, .move (.tmp 65), none)) rfl rfl (fun w' hS => val_move rfl) ?_
          refine Sch.nil ?_
          refine kp (sub_cons 4 rfl rfl (sub_cons 5 rfl rfl (sub_cons 6 rfl rfl (sub_cons 7 rfl rfl (sub_cons 8 rfl rfl (sub_cons 45 rfl rfl (sub_cons 46 rfl rfl (sub_cons 47 rfl (eq_int (by simp)) (sub_nil _))))))))) (next2 (i + 1, vt, Cw10) _ ⟨(by first | omega | (simp only; omega)), hF, hT, he, (by simp only; unfold turnR at ht ⊢; rw [htk, List.filter_append, List.filter_cons, if_neg (by simpa using h54), List.filter_nil, List.append_nil]; exact ht)⟩ (by first | omega | (simp only; omega)))
      · skip
        have hil : i = el.length := by omega
        rw [hil, List.take_length, ← turnL_succ] at ht
        refine run_exit (id := 2) (by kernel_rfl) rfl ?_
        refine run_inBlock ?_
        refine run_plain (id := 9) (ops := F7.o9) [(0, true), (1, true), (2, true)] (by kernel_rfl) (by kernel_rfl) ?_
        refine yS (by kernel_rfl : opAt F7.o9 0 = some (some 43, .move (.tmp 8), none)) rfl rfl (fun w' hS => val_move rfl) ?_
        refine yS (by kernel_rfl : opAt F7.o9 1 = some (some 44, .binOp .add 3 (.tmp 43) (.const (.int .i64 1)) 3, none)) rfl rfl (fun w' hS => val_addi rfl rfl (by omega) (by omega)) ?_
        refine yS (by kernel_rfl : opAt F7.o9 2 = some (some 8, .assign (.tmp 44), none)) rfl rfl (fun w' hS => val_assign rfl) ?_
        refine Sch.nil ?_
        refine kp (sub_cons 4 rfl rfl (sub_cons 5 rfl rfl (sub_cons 6 rfl rfl (sub_cons 7 rfl rfl (sub_cons 8 rfl (eq_int (by simp)) (sub_nil _)))))) (next1 (k + 1, vt, C1) _ ⟨(by first | omega | (simp only; omega)), hF, hT, he, ht⟩ (by first | omega | (simp only; omega)))
    · skip
      have hkm : k = m := by omega
      rw [hkm] at ht htl
      obtain ⟨tl, htd⟩ : ∃ x, x = turnL el m := ⟨_, rfl⟩
      rw [← htd] at ht htl
      have hml : m * el.length ≤ 320 := Nat.le_trans (Nat.mul_le_mul (show m ≤ 5 by omega) hel) (by decide)
      obtain ⟨hct, hlaw⟩ := turn_law hEV (by omega : m * el.length ≤ 4096)
      rw [← htd] at hct hlaw
      have hpt := fun (Ul Vl : List Int) (h : PrI n m el Ul Vl) => h.turn hEV (by omega : m * el.length ≤ 4096)
      rw [← htd] at hpt
      replace hF := hF.frz 4
      replace hT := hT.frz (n := 4) (fun b => Nat.lt_of_lt_of_le (col1_lt2 C b) (by decide))
      replace he := he.frz 4
      have ht_ := ht.frz (n := 4) (by decide) (by omega)
      replace ht := ht_
      clear ht_
      refine run_exit (id := 0) (by kernel_rfl) rfl ?_
      refine run_seq (x := F7.c53) (y := F7.c54) (by kernel_rfl) ?_
      refine run_plain (id := 16) (ops := F7.o16) [(0, true), (1, true), (2, true), (3, false), (4, true), (5, true), (6, true), (7, true), (8, true), (9, true), (10, true)] (by kernel_rfl) (by kernel_rfl) ?_
      refine yS (by kernel_rfl : opAt F7.o16 0 = some (some 67, .move (.tmp 4), none)) rfl rfl (fun w' hS => val_move rfl) ?_
      refine yS (by kernel_rfl : opAt F7.o16 1 = some (some 68, .move (.tmp 5), none)) rfl rfl (fun w' hS => val_move rfl) ?_
      refine yS (by kernel_rfl : opAt F7.o16 2 = some (some 69, .move (.tmp 6), none)) rfl rfl (fun w' hS => val_move rfl) ?_
      refine cS (by kernel_rfl : opAt F7.o16 3 = some (some 70, .call { callee := .value (.func 19), args := #[(.tmp 67), (.tmp 68), (.tmp 69)], argTypes := #[3, 3, 23] }, none)) rfl rfl (ent Try.call19 rfl) (solve_ok (n := n) (m := m) (l := el) hF he) ?_
      rintro vw14 w14 ⟨u1, rfl, hs, hc1⟩
      refine ⟨trivial, ?_⟩
      replace hF := hF.st hs
      replace hT := hT.trans hs (by simp)
      replace he := he.st hs (by first | decide | (simp <;> omega))
      replace ht := ht.st hs (by first | decide | (simp <;> omega))
      rw [hEc]
      refine yS (by kernel_rfl : opAt F7.o16 4 = some (some 66, .move (.tmp 70), none)) rfl rfl (fun w' hS => val_move rfl) ?_
      refine yS (by kernel_rfl : opAt F7.o16 5 = some (some 71, .extract (.tmp 66) 0, none)) rfl rfl (fun w' hS => val_extract rfl rfl) ?_
      refine yS (by kernel_rfl : opAt F7.o16 6 = some (some 72, .extract (.tmp 66) 1, none)) rfl rfl (fun w' hS => val_extract rfl rfl) ?_
      refine yS (by kernel_rfl : opAt F7.o16 7 = some (some 73, .extract (.tmp 66) 2, none)) rfl rfl (fun w' hS => val_extract rfl rfl) ?_
      refine yS (by kernel_rfl : opAt F7.o16 8 = some (some 11, .assign (.tmp 71), none)) rfl rfl (fun w' hS => val_assign rfl) ?_
      refine yS (by kernel_rfl : opAt F7.o16 9 = some (some 12, .assign (.tmp 72), none)) rfl rfl (fun w' hS => val_assign rfl) ?_
      refine yS (by kernel_rfl : opAt F7.o16 10 = some (some 13, .assign (.tmp 73), none)) rfl rfl (fun w' hS => val_assign rfl) ?_
      refine Sch.nil ?_
      refine run_seq (x := F7.c55) (y := F7.c56) (by kernel_rfl) ?_
      refine run_plain (id := 17) (ops := F7.o17) [(0, true), (1, true), (2, true), (3, false), (4, true), (5, true), (6, true), (7, true), (8, true), (9, true), (10, true)] (by kernel_rfl) (by kernel_rfl) ?_
      refine yS (by kernel_rfl : opAt F7.o17 0 = some (some 75, .move (.tmp 5), none)) rfl rfl (fun w' hS => val_move rfl) ?_
      refine yS (by kernel_rfl : opAt F7.o17 1 = some (some 76, .move (.tmp 4), none)) rfl rfl (fun w' hS => val_move rfl) ?_
      refine yS (by kernel_rfl : opAt F7.o17 2 = some (some 77, .move (.tmp 7), none)) rfl rfl (fun w' hS => val_move rfl) ?_
      refine cS (by kernel_rfl : opAt F7.o17 3 = some (some 78, .call { callee := .value (.func 19), args := #[(.tmp 75), (.tmp 76), (.tmp 77)], argTypes := #[3, 3, 23] }, none)) rfl rfl (ent Try.call19 rfl) (solve_ok (n := m) (m := n) (l := tl) hF ht) ?_
      rintro vw15 w15 ⟨u2, rfl, hs, hc2⟩
      refine ⟨trivial, ?_⟩
      replace hF := hF.st hs
      replace hT := hT.trans hs (by simp)
      replace he := he.st hs (by first | decide | (simp <;> omega))
      replace ht := ht.st hs (by first | decide | (simp <;> omega))
      replace hc1 := hc1.st hs (by first | decide | (simp <;> omega))
      rw [hct]
      refine yS (by kernel_rfl : opAt F7.o17 4 = some (some 74, .move (.tmp 78), none)) rfl rfl (fun w' hS => val_move rfl) ?_
      refine yS (by kernel_rfl : opAt F7.o17 5 = some (some 79, .extract (.tmp 74) 0, none)) rfl rfl (fun w' hS => val_extract rfl rfl) ?_
      refine yS (by kernel_rfl : opAt F7.o17 6 = some (some 80, .extract (.tmp 74) 1, none)) rfl rfl (fun w' hS => val_extract rfl rfl) ?_
      refine yS (by kernel_rfl : opAt F7.o17 7 = some (some 81, .extract (.tmp 74) 2, none)) rfl rfl (fun w' hS => val_extract rfl rfl) ?_
      refine yS (by kernel_rfl : opAt F7.o17 8 = some (some 14, .assign (.tmp 79), none)) rfl rfl (fun w' hS => val_assign rfl) ?_
      refine yS (by kernel_rfl : opAt F7.o17 9 = some (some 15, .assign (.tmp 80), none)) rfl rfl (fun w' hS => val_assign rfl) ?_
      refine yS (by kernel_rfl : opAt F7.o17 10 = some (some 16, .assign (.tmp 81), none)) rfl rfl (fun w' hS => val_assign rfl) ?_
      refine Sch.nil ?_
      refine run_seq (x := F7.c57) (y := F7.c58) (by kernel_rfl) ?_
      refine run_plain (id := 18) (ops := F7.o18) [(0, true), (1, true), (2, true), (3, false), (4, true), (5, true), (6, true), (7, true), (8, true), (9, true), (10, true)] (by kernel_rfl) (by kernel_rfl) ?_
      refine yS (by kernel_rfl : opAt F7.o18 0 = some (some 83, .move (.tmp 4), none)) rfl rfl (fun w' hS => val_move rfl) ?_
      refine yS (by kernel_rfl : opAt F7.o18 1 = some (some 84, .move (.tmp 5), none)) rfl rfl (fun w' hS => val_move rfl) ?_
      refine yS (by kernel_rfl : opAt F7.o18 2 = some (some 85, .move (.tmp 6), none)) rfl rfl (fun w' hS => val_move rfl) ?_
      refine cS (by kernel_rfl : opAt F7.o18 3 = some (some 86, .call { callee := .value (.func 24), args := #[(.tmp 83), (.tmp 84), (.tmp 85)], argTypes := #[3, 3, 23] }, none)) rfl rfl (ent Try.call24 rfl) (prices_ok (n := n) (m := m) hF he) ?_
      rintro vw16 w16 ⟨pu, pv, Ul, Vl, rfl, hs, hu, hv, hpr⟩
      refine ⟨trivial, ?_⟩
      replace hF := hF.st hs
      replace hT := hT.trans hs (by simp)
      replace he := he.st hs (by first | decide | (simp <;> omega))
      replace ht := ht.st hs (by first | decide | (simp <;> omega))
      replace hc1 := hc1.st hs (by first | decide | (simp <;> omega))
      replace hc2 := hc2.st hs (by first | decide | (simp <;> omega))
      rw [hEc]
      refine yS (by kernel_rfl : opAt F7.o18 4 = some (some 82, .move (.tmp 86), none)) rfl rfl (fun w' hS => val_move rfl) ?_
      refine yS (by kernel_rfl : opAt F7.o18 5 = some (some 87, .extract (.tmp 82) 0, none)) rfl rfl (fun w' hS => val_extract rfl rfl) ?_
      refine yS (by kernel_rfl : opAt F7.o18 6 = some (some 88, .extract (.tmp 82) 1, none)) rfl rfl (fun w' hS => val_extract rfl rfl) ?_
      refine yS (by kernel_rfl : opAt F7.o18 7 = some (some 89, .extract (.tmp 82) 2, none)) rfl rfl (fun w' hS => val_extract rfl rfl) ?_
      refine yS (by kernel_rfl : opAt F7.o18 8 = some (some 17, .assign (.tmp 87), none)) rfl rfl (fun w' hS => val_assign rfl) ?_
      refine yS (by kernel_rfl : opAt F7.o18 9 = some (some 18, .assign (.tmp 88), none)) rfl rfl (fun w' hS => val_assign rfl) ?_
      refine yS (by kernel_rfl : opAt F7.o18 10 = some (some 19, .assign (.tmp 89), none)) rfl rfl (fun w' hS => val_assign rfl) ?_
      refine Sch.nil ?_
      refine run_seq (x := F7.c59) (y := F7.c60) (by kernel_rfl) ?_
      refine run_plain (id := 19) (ops := F7.o19) [(0, true), (1, true), (2, true), (3, true), (4, true), (5, true), (6, true), (7, true), (8, true), (9, true), (10, true), (11, true), (12, true), (13, true), (14, true), (15, true), (16, true), (17, true), (18, true), (19, true), (20, true), (21, true), (22, false), (23, true), (24, true)] (by kernel_rfl) (by kernel_rfl) ?_
      refine yS (by kernel_rfl : opAt F7.o19 0 = some (some 90, .move (.tmp 13), none)) rfl rfl (fun w' hS => val_move rfl) ?_
      refine yS (by kernel_rfl : opAt F7.o19 1 = some (some 91, .binOp .eql 35 (.tmp 90) (.const (.int .i64 0)) 35, none)) rfl rfl (fun w' hS => val_is (val_eql rfl rfl) (show _ = Value.bool true from congrArg Value.bool (decide_eq_true (rfl)))) ?_
      refine yS (by kernel_rfl : opAt F7.o19 2 = some (some 92, .move (.tmp 91), none)) rfl rfl (fun w' hS => val_move rfl) ?_
      refine yS (by kernel_rfl : opAt F7.o19 3 = some (some 93, .move (.tmp 16), (some (2, true)))) rfl rfl (fun w' hS => val_move rfl) ?_
      refine yS (by kernel_rfl : opAt F7.o19 4 = some (some 94, .binOp .eql 35 (.tmp 93) (.const (.int .i64 0)) 35, (some (2, true)))) rfl rfl (fun w' hS => val_is (val_eql rfl rfl) (show _ = Value.bool true from congrArg Value.bool (decide_eq_true (rfl)))) ?_
      refine yS (by kernel_rfl : opAt F7.o19 5 = some (some 95, .pick (.tmp 92) (.tmp 94) (.const (.bool false)), none)) rfl rfl (fun w' hS => val_pick_t rfl rfl) ?_
      refine yS (by kernel_rfl : opAt F7.o19 6 = some (some 96, .move (.tmp 95), none)) rfl rfl (fun w' hS => val_move rfl) ?_
      refine yS (by kernel_rfl : opAt F7.o19 7 = some (some 97, .move (.tmp 19), (some (6, true)))) rfl rfl (fun w' hS => val_move rfl) ?_
      refine yS (by kernel_rfl : opAt F7.o19 8 = some (some 98, .binOp .eql 35 (.tmp 97) (.const (.int .i64 0)) 35, (some (6, true)))) rfl rfl (fun w' hS => val_is (val_eql rfl rfl) (show _ = Value.bool true from congrArg Value.bool (decide_eq_true (rfl)))) ?_
      refine yS (by kernel_rfl : opAt F7.o19 9 = some (some 99, .pick (.tmp 96) (.tmp 98) (.const (.bool false)), none)) rfl rfl (fun w' hS => val_pick_t rfl rfl) ?_
      refine yS (by kernel_rfl : opAt F7.o19 10 = some (some 100, .move (.tmp 99), none)) rfl rfl (fun w' hS => val_move rfl) ?_
      refine yS (by kernel_rfl : opAt F7.o19 11 = some (some 101, .move (.tmp 12), (some (10, true)))) rfl rfl (fun w' hS => val_move rfl) ?_
      refine yS (by kernel_rfl : opAt F7.o19 12 = some (some 102, .move (.tmp 15), (some (10, true)))) rfl rfl (fun w' hS => val_move rfl) ?_
      refine yS (by kernel_rfl : opAt F7.o19 13 = some (some 103, .binOp .eql 3 (.tmp 101) (.tmp 102) 3, (some (10, true)))) rfl rfl (fun w' hS => val_is (val_eql rfl rfl) (show _ = Value.bool true from congrArg Value.bool (decide_eq_true (hlaw.symm)))) ?_
      refine yS (by kernel_rfl : opAt F7.o19 14 = some (some 104, .pick (.tmp 100) (.tmp 103) (.const (.bool false)), none)) rfl rfl (fun w' hS => val_pick_t rfl rfl) ?_
      refine yS (by kernel_rfl : opAt F7.o19 15 = some (some 105, .move (.tmp 104), none)) rfl rfl (fun w' hS => val_move rfl) ?_
      refine yS (by kernel_rfl : opAt F7.o19 16 = some (some 106, .move (.tmp 5), (some (15, true)))) rfl rfl (fun w' hS => val_move rfl) ?_
      refine yS (by kernel_rfl : opAt F7.o19 17 = some (some 107, .move (.tmp 4), (some (15, true)))) rfl rfl (fun w' hS => val_move rfl) ?_
      refine yS (by kernel_rfl : opAt F7.o19 18 = some (some 108, .move (.tmp 7), (some (15, true)))) rfl rfl (fun w' hS => val_move rfl) ?_
      refine yS (by kernel_rfl : opAt F7.o19 19 = some (some 109, .move (.tmp 14), (some (15, true)))) rfl rfl (fun w' hS => val_move rfl) ?_
      refine yS (by kernel_rfl : opAt F7.o19 20 = some (some 110, .move (.tmp 18), (some (15, true)))) rfl rfl (fun w' hS => val_move rfl) ?_
      refine yS (by kernel_rfl : opAt F7.o19 21 = some (some 111, .move (.tmp 17), (some (15, true)))) rfl rfl (fun w' hS => val_move rfl) ?_
      have hpv : pvB m n tl (solL m n tl) Vl Ul = true := pvB_iff.2 (sol_pv hct (hpt _ _ (hpr hEc)))
      have hsl := outS_len m n (bst m n (pos (edW tl)))
      have hsle : (solL m n tl).length ≤ m := by rw [solL_bst hct]; simpa using hsl
      refine cS (by kernel_rfl : opAt F7.o19 22 = some (some 112, .call { callee := .value (.func 22), args := #[(.tmp 106), (.tmp 107), (.tmp 108), (.tmp 109), (.tmp 110), (.tmp 111)], argTypes := #[3, 3, 23, 24, 22, 22] }, (some (15, true)))) rfl rfl (ent Try.call22 rfl) (proves_ok (n := m) (m := n) hF ht hc2 hv hu (by omega)) ?_
      rintro vw17 w17 ⟨rfl, hs⟩
      rw [hpv]
      refine ⟨trivial, ?_⟩
      replace hF := hF.st hs
      replace hT := hT.trans hs (by simp)
      replace he := he.st hs (by first | decide | (simp <;> omega))
      replace ht := ht.st hs (by first | decide | (simp <;> omega))
      replace hc1 := hc1.st hs (by first | decide | (simp <;> omega))
      replace hc2 := hc2.st hs (by first | decide | (simp <;> omega))
      replace hu := hu.st hs (by first | decide | (simp <;> omega))
      replace hv := hv.st hs (by first | decide | (simp <;> omega))
      refine yS (by kernel_rfl : opAt F7.o19 23 = some (some 113, .pick (.tmp 105) (.tmp 112) (.const (.bool false)), none)) rfl rfl (fun w' hS => val_pick_t rfl rfl) ?_
      refine yS (by kernel_rfl : opAt F7.o19 24 = some (some 2, .assign (.tmp 113), none)) rfl rfl (fun w' hS => val_assign rfl) ?_
      refine Sch.nil ?_
      refine run_ret1 (by kernel_rfl) Try.func7 Try.results7 rfl ?_
      exact ⟨rfl, hT.out1 (by decide)⟩
namespace F7B
noncomputable def c0 : Code := bodyOf Try.f7
noncomputable def c1 : Code := cl c0
noncomputable def o0 : Array Oper := rops c1
noncomputable def c2 : Code := cr c0
noncomputable def c3 : Code := cl c2
noncomputable def c4 : Code := cl c3
noncomputable def o1 : Array Oper := rops c4
noncomputable def c5 : Code := cr c3
noncomputable def c6 : Code := cl c5
noncomputable def c7 : Code := cl c6
noncomputable def o2 : Array Oper := rops c7
noncomputable def c8 : Code := cr c6
noncomputable def c9 : Code := cr c5
noncomputable def c10 : Code := cr c2
noncomputable def c11 : Code := cl c10
noncomputable def o3 : Array Oper := rops c11
noncomputable def c12 : Code := cr c10
noncomputable def c13 : Code := cl c12
noncomputable def o4 : Array Oper := rops c13
noncomputable def c14 : Code := cr c12
noncomputable def c15 : Code := cl c14
noncomputable def o5 : Array Oper := rops c15
noncomputable def c16 : Code := cr c14
noncomputable def c17 : Code := cl c16
noncomputable def o6 : Array Oper := rops c17
noncomputable def c18 : Code := cr c16
noncomputable def c19 : Code := cl c18
noncomputable def c20 : Code := cl c19
noncomputable def o7 : Array Oper := rops c20
noncomputable def c21 : Code := cr c19
noncomputable def c22 : Code := cl c21
noncomputable def c23 : Code := cl c22
noncomputable def c24 : Code := cl c23
noncomputable def c25 : Code := cl c24
noncomputable def o8 : Array Oper := rops c25
noncomputable def c26 : Code := cr c24
noncomputable def c27 : Code := cl c26
noncomputable def c28 : Code := cr c26
noncomputable def c29 : Code := cr c23
noncomputable def c30 : Code := cl c29
noncomputable def c31 : Code := cl c30
noncomputable def c32 : Code := cl c31
noncomputable def o10 : Array Oper := rops c32
noncomputable def c33 : Code := cr c31
noncomputable def c34 : Code := cl c33
noncomputable def c35 : Code := cl c34
noncomputable def c36 : Code := cl c35
noncomputable def o11 : Array Oper := rops c36
noncomputable def c37 : Code := cr c35
noncomputable def c38 : Code := cl c37
noncomputable def c39 : Code := cl c38
noncomputable def c40 : Code := cr c38
noncomputable def c41 : Code := cr c37
noncomputable def c42 : Code := cl c41
noncomputable def c43 : Code := cl c42
noncomputable def c44 : Code := cl c43
noncomputable def o12 : Array Oper := rops c44
noncomputable def c45 : Code := cr c43
noncomputable def c46 : Code := cl c45
noncomputable def o13 : Array Oper := rops c46
noncomputable def c47 : Code := cr c45
noncomputable def c48 : Code := cl c47
noncomputable def o14 : Array Oper := rops c48
noncomputable def c49 : Code := cr c47
noncomputable def c50 : Code := cr c41
noncomputable def o15 : Array Oper := rops c50
noncomputable def c51 : Code := cr c29
noncomputable def o9 : Array Oper := rops c51
noncomputable def c52 : Code := cr c18
noncomputable def c53 : Code := cl c52
noncomputable def o16 : Array Oper := rops c53
noncomputable def c54 : Code := cr c52
noncomputable def c55 : Code := cl c54
noncomputable def o17 : Array Oper := rops c55
noncomputable def c56 : Code := cr c54
noncomputable def c57 : Code := cl c56
noncomputable def o18 : Array Oper := rops c57
noncomputable def c58 : Code := cr c56
noncomputable def c59 : Code := cl c58
noncomputable def o19 : Array Oper := rops c59
noncomputable def c60 : Code := cr c58
end F7B
/-- .. where more is handed than it looks at. -/
theorem assignmentTurns_big {w₀ : World} {C : Nat → Nat} {p : Option Addr} {n c : Nat} (hF : Lim w₀ C) (hn : 400 < n) : Calls Try.prog 7 #[.slice p n c] w₀ (Ret fun v w' => v = .bool true ∧ Stp [] w₀ C w' C) := by
  have hF0 := hF
  have hT := Stp.refl [2, 3, 4, 5, 6, 7, 8, 9] w₀ (col1 C)
  replace hF := hF.col1
  refine calls_start (c := F7B.c0) (N := 114) [.slice p n c] Try.func7 (by kernel_rfl) (by kernel_rfl) (by kernel_rfl) ?_
  show Run _ _ _ _ [(0, .slice p n c)] _ _
  refine run_seq (x := F7B.c1) (y := F7B.c2) (by kernel_rfl) ?_
  refine run_plain (id := 0) (ops := F7B.o0) [(0, true)] (by kernel_rfl) (by kernel_rfl) ?_
  refine yS (by kernel_rfl : opAt F7B.o0 0 = some (some 2, .assign (.const (.bool false)), none)) rfl rfl (fun w' hS => val_assign rfl) ?_
  refine Sch.nil ?_
  refine run_seq (x := F7B.c3) (y := F7B.c10) (by kernel_rfl) ?_
  refine run_seq (x := F7B.c4) (y := F7B.c5) (by kernel_rfl) ?_
  refine run_plain (id := 1) (ops := F7B.o1) [(0, false), (1, true), (2, true), (3, true), (4, false), (5, true), (6, true)] (by kernel_rfl) (by kernel_rfl) ?_
  refine cS (by kernel_rfl : opAt F7B.o1 0 = some (some 20, .call { callee := .value (.func 10), args := #[], argTypes := #[] }, none)) rfl rfl (ent Try.call10 rfl) (awake_ok hF) ?_
  rintro vw1 w1 ⟨rfl, hs⟩
  refine ⟨trivial, ?_⟩
  replace hF := hF.st hs
  replace hT := hT.trans hs (by simp)
  refine yS (by kernel_rfl : opAt F7B.o1 1 = some (some 21, .unOp .not 4 (.tmp 20), none)) rfl rfl (fun w' hS => val_not rfl) ?_
  refine yS (by kernel_rfl : opAt F7B.o1 2 = some (some 22, .move (.tmp 21), none)) rfl rfl (fun w' hS => val_move rfl) ?_
  refine yS (by kernel_rfl : opAt F7B.o1 3 = some (some 23, .move (.tmp 0), (some (2, false)))) rfl rfl (fun w' hS => val_move rfl) ?_
  refine cS (by kernel_rfl : opAt F7B.o1 4 = some (some 24, .call { callee := .value (.func 11), args := #[(.tmp 23)], argTypes := #[22] }, (some (2, false)))) rfl rfl (ent Try.call11 rfl) (few_ok _ _ _ _) ?_
  rintro vw2 w2 ⟨rfl, rfl⟩
  refine ⟨trivial, ?_⟩
  rw [decide_eq_false (show ¬ (n : Int) ≤ 400 by omega)]
  refine yS (by kernel_rfl : opAt F7B.o1 5 = some (some 25, .unOp .not 4 (.tmp 24), (some (2, false)))) rfl rfl (fun w' hS => val_not rfl) ?_
  refine yS (by kernel_rfl : opAt F7B.o1 6 = some (some 26, .pick (.tmp 22) (.const (.bool true)) (.tmp 25), none)) rfl rfl (fun w' hS => val_pick_f rfl rfl) ?_
  refine Sch.nil ?_
  refine run_cond (x := F7B.c6) (y := F7B.c9) (o := .tmp 26) (b := true) (by kernel_rfl) rfl (fun _ => ?_) (fun h => by cases h)
  refine run_seq (x := F7B.c7) (y := F7B.c8) (by kernel_rfl) ?_
  refine run_plain (id := 2) (ops := F7B.o2) [(0, false), (1, true)] (by kernel_rfl) (by kernel_rfl) ?_
  refine cS (by kernel_rfl : opAt F7B.o2 0 = some (some 27, .call { callee := .value (.func 10), args := #[], argTypes := #[] }, none)) rfl rfl (ent Try.call10 rfl) (awake_ok hF) ?_
  rintro vw3 w3 ⟨rfl, hs⟩
  refine ⟨trivial, ?_⟩
  replace hF := hF.st hs
  replace hT := hT.trans hs (by simp)
  refine yS (by kernel_rfl : opAt F7B.o2 1 = some (some 2, .assign (.tmp 27), none)) rfl rfl (fun w' hS => val_assign rfl) ?_
  refine Sch.nil ?_
  refine run_ret1 (by kernel_rfl) Try.func7 Try.results7 rfl ?_
  exact ⟨rfl, hT.out1 (by decide)⟩
end Go.Proofs.Ytgooehopkmbkfaa
