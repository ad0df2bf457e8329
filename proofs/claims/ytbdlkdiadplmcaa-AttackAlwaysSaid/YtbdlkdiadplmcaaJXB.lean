/- Steps through functions of the program. -/
import Derived.Test.YtbdlkdiadplmcaaJXA
import Derived.Test.YtbdlkdiadplmcaaL2
set_option linter.unusedVariables false
set_option linter.unusedSimpArgs false
set_option maxRecDepth 100000
set_option maxHeartbeats 4000000
namespace Go.Proofs.Ytbdlkdiadplmcaa
open Go.K Go.K.Rep

namespace F48
noncomputable def c0 : Code := bodyOf Try.f48
noncomputable def c1 : Code := cl c0
noncomputable def o0 : Array Oper := rops c1
noncomputable def c2 : Code := cr c0
noncomputable def c3 : Code := cl c2
noncomputable def o1 : Array Oper := rops c3
noncomputable def c4 : Code := cr c2
end F48
theorem has_ok {w₀ : World} {C : Nat → Nat} {x : Bits} {u : Value} {i : Nat} (hF : Lim w₀ C) (hw : RV w₀ (Mc C) x.words u) (hv : validB x = true) (hi : (i : Int) < x.len) : Calls Try.prog 48 #[.agg #[.int .i64 x.len, u], .int .i64 i] w₀ (Ret fun v w' => v = .bool (decide (bitI x i = 1)) ∧ Stp [] w₀ C w' C) := by
  have hF0 := hF
  have hT := Stp.refl [2, 3, 4, 5, 6, 7, 8, 9] w₀ (col1 C)
  replace hF := hF.col1
  replace hw : RV w₀ (Mc (col1 C)) x.words u := by rw [Mc_col1]; exact hw
  have hvv := validB_iff.1 hv
  refine calls_start (c := F48.c0) (N := 30) [.agg #[.int .i64 x.len, u], .int .i64 i] Try.func48 (by kernel_rfl) (by kernel_rfl) (by kernel_rfl) ?_
  show Run _ _ _ _ [(0, .agg #[.int .i64 x.len, u]), (1, .int .i64 i)] _ _
  refine run_seq (x := F48.c1) (y := F48.c2) (by kernel_rfl) ?_
  refine run_plain (id := 0) (ops := F48.o0) [(0, false), (1, true)] (by kernel_rfl) (by kernel_rfl) ?_
  refine aS (by kernel_rfl : opAt F48.o0 0 = some (some 2, .box 33 (.tmp 0), none)) rfl rfl (a_box (cs := [.int .i64 x.len, u]) hF 3 rfl rfl) ?_
  rintro _ w1 ⟨Cw1, bw1, rfl, hs, hx, hF⟩
  refine ⟨trivial, ?_⟩
  replace hT := hT.trans hs (by simp)
  replace hw := hw.st hs (by first | decide | (simp <;> omega))
  refine yS (by kernel_rfl : opAt F48.o0 1 = some (some 4, .assign (.const (.bool false)), none)) rfl rfl (fun w' hS => val_assign rfl) ?_
  refine Sch.nil ?_
  refine run_seq (x := F48.c3) (y := F48.c4) (by kernel_rfl) ?_
  refine run_plain (id := 1) (ops := F48.o1) [(0, false), (1, false), (2, true), (3, true), (4, true), (5, true), (6, true), (7, true), (8, true), (9, false), (10, true), (11, true), (12, true), (13, true), (14, false), (15, true), (16, true), (17, true), (18, false), (19, true), (20, true), (21, true), (22, true), (23, true), (24, true), (25, true)] (by kernel_rfl) (by kernel_rfl) ?_
  refine nS (by kernel_rfl : opAt F48.o1 0 = some (some 5, .load 33 (.tmp 2), none)) rfl rfl trivial (val_loadOwnAgg (n := 2) (vs := [.int .i64 x.len, u]) hx.at_ (by kernel_rfl) (by kernel_rfl) rfl rfl rfl) ?_
  refine cS (by kernel_rfl : opAt F48.o1 1 = some (some 6, .call { callee := .value (.func 13), args := #[(.tmp 5)], argTypes := #[33] }, none)) rfl rfl (ent Try.call13 rfl) (refValid_ok hF hw) ?_
  rintro vw2 w2 ⟨rfl, hs⟩
  refine ⟨trivial, ?_⟩
  replace hF := hF.st hs
  replace hT := hT.trans hs (by simp)
  replace hw := hw.st hs (by first | decide | (simp <;> omega))
  replace hx := hx.st hs (by first | decide | (simp <;> omega))
  rw [hv]
  refine yS (by kernel_rfl : opAt F48.o1 2 = some (some 7, .move (.tmp 6), none)) rfl rfl (fun w' hS => val_move rfl) ?_
  refine yS (by kernel_rfl : opAt F48.o1 3 = some (some 8, .move (.tmp 1), (some (2, true)))) rfl rfl (fun w' hS => val_move rfl) ?_
  refine yS (by kernel_rfl : opAt F48.o1 4 = some (some 9, .binOp .geq 3 (.tmp 8) (.const (.int .i64 0)) 3, (some (2, true)))) rfl rfl (fun w' hS => val_T (val_geq rfl rfl) (by omega)) ?_
  refine yS (by kernel_rfl : opAt F48.o1 5 = some (some 10, .pick (.tmp 7) (.tmp 9) (.const (.bool false)), none)) rfl rfl (fun w' hS => val_pick_t rfl rfl) ?_
  refine yS (by kernel_rfl : opAt F48.o1 6 = some (some 11, .move (.tmp 10), none)) rfl rfl (fun w' hS => val_move rfl) ?_
  refine yS (by kernel_rfl : opAt F48.o1 7 = some (some 12, .move (.tmp 1), (some (6, true)))) rfl rfl (fun w' hS => val_move rfl) ?_
  refine yS (by kernel_rfl : opAt F48.o1 8 = some (some 13, .fieldAddr 33 (.tmp 2) 0, (some (6, true)))) rfl rfl (fun w' hS => val_fieldAddr (off := 0) (by kernel_rfl) rfl) ?_
  refine nS (by kernel_rfl : opAt F48.o1 9 = some (some 14, .load 3 (.tmp 13), (some (6, true)))) rfl rfl trivial (val_loadOwn hx.at_ (by kernel_rfl) rfl rfl) ?_
  refine yS (by kernel_rfl : opAt F48.o1 10 = some (some 15, .binOp .lss 3 (.tmp 12) (.tmp 14) 3, (some (6, true)))) rfl rfl (fun w' hS => val_T (val_lss rfl rfl) hi) ?_
  refine yS (by kernel_rfl : opAt F48.o1 11 = some (some 16, .pick (.tmp 11) (.tmp 15) (.const (.bool false)), none)) rfl rfl (fun w' hS => val_pick_t rfl rfl) ?_
  refine yS (by kernel_rfl : opAt F48.o1 12 = some (some 17, .move (.tmp 16), none)) rfl rfl (fun w' hS => val_move rfl) ?_
  refine yS (by kernel_rfl : opAt F48.o1 13 = some (some 18, .fieldAddr 33 (.tmp 2) 1, (some (12, true)))) rfl rfl (fun w' hS => val_fieldAddr (off := 1) (by kernel_rfl) rfl) ?_
  refine nS (by kernel_rfl : opAt F48.o1 14 = some (some 19, .load 31 (.tmp 18), (some (12, true)))) rfl rfl trivial (val_loadOwn hx.at_ (by kernel_rfl) rfl rfl) ?_
  refine yS (by kernel_rfl : opAt F48.o1 15 = some (some 20, .move (.tmp 1), (some (12, true)))) rfl rfl (fun w' hS => val_move rfl) ?_
  refine yS (by kernel_rfl : opAt F48.o1 16 = some (some 21, .binOp .quo 3 (.tmp 20) (.const (.int .i64 64)) 3, (some (12, true)))) rfl rfl (fun w' hS => val_divi rfl rfl (by omega) (by omega) (by omega)) ?_
  refine iS (e := 59) (by kernel_rfl : opAt F48.o1 17 = some (some 22, .indexAddr 31 (.tmp 19) (.tmp 21), (some (12, true)))) rfl rfl hw rfl (by kernel_rfl) rfl (by omega) (by omega) ?_
  intro b22 o22 h22
  try simp only [Int.toNat_natCast] at h22
  refine lN (by kernel_rfl : opAt F48.o1 18 = some (some 23, .load 59 (.tmp 22), (some (12, true)))) rfl rfl trivial h22 (by kernel_rfl) rfl rfl ?_
  intro v23 g23
  obtain rfl := rv_num.1 g23
  refine yS (by kernel_rfl : opAt F48.o1 19 = some (some 24, .move (.tmp 1), (some (12, true)))) rfl rfl (fun w' hS => val_move rfl) ?_
  refine yS (by kernel_rfl : opAt F48.o1 20 = some (some 25, .binOp .rem 3 (.tmp 24) (.const (.int .i64 64)) 3, (some (12, true)))) rfl rfl (fun w' hS => val_modi rfl rfl (by omega) (by omega)) ?_
  refine yS (by kernel_rfl : opAt F48.o1 21 = some (some 26, .binOp .shr 59 (.tmp 23) (.tmp 25) 3, (some (12, true)))) rfl rfl (fun w' hS => val_shr rfl rfl (by omega)) ?_
  refine yS (by kernel_rfl : opAt F48.o1 22 = some (some 27, .binOp .and 59 (.tmp 26) (.const (.int .u64 1)) 59, (some (12, true)))) rfl rfl (fun w' hS => val_and rfl rfl) ?_
  refine yS (by kernel_rfl : opAt F48.o1 23 = some (some 28, .binOp .eql 59 (.tmp 27) (.const (.int .u64 1)) 59, (some (12, true)))) rfl rfl (fun w' hS => val_eql rfl rfl) ?_
  refine yS (by kernel_rfl : opAt F48.o1 24 = some (some 29, .pick (.tmp 17) (.tmp 28) (.const (.bool false)), none)) rfl rfl (fun w' hS => val_pick_t rfl rfl) ?_
  refine yS (by kernel_rfl : opAt F48.o1 25 = some (some 4, .assign (.tmp 29), none)) rfl rfl (fun w' hS => val_assign rfl) ?_
  refine Sch.nil ?_
  refine run_ret1 (by kernel_rfl) Try.func48 Try.results48 rfl ?_
  exact ⟨by unfold bitI; rw [getDi (by omega)], hT.out1 (by decide)⟩
namespace F26
noncomputable def c0 : Code := bodyOf Try.f26
noncomputable def c1 : Code := cl c0
noncomputable def o0 : Array Oper := rops c1
noncomputable def c2 : Code := cr c0
noncomputable def c3 : Code := cl c2
noncomputable def o1 : Array Oper := rops c3
noncomputable def c4 : Code := cr c2
noncomputable def c5 : Code := cl c4
noncomputable def c6 : Code := cl c5
noncomputable def o2 : Array Oper := rops c6
noncomputable def c7 : Code := cr c5
noncomputable def c8 : Code := cl c7
noncomputable def c9 : Code := cl c8
noncomputable def c10 : Code := cl c9
noncomputable def c11 : Code := cl c10
noncomputable def o3 : Array Oper := rops c11
noncomputable def c12 : Code := cr c10
noncomputable def c13 : Code := cl c12
noncomputable def c14 : Code := cr c12
noncomputable def c15 : Code := cr c9
noncomputable def c16 : Code := cl c15
noncomputable def c17 : Code := cl c16
noncomputable def c18 : Code := cl c17
noncomputable def o5 : Array Oper := rops c18
noncomputable def c19 : Code := cr c17
noncomputable def c20 : Code := cl c19
noncomputable def o6 : Array Oper := rops c20
noncomputable def c21 : Code := cr c19
noncomputable def c22 : Code := cr c15
noncomputable def o4 : Array Oper := rops c22
noncomputable def c23 : Code := cr c4
noncomputable def c24 : Code := cl c23
noncomputable def o7 : Array Oper := rops c24
noncomputable def c25 : Code := cr c23
end F26
theorem refCount_ok {w₀ : World} {C : Nat → Nat} {y : Bits} {u : Value} (hF : Lim w₀ C) (hw : RV w₀ (Mc C) y.words u) (hv : validB y = true) : Calls Try.prog 26 #[.agg #[.int .i64 y.len, u]] w₀ (Ret fun v w' => v = .int .i64 (cntS y y.len.toNat) ∧ Stp [] w₀ C w' C) := by
  have hF0 := hF
  have hT := Stp.refl [2, 3, 4, 5, 6, 7, 8, 9] w₀ (col1 C)
  replace hF := hF.col1
  replace hw : RV w₀ (Mc (col1 C)) y.words u := by rw [Mc_col1]; exact hw
  have hvv := validB_iff.1 hv
  refine calls_start (c := F26.c0) (N := 21) [.agg #[.int .i64 y.len, u]] Try.func26 (by kernel_rfl) (by kernel_rfl) (by kernel_rfl) ?_
  show Run _ _ _ _ [(0, .agg #[.int .i64 y.len, u])] _ _
  refine run_seq (x := F26.c1) (y := F26.c2) (by kernel_rfl) ?_
  refine run_plain (id := 0) (ops := F26.o0) [(0, false), (1, true)] (by kernel_rfl) (by kernel_rfl) ?_
  refine aS (by kernel_rfl : opAt F26.o0 0 = some (some 1, .box 33 (.tmp 0), none)) rfl rfl (a_box (cs := [.int .i64 y.len, u]) hF 3 rfl rfl) ?_
  rintro _ w1 ⟨Cw1, bw1, rfl, hs, hx, hF⟩
  refine ⟨trivial, ?_⟩
  replace hT := hT.trans hs (by simp)
  replace hw := hw.st hs (by first | decide | (simp <;> omega))
  refine yS (by kernel_rfl : opAt F26.o0 1 = some (some 2, .assign (.const (.int .i64 0)), none)) rfl rfl (fun w' hS => val_assign rfl) ?_
  refine Sch.nil ?_
  refine run_seq (x := F26.c3) (y := F26.c4) (by kernel_rfl) ?_
  refine run_plain (id := 1) (ops := F26.o1) [(0, true)] (by kernel_rfl) (by kernel_rfl) ?_
  refine yS (by kernel_rfl : opAt F26.o1 0 = some (some 3, .assign (.const (.int .i64 0)), none)) rfl rfl (fun w' hS => val_assign rfl) ?_
  refine Sch.nil ?_
  refine run_seq (x := F26.c5) (y := F26.c23) (by kernel_rfl) ?_
  refine run_seq (x := F26.c6) (y := F26.c7) (by kernel_rfl) ?_
  refine run_plain (id := 2) (ops := F26.o2) [(0, true)] (by kernel_rfl) (by kernel_rfl) ?_
  refine yS (by kernel_rfl : opAt F26.o2 0 = some (some 4, .assign (.const (.int .i64 0)), none)) rfl rfl (fun w' hS => val_assign rfl) ?_
  refine Sch.nil ?_
  refine run_block (x := F26.c8) (id := 0) (by kernel_rfl) ?_
  
  refine run_loop (ι := Nat × (Nat → Nat)) (I := fun x w => (x.1 : Int) ≤ y.len ∧ Lim w x.2 ∧ Stp [2, 3, 4, 5, 6, 7, 8, 9] w₀ (col1 C) w x.2 ∧ OwnB w x.2 3 bw1 (.cells [.int .i64 y.len, u].toArray 33) ∧ RV w (Mc x.2) y.words u) (e := fun x => [(1, .pointer (some ⟨bw1, 0, none⟩)), (3, .int .i64 (cntS y x.1)), (4, .int .i64 x.1)]) (m := fun x => y.len.toNat - x.1) (x₀ := (0, Cw1)) (body := F26.c9) (by kernel_rfl) (sub_cons 1 rfl rfl (sub_cons 3 rfl rfl (sub_cons 4 rfl rfl (sub_nil _)))) ?_ ?_
  · exact ⟨(by simp only; omega), hF, hT, hx, hw⟩
  intro ⟨k, C1⟩ w2 hI next
  obtain ⟨hk, hF, hT, hx, hw⟩ := hI
  try simp only at hk hF hT hx hw
  have next1 := next
  clear next
  show Run _ _ _ _ [(1, .pointer (some ⟨bw1, 0, none⟩)), (3, .int .i64 (cntS y k)), (4, .int .i64 k)] _ _
  have hcb := cntS_bnd y k
  refine run_seq (x := F26.c10) (y := F26.c15) (by kernel_rfl) ?_
  refine run_seq (x := F26.c11) (y := F26.c12) (by kernel_rfl) ?_
  refine run_plain (id := 3) (ops := F26.o3) [(0, false), (1, false), (2, true), (3, true), (4, true), (5, false), (6, true), (7, true)] (by kernel_rfl) (by kernel_rfl) ?_
  refine nS (by kernel_rfl : opAt F26.o3 0 = some (some 5, .load 33 (.tmp 1), none)) rfl rfl trivial (val_loadOwnAgg (n := 2) (vs := [.int .i64 y.len, u]) hx.at_ (by kernel_rfl) (by kernel_rfl) rfl rfl rfl) ?_
  refine cS (by kernel_rfl : opAt F26.o3 1 = some (some 6, .call { callee := .value (.func 13), args := #[(.tmp 5)], argTypes := #[33] }, none)) rfl rfl (ent Try.call13 rfl) (refValid_ok hF hw) ?_
  rintro vw3 w3 ⟨rfl, hs⟩
  refine ⟨trivial, ?_⟩
  replace hF := hF.st hs
  replace hT := hT.trans hs (by simp)
  replace hx := hx.st hs (by first | decide | (simp <;> omega))
  replace hw := hw.st hs (by first | decide | (simp <;> omega))
  rw [hv]
  refine yS (by kernel_rfl : opAt F26.o3 2 = some (some 7, .move (.tmp 6), none)) rfl rfl (fun w' hS => val_move rfl) ?_
  refine yS (by kernel_rfl : opAt F26.o3 3 = some (some 8, .move (.tmp 4), (some (2, true)))) rfl rfl (fun w' hS => val_move rfl) ?_
  refine yS (by kernel_rfl : opAt F26.o3 4 = some (some 9, .fieldAddr 33 (.tmp 1) 0, (some (2, true)))) rfl rfl (fun w' hS => val_fieldAddr (off := 0) (by kernel_rfl) rfl) ?_
  refine nS (by kernel_rfl : opAt F26.o3 5 = some (some 10, .load 3 (.tmp 9), (some (2, true)))) rfl rfl trivial (val_loadOwn hx.at_ (by kernel_rfl) rfl rfl) ?_
  refine yS (by kernel_rfl : opAt F26.o3 6 = some (some 11, .binOp .lss 3 (.tmp 8) (.tmp 10) 3, (some (2, true)))) rfl rfl (fun w' hS => val_lss rfl rfl) ?_
  refine yS (by kernel_rfl : opAt F26.o3 7 = some (some 12, .pick (.tmp 7) (.tmp 11) (.const (.bool false)), none)) rfl rfl (fun w' hS => val_pick_t rfl rfl) ?_
  refine Sch.nil ?_
  refine run_if (x := F26.c13) (y := F26.c14) (o := .tmp 12) (by kernel_rfl) rfl (fun h12 => ?_) (fun h12 => ?_)
  · skip
    have hkl : (k : Int) < y.len := by omega
    refine run_skip (by kernel_rfl) ?_
    refine run_seq (x := F26.c16) (y := F26.c22) (by kernel_rfl) ?_
    refine run_block (x := F26.c17) (id := 1) (by kernel_rfl) ?_
    refine run_seq (x := F26.c18) (y := F26.c19) (by kernel_rfl) ?_
    refine run_plain (id := 5) (ops := F26.o5) [(0, false), (1, true), (2, false)] (by kernel_rfl) (by kernel_rfl) ?_
    refine nS (by kernel_rfl : opAt F26.o5 0 = some (some 15, .load 33 (.tmp 1), none)) rfl rfl trivial (val_loadOwnAgg (n := 2) (vs := [.int .i64 y.len, u]) hx.at_ (by kernel_rfl) (by kernel_rfl) rfl rfl rfl) ?_
    refine yS (by kernel_rfl : opAt F26.o5 1 = some (some 16, .move (.tmp 4), none)) rfl rfl (fun w' hS => val_move rfl) ?_
    refine cS (by kernel_rfl : opAt F26.o5 2 = some (some 17, .call { callee := .value (.func 48), args := #[(.tmp 15), (.tmp 16)], argTypes := #[33, 3] }, none)) rfl rfl (ent Try.call48 rfl) (has_ok hF hw hv hkl) ?_
    rintro vw4 w4 ⟨rfl, hs⟩
    refine ⟨trivial, ?_⟩
    replace hF := hF.st hs
    replace hT := hT.trans hs (by simp)
    replace hx := hx.st hs (by first | decide | (simp <;> omega))
    replace hw := hw.st hs (by first | decide | (simp <;> omega))
    refine Sch.nil ?_
    refine run_if (x := F26.c20) (y := F26.c21) (o := .tmp 17) (by kernel_rfl) rfl (fun h17 => ?_) (fun h17 => ?_)
    · skip
      refine run_plain (id := 6) (ops := F26.o6) [(0, true), (1, true), (2, true)] (by kernel_rfl) (by kernel_rfl) ?_
      refine yS (by kernel_rfl : opAt F26.o6 0 = some (some 18, .move (.tmp 3), none)) rfl rfl (fun w' hS => val_move rfl) ?_
      refine yS (by kernel_rfl : opAt F26.o6 1 = some (some 19, .binOp .add 3 (.tmp 18) (.const (.int .i64 1)) 3, none)) rfl rfl (fun w' hS => val_addi rfl rfl (by omega) (by omega)) ?_
      refine yS (by kernel_rfl : opAt F26.o6 2 = some (some 3, .assign (.tmp 19), none)) rfl rfl (fun w' hS => val_assign rfl) ?_
      refine Sch.nil ?_
      refine run_inBlock ?_
      refine run_plain (id := 4) (ops := F26.o4) [(0, true), (1, true), (2, true)] (by kernel_rfl) (by kernel_rfl) ?_
      refine yS (by kernel_rfl : opAt F26.o4 0 = some (some 13, .move (.tmp 4), none)) rfl rfl (fun w' hS => val_move rfl) ?_
      refine yS (by kernel_rfl : opAt F26.o4 1 = some (some 14, .binOp .add 3 (.tmp 13) (.const (.int .i64 1)) 3, none)) rfl rfl (fun w' hS => val_addi rfl rfl (by omega) (by omega)) ?_
      refine yS (by kernel_rfl : opAt F26.o4 2 = some (some 4, .assign (.tmp 14), none)) rfl rfl (fun w' hS => val_assign rfl) ?_
      refine Sch.nil ?_
      refine kp (sub_cons 1 rfl rfl (sub_cons 3 rfl (eq_int (cntS_yes h17).symm) (sub_cons 4 rfl (eq_int (by simp)) (sub_nil _)))) (next1 (k + 1, C1) _ ⟨(by first | omega | (simp only; omega)), hF, hT, hx, hw⟩ (by first | omega | (simp only; omega)))
    · skip
      refine run_skip (by kernel_rfl) ?_
      refine run_inBlock ?_
      refine run_plain (id := 4) (ops := F26.o4) [(0, true), (1, true), (2, true)] (by kernel_rfl) (by kernel_rfl) ?_
      refine yS (by kernel_rfl : opAt F26.o4 0 = some (some 13, .move (.tmp 4), none)) rfl rfl (fun w' hS => val_move rfl) ?_
      refine yS (by kernel_rfl : opAt F26.o4 1 = some (some 14, .binOp .add 3 (.tmp 13) (.const (.int .i64 1)) 3, none)) rfl rfl (fun w' hS => val_addi rfl rfl (by omega) (by omega)) ?_
      refine yS (by kernel_rfl : opAt F26.o4 2 = some (some 4, .assign (.tmp 14), none)) rfl rfl (fun w' hS => val_assign rfl) ?_
      refine Sch.nil ?_
      refine kp (sub_cons 1 rfl rfl (sub_cons 3 rfl (eq_int (cntS_no h17).symm) (sub_cons 4 rfl (eq_int (by simp)) (sub_nil _)))) (next1 (k + 1, C1) _ ⟨(by first | omega | (simp only; omega)), hF, hT, hx, hw⟩ (by first | omega | (simp only; omega)))
  · skip
    have hkl : (k : Int) = y.len := by omega
    refine run_exit (id := 0) (by kernel_rfl) rfl ?_
    refine run_seq (x := F26.c24) (y := F26.c25) (by kernel_rfl) ?_
    refine run_plain (id := 7) (ops := F26.o7) [(0, true), (1, true)] (by kernel_rfl) (by kernel_rfl) ?_
    refine yS (by kernel_rfl : opAt F26.o7 0 = some (some 20, .move (.tmp 3), none)) rfl rfl (fun w' hS => val_move rfl) ?_
    refine yS (by kernel_rfl : opAt F26.o7 1 = some (some 2, .assign (.tmp 20), none)) rfl rfl (fun w' hS => val_assign rfl) ?_
    refine Sch.nil ?_
    refine run_ret1 (by kernel_rfl) Try.func26 Try.results26 rfl ?_
    exact ⟨by rw [show y.len.toNat = k from by omega], hT.out1 (by decide)⟩
end Go.Proofs.Ytbdlkdiadplmcaa
