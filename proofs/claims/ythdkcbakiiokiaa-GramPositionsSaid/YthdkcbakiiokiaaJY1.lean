/- Steps through functions of the program. -/
import Derived.Test.YthdkcbakiiokiaaJG5
set_option linter.unusedVariables false
set_option linter.unusedSimpArgs false
set_option maxRecDepth 100000
set_option maxHeartbeats 4000000
namespace Go.Proofs.Ythdkcbakiiokiaa
open Go.K Go.K.Rep

def p1L : List Tx := [⟨[49, 57, 56, 48, 48, 50, 48, 51]⟩, ⟨[49, 57, 56, 48, 48, 51, 48, 50]⟩, ⟨[50, 48, 48, 48]⟩, ⟨[]⟩]
def p2L : List Tx := [⟨[49, 57, 56, 48, 48, 50, 48, 51]⟩, ⟨[49, 57, 56, 48, 48, 51, 48, 50]⟩, ⟨[49, 57, 56, 48, 48, 50, 48, 51, 120]⟩, ⟨[50, 48, 48]⟩, ⟨[]⟩]
theorem p1L_len : ∀ x ∈ p1L, x.l.length ≤ 26 := by decide
theorem p2L_len : ∀ x ∈ p2L, x.l.length ≤ 26 := by decide
namespace F7
noncomputable def c0 : Code := bodyOf Try.f7
noncomputable def c1 : Code := cl c0
noncomputable def o0 : Array Oper := rops c1
noncomputable def c2 : Code := cr c0
noncomputable def c3 : Code := cl c2
noncomputable def c4 : Code := cl c3
noncomputable def o1 : Array Oper := rops c4
noncomputable def c5 : Code := cr c3
noncomputable def c6 : Code := cl c5
noncomputable def c7 : Code := cl c6
noncomputable def o2 : Array Oper := rops c7
noncomputable def c8 : Code := cr c6
noncomputable def c9 : Code := cr c5
noncomputable def c10 : Code := cr c2
noncomputable def c11 : Code := cl c10
noncomputable def o3 : Array Oper := rops c11
noncomputable def c12 : Code := cr c10
noncomputable def c13 : Code := cl c12
noncomputable def o4 : Array Oper := rops c13
noncomputable def c14 : Code := cr c12
noncomputable def c15 : Code := cl c14
noncomputable def o5 : Array Oper := rops c15
noncomputable def c16 : Code := cr c14
noncomputable def c17 : Code := cl c16
noncomputable def o6 : Array Oper := rops c17
noncomputable def c18 : Code := cr c16
end F7
/-- The statement's function answers true. -/
theorem gramPositions_ok {w₀ : World} {C : Nat → Nat} {l : List Int} {vl : Value} (hF : Lim w₀ C) (hl : RV w₀ (Mc C) l vl) : Calls Try.prog 7 #[vl] w₀ (Ret fun v w' => v = .bool true ∧ Stp [] w₀ C w' C) := by
  have hF0 := hF
  have hT := Stp.refl [2, 3, 4, 5, 6, 7, 8, 9] w₀ (col1 C)
  replace hF := hF.col1
  replace hl : RV w₀ (Mc (col1 C)) l vl := by rw [Mc_col1]; exact hl
  refine calls_start (c := F7.c0) (N := 49) [vl] Try.func7 (by kernel_rfl) (by kernel_rfl) (by kernel_rfl) ?_
  show Run _ _ _ _ [(0, vl)] _ _
  refine run_seq (x := F7.c1) (y := F7.c2) (by kernel_rfl) ?_
  refine run_plain (id := 0) (ops := F7.o0) [(0, true)] (by kernel_rfl) (by kernel_rfl) ?_
  refine yS (by kernel_rfl : opAt F7.o0 0 = some (some 2, .assign (.const (.bool false)), none)) rfl rfl (fun w' hS => val_assign rfl) ?_
  refine Sch.nil ?_
  refine run_seq (x := F7.c3) (y := F7.c10) (by kernel_rfl) ?_
  refine run_seq (x := F7.c4) (y := F7.c5) (by kernel_rfl) ?_
  refine run_plain (id := 1) (ops := F7.o1) [(0, false), (1, true), (2, true), (3, true), (4, false), (5, true), (6, true)] (by kernel_rfl) (by kernel_rfl) ?_
  refine cS (by kernel_rfl : opAt F7.o1 0 = some (some 6, .call { callee := .value (.func 8), args := #[], argTypes := #[] }, none)) rfl rfl (ent Try.call8 rfl) (awake_ok hF) ?_
  rintro vw1 w1 ⟨rfl, hs⟩
  refine ⟨trivial, ?_⟩
  replace hF := hF.st hs
  replace hT := hT.trans hs (by simp)
  replace hl := hl.st hs (by first | decide | (simp <;> omega))
  refine yS (by kernel_rfl : opAt F7.o1 1 = some (some 7, .unOp .not 4 (.tmp 6), none)) rfl rfl (fun w' hS => val_not rfl) ?_
  refine yS (by kernel_rfl : opAt F7.o1 2 = some (some 8, .move (.tmp 7), none)) rfl rfl (fun w' hS => val_move rfl) ?_
  refine yS (by kernel_rfl : opAt F7.o1 3 = some (some 9, .move (.tmp 0), (some (2, false)))) rfl rfl (fun w' hS => val_move rfl) ?_
  refine cS (by kernel_rfl : opAt F7.o1 4 = some (some 10, .call { callee := .value (.func 9), args := #[(.tmp 9)], argTypes := #[22] }, (some (2, false)))) rfl rfl (ent Try.call9 rfl) (few_any hl) ?_
  rintro vw2 w2 ⟨rfl, rfl⟩
  refine ⟨trivial, ?_⟩
  refine yS (by kernel_rfl : opAt F7.o1 5 = some (some 11, .unOp .not 4 (.tmp 10), (some (2, false)))) rfl rfl (fun w' hS => val_notd rfl) ?_
  refine yS (by kernel_rfl : opAt F7.o1 6 = some (some 12, .pick (.tmp 8) (.const (.bool true)) (.tmp 11), none)) rfl rfl (fun w' hS => val_pick_f rfl rfl) ?_
  refine Sch.nil ?_
  refine run_if (x := F7.c6) (y := F7.c9) (o := .tmp 12) (by kernel_rfl) rfl (fun h12 => ?_) (fun h12 => ?_)
  · skip
    refine run_seq (x := F7.c7) (y := F7.c8) (by kernel_rfl) ?_
    refine run_plain (id := 2) (ops := F7.o2) [(0, false), (1, true)] (by kernel_rfl) (by kernel_rfl) ?_
    refine cS (by kernel_rfl : opAt F7.o2 0 = some (some 13, .call { callee := .value (.func 8), args := #[], argTypes := #[] }, none)) rfl rfl (ent Try.call8 rfl) (awake_ok hF) ?_
    rintro vw3 w3 ⟨rfl, hs⟩
    refine ⟨trivial, ?_⟩
    replace hF := hF.st hs
    replace hT := hT.trans hs (by simp)
    replace hl := hl.st hs (by first | decide | (simp <;> omega))
    refine yS (by kernel_rfl : opAt F7.o2 1 = some (some 2, .assign (.tmp 13), none)) rfl rfl (fun w' hS => val_assign rfl) ?_
    refine Sch.nil ?_
    refine run_ret1 (by kernel_rfl) Try.func7 Try.results7 rfl ?_
    exact ⟨rfl, hT.out1 (by decide)⟩
  · skip
    refine run_skip (by kernel_rfl) ?_
    refine run_seq (x := F7.c11) (y := F7.c12) (by kernel_rfl) ?_
    refine run_plain (id := 3) (ops := F7.o3) [(0, true), (1, false), (2, true)] (by kernel_rfl) (by kernel_rfl) ?_
    refine yS (by kernel_rfl : opAt F7.o3 0 = some (some 14, .move (.tmp 0), none)) rfl rfl (fun w' hS => val_move rfl) ?_
    refine cS (by kernel_rfl : opAt F7.o3 1 = some (some 15, .call { callee := .value (.func 11), args := #[(.tmp 14)], argTypes := #[22] }, none)) rfl rfl (ent Try.call11 rfl) (new_any hF hl) ?_
    rintro vw4 w4 ⟨Cd, bd, rfl, hs, hF, hd⟩
    refine ⟨trivial, ?_⟩
    replace hT := hT.trans hs (by simp)
    replace hl := hl.st hs (by first | decide | (simp <;> omega))
    refine yS (by kernel_rfl : opAt F7.o3 2 = some (some 3, .assign (.tmp 15), none)) rfl rfl (fun w' hS => val_assign rfl) ?_
    refine Sch.nil ?_
    refine run_seq (x := F7.c13) (y := F7.c14) (by kernel_rfl) ?_
    refine run_plain (id := 4) (ops := F7.o4) [(0, true), (1, false), (2, false), (3, true)] (by kernel_rfl) (by kernel_rfl) ?_
    refine yS (by kernel_rfl : opAt F7.o4 0 = some (some 16, .move (.tmp 3), none)) rfl rfl (fun w' hS => val_move rfl) ?_
    refine aS (by kernel_rfl : opAt F7.o4 1 = some (some 17, .buildSlice 23 4 #[(0, (.const (.string ⟨#[49, 57, 56, 48, 48, 50, 48, 51]⟩))), (1, (.const (.string ⟨#[49, 57, 56, 48, 48, 51, 48, 50]⟩))), (2, (.const (.string ⟨#[50, 48, 48, 48]⟩))), (3, (.const (.string ⟨#[]⟩)))], none)) rfl rfl (a_buildSlice (ys := p1L) (e := 9) (bytes := 16) hF (by kernel_rfl) rfl (by decide) (by decide) ⟨rfl, ⟨_, rfl, rv_tx.2 ⟨rfl, by decide⟩⟩, rfl, ⟨_, rfl, rv_tx.2 ⟨rfl, by decide⟩⟩, rfl, ⟨_, rfl, rv_tx.2 ⟨rfl, by decide⟩⟩, rfl, ⟨_, rfl, rv_tx.2 ⟨rfl, by decide⟩⟩, trivial⟩) ?_
    rintro v17 w5 ⟨hs, hp1, hF⟩
    refine ⟨trivial, ?_⟩
    replace hT := hT.trans hs (by simp)
    replace hl := hl.st hs (by first | decide | (simp <;> omega))
    replace hd := hd.st hs (by first | decide | (simp <;> omega)) (by first | decide | (simp <;> omega))
    refine cS (by kernel_rfl : opAt F7.o4 2 = some (some 18, .call { callee := .value (.func 27), args := #[(.tmp 16), (.tmp 17)], argTypes := #[27, 23] }, none)) rfl rfl (ent Try.call27 rfl) (pick_ok hF (by decide) hd hp1 (by decide)) ?_
    rintro vw6 w6 ⟨xa, rfl, hxa, hs, hd⟩
    refine ⟨trivial, ?_⟩
    replace hF := hF.st hs
    replace hT := hT.trans hs (by simp)
    replace hl := hl.st hs (by first | decide | (simp <;> omega))
    replace hp1 := hp1.st hs (by first | decide | (simp <;> omega))
    have hla := p1L_len _ hxa
    refine yS (by kernel_rfl : opAt F7.o4 3 = some (some 4, .assign (.tmp 18), none)) rfl rfl (fun w' hS => val_assign rfl) ?_
    refine Sch.nil ?_
    refine run_seq (x := F7.c15) (y := F7.c16) (by kernel_rfl) ?_
    refine run_plain (id := 5) (ops := F7.o5) [(0, true), (1, false), (2, false), (3, true)] (by kernel_rfl) (by kernel_rfl) ?_
    refine yS (by kernel_rfl : opAt F7.o5 0 = some (some 19, .move (.tmp 3), none)) rfl rfl (fun w' hS => val_move rfl) ?_
    refine aS (by kernel_rfl : opAt F7.o5 1 = some (some 20, .buildSlice 23 5 #[(0, (.const (.string ⟨#[49, 57, 56, 48, 48, 50, 48, 51]⟩))), (1, (.const (.string ⟨#[49, 57, 56, 48, 48, 51, 48, 50]⟩))), (2, (.const (.string ⟨#[49, 57, 56, 48, 48, 50, 48, 51, 120]⟩))), (3, (.const (.string ⟨#[50, 48, 48]⟩))), (4, (.const (.string ⟨#[]⟩)))], none)) rfl rfl (a_buildSlice (ys := p2L) (e := 9) (bytes := 16) hF (by kernel_rfl) rfl (by decide) (by decide) ⟨rfl, ⟨_, rfl, rv_tx.2 ⟨rfl, by decide⟩⟩, rfl, ⟨_, rfl, rv_tx.2 ⟨rfl, by decide⟩⟩, rfl, ⟨_, rfl, rv_tx.2 ⟨rfl, by decide⟩⟩, rfl, ⟨_, rfl, rv_tx.2 ⟨rfl, by decide⟩⟩, rfl, ⟨_, rfl, rv_tx.2 ⟨rfl, by decide⟩⟩, trivial⟩) ?_
    rintro v20 w7 ⟨hs, hp2, hF⟩
    refine ⟨trivial, ?_⟩
    replace hT := hT.trans hs (by simp)
    replace hl := hl.st hs (by first | decide | (simp <;> omega))
    replace hd := hd.st hs (by first | decide | (simp <;> omega)) (by first | decide | (simp <;> omega))
    replace hp1 := hp1.st hs (by first | decide | (simp <;> omega))
    refine cS (by kernel_rfl : opAt F7.o5 2 = some (some 21, .call { callee := .value (.func 27), args := #[(.tmp 19), (.tmp 20)], argTypes := #[27, 23] }, none)) rfl rfl (ent Try.call27 rfl) (pick_ok hF (by decide) hd hp2 (by decide)) ?_
    rintro vw8 w8 ⟨xb, rfl, hxb, hs, hd⟩
    refine ⟨trivial, ?_⟩
    replace hF := hF.st hs
    replace hT := hT.trans hs (by simp)
    replace hl := hl.st hs (by first | decide | (simp <;> omega))
    replace hp1 := hp1.st hs (by first | decide | (simp <;> omega))
    replace hp2 := hp2.st hs (by first | decide | (simp <;> omega))
    have hlb := p2L_len _ hxb
    refine yS (by kernel_rfl : opAt F7.o5 3 = some (some 5, .assign (.tmp 21), none)) rfl rfl (fun w' hS => val_assign rfl) ?_
    refine Sch.nil ?_
    refine run_seq (x := F7.c17) (y := F7.c18) (by kernel_rfl) ?_
    refine run_plain (id := 6) (ops := F7.o6) [(0, true), (1, false), (2, true), (3, false), (4, false), (5, true), (6, true), (7, true), (8, true), (9, true), (10, true), (11, false), (12, true), (13, true), (14, true), (15, true), (16, true), (17, true), (18, true), (19, false), (20, true), (21, false), (22, false), (23, true), (24, true), (25, true), (26, true), (27, true)] (by kernel_rfl) (by kernel_rfl) ?_
    refine yS (by kernel_rfl : opAt F7.o6 0 = some (some 22, .move (.tmp 4), none)) rfl rfl (fun w' hS => val_move rfl) ?_
    refine cS (by kernel_rfl : opAt F7.o6 1 = some (some 23, .call { callee := .value (.func 17), args := #[(.tmp 22)], argTypes := #[9] }, none)) rfl rfl (ent Try.call17 rfl) (pos_ok hF (by omega)) ?_
    rintro vhA w9 ⟨hs, hA⟩
    refine ⟨trivial, ?_⟩
    replace hF := hF.st hs
    replace hT := hT.trans hs (by simp)
    replace hl := hl.st hs (by first | decide | (simp <;> omega))
    replace hd := hd.st hs (by first | decide | (simp <;> omega)) (by first | decide | (simp <;> omega))
    replace hp1 := hp1.st hs (by first | decide | (simp <;> omega))
    replace hp2 := hp2.st hs (by first | decide | (simp <;> omega))
    refine yS (by kernel_rfl : opAt F7.o6 2 = some (some 24, .move (.tmp 5), none)) rfl rfl (fun w' hS => val_move rfl) ?_
    refine cS (by kernel_rfl : opAt F7.o6 3 = some (some 25, .call { callee := .value (.func 17), args := #[(.tmp 24)], argTypes := #[9] }, none)) rfl rfl (ent Try.call17 rfl) (pos_ok hF (by omega)) ?_
    rintro vhB w10 ⟨hs, hB⟩
    refine ⟨trivial, ?_⟩
    replace hF := hF.st hs
    replace hT := hT.trans hs (by simp)
    replace hl := hl.st hs (by first | decide | (simp <;> omega))
    replace hd := hd.st hs (by first | decide | (simp <;> omega)) (by first | decide | (simp <;> omega))
    replace hp1 := hp1.st hs (by first | decide | (simp <;> omega))
    replace hp2 := hp2.st hs (by first | decide | (simp <;> omega))
    replace hA := hA.st hs (by first | decide | (simp <;> omega))
    refine cS (by kernel_rfl : opAt F7.o6 4 = some (some 26, .call { callee := .value (.func 14), args := #[(.tmp 23), (.tmp 25)], argTypes := #[23, 23] }, none)) rfl rfl (ent Try.call14 rfl) (same_ok hF hA hB) ?_
    rintro vw11 w11 ⟨rfl, hs⟩
    refine ⟨trivial, ?_⟩
    replace hF := hF.st hs
    replace hT := hT.trans hs (by simp)
    replace hl := hl.st hs (by first | decide | (simp <;> omega))
    replace hd := hd.st hs (by first | decide | (simp <;> omega)) (by first | decide | (simp <;> omega))
    replace hp1 := hp1.st hs (by first | decide | (simp <;> omega))
    replace hp2 := hp2.st hs (by first | decide | (simp <;> omega))
    replace hA := hA.st hs (by first | decide | (simp <;> omega))
    replace hB := hB.st hs (by first | decide | (simp <;> omega))
    refine yS (by kernel_rfl : opAt F7.o6 5 = some (some 27, .move (.tmp 4), none)) rfl rfl (fun w' hS => val_move rfl) ?_
    refine yS (by kernel_rfl : opAt F7.o6 6 = some (some 28, .move (.tmp 5), none)) rfl rfl (fun w' hS => val_move rfl) ?_
    refine yS (by kernel_rfl : opAt F7.o6 7 = some (some 29, .binOp .eql 9 (.tmp 27) (.tmp 28) 9, none)) rfl rfl (fun w' hS => val_eqT rfl rfl) ?_
    refine yS (by kernel_rfl : opAt F7.o6 8 = some (some 30, .binOp .eql 4 (.tmp 26) (.tmp 29) 4, none)) rfl rfl (fun w' hS => val_is (val_eqBl rfl rfl Try.underlying4) (eq_bool (decide_eq_true (by rw [decide_eq_decide]; exact pos_inj hla hlb)))) ?_
    refine yS (by kernel_rfl : opAt F7.o6 9 = some (some 31, .move (.tmp 30), none)) rfl rfl (fun w' hS => val_move rfl) ?_
    refine yS (by kernel_rfl : opAt F7.o6 10 = some (some 32, .move (.tmp 4), (some (9, true)))) rfl rfl (fun w' hS => val_move rfl) ?_
    refine cS (by kernel_rfl : opAt F7.o6 11 = some (some 33, .call { callee := .value (.func 17), args := #[(.tmp 32)], argTypes := #[9] }, (some (9, true)))) rfl rfl (ent Try.call17 rfl) (pos_ok hF (by omega)) ?_
    rintro vhA2 w12 ⟨hs, hA2⟩
    refine ⟨trivial, ?_⟩
    replace hF := hF.st hs
    replace hT := hT.trans hs (by simp)
    replace hl := hl.st hs (by first | decide | (simp <;> omega))
    replace hd := hd.st hs (by first | decide | (simp <;> omega)) (by first | decide | (simp <;> omega))
    replace hp1 := hp1.st hs (by first | decide | (simp <;> omega))
    replace hp2 := hp2.st hs (by first | decide | (simp <;> omega))
    replace hA := hA.st hs (by first | decide | (simp <;> omega))
    replace hB := hB.st hs (by first | decide | (simp <;> omega))
    refine yS (by kernel_rfl : opAt F7.o6 12 = some (some 34, .call { callee := .builtin .len, args := #[(.tmp 33)], argTypes := #[23] }, (some (9, true)))) rfl rfl (fun w' hS => hA2.lenV rfl Try.underlying23 w' ) ?_
    refine yS (by kernel_rfl : opAt F7.o6 13 = some (some 35, .move (.tmp 4), (some (9, true)))) rfl rfl (fun w' hS => val_move rfl) ?_
    refine yS (by kernel_rfl : opAt F7.o6 14 = some (some 36, .call { callee := .builtin .len, args := #[(.tmp 35)], argTypes := #[9] }, (some (9, true)))) rfl rfl (fun w' hS => val_lenT rfl Try.underlying9) ?_
    refine yS (by kernel_rfl : opAt F7.o6 15 = some (some 37, .binOp .eql 3 (.tmp 34) (.tmp 36) 3, (some (9, true)))) rfl rfl (fun w' hS => val_T (val_eql rfl rfl) (by rw [pos_len hla])) ?_
    refine yS (by kernel_rfl : opAt F7.o6 16 = some (some 38, .pick (.tmp 31) (.tmp 37) (.const (.bool false)), none)) rfl rfl (fun w' hS => val_pick_t rfl rfl) ?_
    refine yS (by kernel_rfl : opAt F7.o6 17 = some (some 39, .move (.tmp 38), none)) rfl rfl (fun w' hS => val_move rfl) ?_
    refine yS (by kernel_rfl : opAt F7.o6 18 = some (some 40, .move (.tmp 4), (some (17, true)))) rfl rfl (fun w' hS => val_move rfl) ?_
    refine cS (by kernel_rfl : opAt F7.o6 19 = some (some 41, .call { callee := .value (.func 17), args := #[(.tmp 40)], argTypes := #[9] }, (some (17, true)))) rfl rfl (ent Try.call17 rfl) (pos_ok hF (by omega)) ?_
    rintro vhA3 w13 ⟨hs, hA3⟩
    refine ⟨trivial, ?_⟩
    replace hF := hF.st hs
    replace hT := hT.trans hs (by simp)
    replace hl := hl.st hs (by first | decide | (simp <;> omega))
    replace hd := hd.st hs (by first | decide | (simp <;> omega)) (by first | decide | (simp <;> omega))
    replace hp1 := hp1.st hs (by first | decide | (simp <;> omega))
    replace hp2 := hp2.st hs (by first | decide | (simp <;> omega))
    replace hA := hA.st hs (by first | decide | (simp <;> omega))
    replace hB := hB.st hs (by first | decide | (simp <;> omega))
    replace hA2 := hA2.st hs (by first | decide | (simp <;> omega))
    refine yS (by kernel_rfl : opAt F7.o6 20 = some (some 42, .move (.tmp 4), (some (17, true)))) rfl rfl (fun w' hS => val_move rfl) ?_
    refine cS (by kernel_rfl : opAt F7.o6 21 = some (some 43, .call { callee := .value (.func 17), args := #[(.tmp 42)], argTypes := #[9] }, (some (17, true)))) rfl rfl (ent Try.call17 rfl) (pos_ok hF (by omega)) ?_
    rintro vhA4 w14 ⟨hs, hA4⟩
    refine ⟨trivial, ?_⟩
    replace hF := hF.st hs
    replace hT := hT.trans hs (by simp)
    replace hl := hl.st hs (by first | decide | (simp <;> omega))
    replace hd := hd.st hs (by first | decide | (simp <;> omega)) (by first | decide | (simp <;> omega))
    replace hp1 := hp1.st hs (by first | decide | (simp <;> omega))
    replace hp2 := hp2.st hs (by first | decide | (simp <;> omega))
    replace hA := hA.st hs (by first | decide | (simp <;> omega))
    replace hB := hB.st hs (by first | decide | (simp <;> omega))
    replace hA2 := hA2.st hs (by first | decide | (simp <;> omega))
    replace hA3 := hA3.st hs (by first | decide | (simp <;> omega))
    refine cS (by kernel_rfl : opAt F7.o6 22 = some (some 44, .call { callee := .value (.func 20), args := #[(.tmp 41), (.tmp 43)], argTypes := #[23, 23] }, (some (17, true)))) rfl rfl (ent Try.call20 rfl) (common_ok hF hA3 hA4 (by have := posT_len xa.l; omega) (by have := posT_len xa.l; omega)) ?_
    rintro vw15 w15 ⟨rfl, hs⟩
    refine ⟨trivial, ?_⟩
    replace hF := hF.st hs
    replace hT := hT.trans hs (by simp)
    replace hl := hl.st hs (by first | decide | (simp <;> omega))
    replace hd := hd.st hs (by first | decide | (simp <;> omega)) (by first | decide | (simp <;> omega))
    replace hp1 := hp1.st hs (by first | decide | (simp <;> omega))
    replace hp2 := hp2.st hs (by first | decide | (simp <;> omega))
    replace hA := hA.st hs (by first | decide | (simp <;> omega))
    replace hB := hB.st hs (by first | decide | (simp <;> omega))
    replace hA2 := hA2.st hs (by first | decide | (simp <;> omega))
    replace hA3 := hA3.st hs (by first | decide | (simp <;> omega))
    replace hA4 := hA4.st hs (by first | decide | (simp <;> omega))
    refine yS (by kernel_rfl : opAt F7.o6 23 = some (some 45, .move (.tmp 4), (some (17, true)))) rfl rfl (fun w' hS => val_move rfl) ?_
    refine yS (by kernel_rfl : opAt F7.o6 24 = some (some 46, .call { callee := .builtin .len, args := #[(.tmp 45)], argTypes := #[9] }, (some (17, true)))) rfl rfl (fun w' hS => val_lenT rfl Try.underlying9) ?_
    refine yS (by kernel_rfl : opAt F7.o6 25 = some (some 47, .binOp .eql 3 (.tmp 44) (.tmp 46) 3, (some (17, true)))) rfl rfl (fun w' hS => val_T (val_eql rfl rfl) (by rw [common_self (posT_asc xa.l), pos_len hla])) ?_
    refine yS (by kernel_rfl : opAt F7.o6 26 = some (some 48, .pick (.tmp 39) (.tmp 47) (.const (.bool false)), none)) rfl rfl (fun w' hS => val_pick_t rfl rfl) ?_
    refine yS (by kernel_rfl : opAt F7.o6 27 = some (some 2, .assign (.tmp 48), none)) rfl rfl (fun w' hS => val_assign rfl) ?_
    refine Sch.nil ?_
    refine run_ret1 (by kernel_rfl) Try.func7 Try.results7 rfl ?_
    exact ⟨rfl, hT.out1 (by decide)⟩
namespace F7B
noncomputable def c0 : Code := bodyOf Try.f7
noncomputable def c1 : Code := cl c0
noncomputable def o0 : Array Oper := rops c1
noncomputable def c2 : Code := cr c0
noncomputable def c3 : Code := cl c2
noncomputable def c4 : Code := cl c3
noncomputable def o1 : Array Oper := rops c4
noncomputable def c5 : Code := cr c3
noncomputable def c6 : Code := cl c5
noncomputable def c7 : Code := cl c6
noncomputable def o2 : Array Oper := rops c7
noncomputable def c8 : Code := cr c6
noncomputable def c9 : Code := cr c5
noncomputable def c10 : Code := cr c2
noncomputable def c11 : Code := cl c10
noncomputable def o3 : Array Oper := rops c11
noncomputable def c12 : Code := cr c10
noncomputable def c13 : Code := cl c12
noncomputable def o4 : Array Oper := rops c13
noncomputable def c14 : Code := cr c12
noncomputable def c15 : Code := cl c14
noncomputable def o5 : Array Oper := rops c15
noncomputable def c16 : Code := cr c14
noncomputable def c17 : Code := cl c16
noncomputable def o6 : Array Oper := rops c17
noncomputable def c18 : Code := cr c16
end F7B
/-- .. where more is handed than it looks at. -/
theorem gramPositions_big {w₀ : World} {C : Nat → Nat} {p : Option Addr} {n c : Nat} (hF : Lim w₀ C) (hn : 400 < n) : Calls Try.prog 7 #[.slice p n c] w₀ (Ret fun v w' => v = .bool true ∧ Stp [] w₀ C w' C) := by
  have hF0 := hF
  have hT := Stp.refl [2, 3, 4, 5, 6, 7, 8, 9] w₀ (col1 C)
  replace hF := hF.col1
  refine calls_start (c := F7B.c0) (N := 49) [.slice p n c] Try.func7 (by kernel_rfl) (by kernel_rfl) (by kernel_rfl) ?_
  show Run _ _ _ _ [(0, .slice p n c)] _ _
  refine run_seq (x := F7B.c1) (y := F7B.c2) (by kernel_rfl) ?_
  refine run_plain (id := 0) (ops := F7B.o0) [(0, true)] (by kernel_rfl) (by kernel_rfl) ?_
  refine yS (by kernel_rfl : opAt F7B.o0 0 = some (some 2, .assign (.const (.bool false)), none)) rfl rfl (fun w' hS => val_assign rfl) ?_
  refine Sch.nil ?_
  refine run_seq (x := F7B.c3) (y := F7B.c10) (by kernel_rfl) ?_
  refine run_seq (x := F7B.c4) (y := F7B.c5) (by kernel_rfl) ?_
  refine run_plain (id := 1) (ops := F7B.o1) [(0, false), (1, true), (2, true), (3, true), (4, false), (5, true), (6, true)] (by kernel_rfl) (by kernel_rfl) ?_
  refine cS (by kernel_rfl : opAt F7B.o1 0 = some (some 6, .call { callee := .value (.func 8), args := #[], argTypes := #[] }, none)) rfl rfl (ent Try.call8 rfl) (awake_ok hF) ?_
  rintro vw1 w1 ⟨rfl, hs⟩
  refine ⟨trivial, ?_⟩
  replace hF := hF.st hs
  replace hT := hT.trans hs (by simp)
  refine yS (by kernel_rfl : opAt F7B.o1 1 = some (some 7, .unOp .not 4 (.tmp 6), none)) rfl rfl (fun w' hS => val_not rfl) ?_
  refine yS (by kernel_rfl : opAt F7B.o1 2 = some (some 8, .move (.tmp 7), none)) rfl rfl (fun w' hS => val_move rfl) ?_
  refine yS (by kernel_rfl : opAt F7B.o1 3 = some (some 9, .move (.tmp 0), (some (2, false)))) rfl rfl (fun w' hS => val_move rfl) ?_
  refine cS (by kernel_rfl : opAt F7B.o1 4 = some (some 10, .call { callee := .value (.func 9), args := #[(.tmp 9)], argTypes := #[22] }, (some (2, false)))) rfl rfl (ent Try.call9 rfl) (few_ok _ _ _ _) ?_
  rintro vw2 w2 ⟨rfl, rfl⟩
  refine ⟨trivial, ?_⟩
  rw [decide_eq_false (show ¬ (n : Int) ≤ 400 by omega)]
  refine yS (by kernel_rfl : opAt F7B.o1 5 = some (some 11, .unOp .not 4 (.tmp 10), (some (2, false)))) rfl rfl (fun w' hS => val_not rfl) ?_
  refine yS (by kernel_rfl : opAt F7B.o1 6 = some (some 12, .pick (.tmp 8) (.const (.bool true)) (.tmp 11), none)) rfl rfl (fun w' hS => val_pick_f rfl rfl) ?_
  refine Sch.nil ?_
  refine run_cond (x := F7B.c6) (y := F7B.c9) (o := .tmp 12) (b := true) (by kernel_rfl) rfl (fun _ => ?_) (fun h => by cases h)
  refine run_seq (x := F7B.c7) (y := F7B.c8) (by kernel_rfl) ?_
  refine run_plain (id := 2) (ops := F7B.o2) [(0, false), (1, true)] (by kernel_rfl) (by kernel_rfl) ?_
  refine cS (by kernel_rfl : opAt F7B.o2 0 = some (some 13, .call { callee := .value (.func 8), args := #[], argTypes := #[] }, none)) rfl rfl (ent Try.call8 rfl) (awake_ok hF) ?_
  rintro vw3 w3 ⟨rfl, hs⟩
  refine ⟨trivial, ?_⟩
  replace hF := hF.st hs
  replace hT := hT.trans hs (by simp)
  refine yS (by kernel_rfl : opAt F7B.o2 1 = some (some 2, .assign (.tmp 13), none)) rfl rfl (fun w' hS => val_assign rfl) ?_
  refine Sch.nil ?_
  refine run_ret1 (by kernel_rfl) Try.func7 Try.results7 rfl ?_
  exact ⟨rfl, hT.out1 (by decide)⟩
end Go.Proofs.Ythdkcbakiiokiaa
