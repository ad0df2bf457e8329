/- Steps through functions of the program. -/
import Derived.Test.YtpmokjccfaakfaaKQ7
set_option linter.unusedVariables false
set_option linter.unusedSimpArgs false
set_option maxRecDepth 100000
set_option maxHeartbeats 400000
namespace Go.Proofs.Ytpmokjccfaakfaa
open Go.K Go.K.Rep

namespace F20
noncomputable def c0 : Code := bodyOf Try.f20
noncomputable def c1 : Code := cl c0
noncomputable def o0 : Array Oper := rops c1
noncomputable def c2 : Code := cr c0
noncomputable def c3 : Code := cl c2
noncomputable def c4 : Code := cl c3
noncomputable def o1 : Array Oper := rops c4
noncomputable def c5 : Code := cr c3
noncomputable def c6 : Code := cl c5
noncomputable def o2 : Array Oper := rops c6
noncomputable def c7 : Code := cr c5
noncomputable def c8 : Code := cl c7
noncomputable def c9 : Code := cl c8
noncomputable def o3 : Array Oper := rops c9
noncomputable def c10 : Code := cr c8
noncomputable def c11 : Code := cr c7
noncomputable def c12 : Code := cr c2
noncomputable def c13 : Code := cl c12
noncomputable def c14 : Code := cl c13
noncomputable def o4 : Array Oper := rops c14
noncomputable def c15 : Code := cr c13
noncomputable def c16 : Code := cl c15
noncomputable def c17 : Code := cl c16
noncomputable def o5 : Array Oper := rops c17
noncomputable def c18 : Code := cr c16
noncomputable def c19 : Code := cr c15
noncomputable def c20 : Code := cr c12
noncomputable def c21 : Code := cl c20
noncomputable def o6 : Array Oper := rops c21
noncomputable def c22 : Code := cr c20
end F20
/-- 'Missed'. -/
theorem missed_ok {w₀ : World} {C : Nat → Nat} {ks : List Key} {rs : List Int} {vk vr : Value} {mask : Int} (hF : Lim w₀ C) (hk : RV w₀ (Mc C) ks vk) (hr : RV w₀ (Mc C) rs vr) (hs0 : KeysSm ks) : Calls Try.prog 20 #[vk, vr, .int .i64 mask] w₀ (Ret fun v w' => v = missE ks rs mask ∧ Stp [] w₀ C w' C) := by
  have hF0 := hF
  have hT := Stp.refl [2, 3, 4, 5, 6, 7, 8, 9] w₀ (col1 C)
  replace hF := hF.col1
  replace hk : RV w₀ (Mc (col1 C)) ks vk := by rw [Mc_col1]; exact hk
  replace hr : RV w₀ (Mc (col1 C)) rs vr := by rw [Mc_col1]; exact hr
  refine calls_start (c := F20.c0) (N := 29) [vk, vr, .int .i64 mask] Try.func20 (by kernel_rfl) (by kernel_rfl) (by kernel_rfl) ?_
  show Run _ _ _ _ [(0, vk), (1, vr), (2, .int .i64 mask)] _ _
  refine run_seq (x := F20.c1) (y := F20.c2) (by kernel_rfl) ?_
  refine run_plain (id := 0) (ops := F20.o0) [(0, true), (1, true)] (by kernel_rfl) (by kernel_rfl) ?_
  refine yS (by kernel_rfl : opAt F20.o0 0 = some (some 6, .assign (.const (.int .i64 0)), none)) rfl rfl (fun w' hS => val_assign rfl) ?_
  refine yS (by kernel_rfl : opAt F20.o0 1 = some (some 7, .assign (.const (.int .i64 0)), none)) rfl rfl (fun w' hS => val_assign rfl) ?_
  refine Sch.nil ?_
  refine run_seq (x := F20.c3) (y := F20.c12) (by kernel_rfl) ?_
  refine run_seq (x := F20.c4) (y := F20.c5) (by kernel_rfl) ?_
  refine run_plain (id := 1) (ops := F20.o1) [(0, true), (1, true), (2, false), (3, true)] (by kernel_rfl) (by kernel_rfl) ?_
  refine yS (by kernel_rfl : opAt F20.o1 0 = some (some 9, .move (.tmp 0), none)) rfl rfl (fun w' hS => val_move rfl) ?_
  refine yS (by kernel_rfl : opAt F20.o1 1 = some (some 10, .move (.tmp 1), none)) rfl rfl (fun w' hS => val_move rfl) ?_
  refine cS (by kernel_rfl : opAt F20.o1 2 = some (some 11, .call { callee := .value (.func 17), args := #[(.tmp 9), (.tmp 10)], argTypes := #[23, 22] }, none)) rfl rfl (ent Try.call17 rfl) (check_ok hF hk hr hs0) ?_
  rintro vw1 w1 ⟨rfl, hs⟩
  refine ⟨trivial, ?_⟩
  replace hF := hF.st hs
  replace hT := hT.trans hs (by simp)
  replace hk := hk.st hs (by first | decide | (simp <;> omega))
  replace hr := hr.st hs (by first | decide | (simp <;> omega))
  refine yS (by kernel_rfl : opAt F20.o1 3 = some (some 8, .assign (.tmp 11), none)) rfl rfl (fun w' hS => val_assign rfl) ?_
  refine Sch.nil ?_
  refine run_seq (x := F20.c6) (y := F20.c7) (by kernel_rfl) ?_
  refine run_plain (id := 2) (ops := F20.o2) [(0, true), (1, true)] (by kernel_rfl) (by kernel_rfl) ?_
  refine yS (by kernel_rfl : opAt F20.o2 0 = some (some 12, .move (.tmp 8), none)) rfl rfl (fun w' hS => val_move rfl) ?_
  refine yS (by kernel_rfl : opAt F20.o2 1 = some (some 13, .binOp .neq 37 (.tmp 12) (.const (.int .i64 0)) 37, none)) rfl rfl (fun w' hS => val_neq rfl rfl) ?_
  refine Sch.nil ?_
  refine run_if (x := F20.c8) (y := F20.c11) (o := .tmp 13) (by kernel_rfl) rfl (fun h13 => ?_) (fun h13 => ?_)
  · skip
    refine run_seq (x := F20.c9) (y := F20.c10) (by kernel_rfl) ?_
    refine run_plain (id := 3) (ops := F20.o3) [(0, true), (1, true), (2, true)] (by kernel_rfl) (by kernel_rfl) ?_
    refine yS (by kernel_rfl : opAt F20.o3 0 = some (some 14, .move (.tmp 8), none)) rfl rfl (fun w' hS => val_move rfl) ?_
    refine yS (by kernel_rfl : opAt F20.o3 1 = some (some 6, .assign (.const (.int .i64 0)), none)) rfl rfl (fun w' hS => val_assign rfl) ?_
    refine yS (by kernel_rfl : opAt F20.o3 2 = some (some 7, .assign (.tmp 14), none)) rfl rfl (fun w' hS => val_assign rfl) ?_
    refine Sch.nil ?_
    refine run_ret2 (by kernel_rfl) Try.func20 Try.results20 rfl rfl ?_
    refine ⟨?_, hT.out1 (by decide)⟩
    unfold missE; rw [if_pos h13]
  · skip
    have hz : checkP ks rs = 0 := by simpa using h13
    obtain ⟨h8, h10, hrl, hrs⟩ := checkP_zero hz
    obtain ⟨z, hz2, hz256⟩ : ∃ z : Nat, z = 2 ^ ks.length ∧ z ≤ 256 := ⟨_, rfl, Nat.pow_le_pow_right (n := 2) (by decide) h8⟩
    refine run_skip (by kernel_rfl) ?_
    refine run_seq (x := F20.c13) (y := F20.c20) (by kernel_rfl) ?_
    refine run_seq (x := F20.c14) (y := F20.c15) (by kernel_rfl) ?_
    refine run_cut 23 (decide (mask < 0 ∨ (z : Int) ≤ mask)) (col1 C) ?_ ?_
    · intro hcut
      by_cases hA : mask < 0
      · skip
        refine run_plain (id := 4) (ops := F20.o4) [(0, true), (1, true), (2, true), (3, true), (4, true), (5, true), (6, true), (7, true), (8, true)] (by kernel_rfl) (by kernel_rfl) ?_
        refine yS (by kernel_rfl : opAt F20.o4 0 = some (some 15, .move (.tmp 2), none)) rfl rfl (fun w' hS => val_move rfl) ?_
        refine yS (by kernel_rfl : opAt F20.o4 1 = some (some 16, .binOp .lss 3 (.tmp 15) (.const (.int .i64 0)) 3, none)) rfl rfl (fun w' hS => val_T (val_lss rfl rfl) hA) ?_
        refine yS (by kernel_rfl : opAt F20.o4 2 = some (some 17, .move (.tmp 16), none)) rfl rfl (fun w' hS => val_move rfl) ?_
        refine pS (by kernel_rfl : opAt F20.o4 3 = some (some 18, .move (.tmp 2), (some (2, false)))) rfl rfl ?_
        refine pS (by kernel_rfl : opAt F20.o4 4 = some (some 19, .move (.tmp 0), (some (2, false)))) rfl rfl ?_
        refine pS (by kernel_rfl : opAt F20.o4 5 = some (some 20, .call { callee := .builtin .len, args := #[(.tmp 19)], argTypes := #[23] }, (some (2, false)))) rfl rfl ?_
        refine pS (by kernel_rfl : opAt F20.o4 6 = some (some 21, .binOp .shl 3 (.const (.int .i64 1)) (.tmp 20) 3, (some (2, false)))) rfl rfl ?_
        refine pS (by kernel_rfl : opAt F20.o4 7 = some (some 22, .binOp .geq 3 (.tmp 18) (.tmp 21) 3, (some (2, false)))) rfl rfl ?_
        refine yS (by kernel_rfl : opAt F20.o4 8 = some (some 23, .pick (.tmp 17) (.const (.bool true)) (.tmp 22), none)) rfl rfl (fun w' hS => val_pick_t rfl rfl) ?_
        exact Sch.nil (hcut _ _ _ (Stp.refl _ _ _) rfl (by rw [decide_eq_true (Or.inl hA)]) (sub_skip rfl (sub_skip rfl (sub_skip rfl (sub_skip rfl (sub_skip rfl (sub_skip rfl (sub_skip rfl (sub_skip rfl (sub_skip rfl (Sub.refl _)))))))))))
      · skip
        refine run_plain (id := 4) (ops := F20.o4) [(0, true), (1, true), (2, true), (3, true), (4, true), (5, true), (6, true), (7, true), (8, true)] (by kernel_rfl) (by kernel_rfl) ?_
        refine yS (by kernel_rfl : opAt F20.o4 0 = some (some 15, .move (.tmp 2), none)) rfl rfl (fun w' hS => val_move rfl) ?_
        refine yS (by kernel_rfl : opAt F20.o4 1 = some (some 16, .binOp .lss 3 (.tmp 15) (.const (.int .i64 0)) 3, none)) rfl rfl (fun w' hS => val_F (val_lss rfl rfl) hA) ?_
        refine yS (by kernel_rfl : opAt F20.o4 2 = some (some 17, .move (.tmp 16), none)) rfl rfl (fun w' hS => val_move rfl) ?_
        refine yS (by kernel_rfl : opAt F20.o4 3 = some (some 18, .move (.tmp 2), (some (2, false)))) rfl rfl (fun w' hS => val_move rfl) ?_
        refine yS (by kernel_rfl : opAt F20.o4 4 = some (some 19, .move (.tmp 0), (some (2, false)))) rfl rfl (fun w' hS => val_move rfl) ?_
        refine yS (by kernel_rfl : opAt F20.o4 5 = some (some 20, .call { callee := .builtin .len, args := #[(.tmp 19)], argTypes := #[23] }, (some (2, false)))) rfl rfl (fun w' hS => hk.lenV rfl Try.underlying23 w' ) ?_
        refine yS (by kernel_rfl : opAt F20.o4 6 = some (some 21, .binOp .shl 3 (.const (.int .i64 1)) (.tmp 20) 3, (some (2, false)))) rfl rfl (fun w' hS => val_shlE (r := (z : Int)) rfl rfl (by omega) (by rw [hz2]; exact shl1N (by omega))) ?_
        refine yS (by kernel_rfl : opAt F20.o4 7 = some (some 22, .binOp .geq 3 (.tmp 18) (.tmp 21) 3, (some (2, false)))) rfl rfl (fun w' hS => val_geq rfl rfl) ?_
        refine yS (by kernel_rfl : opAt F20.o4 8 = some (some 23, .pick (.tmp 17) (.const (.bool true)) (.tmp 22), none)) rfl rfl (fun w' hS => val_pick_f rfl rfl) ?_
        exact Sch.nil (hcut _ _ _ (Stp.refl _ _ _) rfl (by congr 1; apply decide_eq_decide.2; omega) (sub_skip rfl (sub_skip rfl (sub_skip rfl (sub_skip rfl (sub_skip rfl (sub_skip rfl (sub_skip rfl (sub_skip rfl (sub_skip rfl (Sub.refl _)))))))))))
    intro w2 hs
    replace hF := hF.st hs
    replace hT := hT.trans hs (by simp)
    replace hk := hk.st hs (by first | decide | (simp <;> omega))
    replace hr := hr.st hs (by first | decide | (simp <;> omega))
    refine run_if (x := F20.c16) (y := F20.c19) (o := .tmp 23) (by kernel_rfl) rfl (fun h23 => ?_) (fun h23 => ?_)
    · skip
      refine run_seq (x := F20.c17) (y := F20.c18) (by kernel_rfl) ?_
      refine run_plain (id := 5) (ops := F20.o5) [(0, true), (1, true)] (by kernel_rfl) (by kernel_rfl) ?_
      refine yS (by kernel_rfl : opAt F20.o5 0 = some (some 6, .assign (.const (.int .i64 0)), none)) rfl rfl (fun w' hS => val_assign rfl) ?_
      refine yS (by kernel_rfl : opAt F20.o5 1 = some (some 7, .assign (.const (.int .i64 2)), none)) rfl rfl (fun w' hS => val_assign rfl) ?_
      refine Sch.nil ?_
      refine run_ret2 (by kernel_rfl) Try.func20 Try.results20 rfl rfl ?_
      refine ⟨?_, hT.out1 (by decide)⟩
      unfold missE; rw [if_neg h13, ← hz2, if_pos h23]
    · skip
      obtain ⟨mk, rfl⟩ : ∃ mk : Nat, mask = mk := ⟨mask.toNat, by omega⟩
      refine run_skip (by kernel_rfl) ?_
      refine run_seq (x := F20.c21) (y := F20.c22) (by kernel_rfl) ?_
      refine run_plain (id := 6) (ops := F20.o6) [(0, true), (1, false), (2, true), (3, true), (4, false), (5, true), (6, true)] (by kernel_rfl) (by kernel_rfl) ?_
      refine yS (by kernel_rfl : opAt F20.o6 0 = some (some 24, .move (.tmp 0), none)) rfl rfl (fun w' hS => val_move rfl) ?_
      refine cS (by kernel_rfl : opAt F20.o6 1 = some (some 25, .call { callee := .value (.func 37), args := #[(.tmp 24)], argTypes := #[23] }, none)) rfl rfl (ent Try.call37 rfl) (sets_ok hF hk hs0 h10) ?_
      rintro vw3 w3 ⟨hs, hS0⟩
      refine ⟨trivial, ?_⟩
      replace hF := hF.st hs
      replace hT := hT.trans hs (by simp)
      replace hk := hk.st hs (by first | decide | (simp <;> omega))
      replace hr := hr.st hs (by first | decide | (simp <;> omega))
      refine yS (by kernel_rfl : opAt F20.o6 2 = some (some 26, .move (.tmp 1), none)) rfl rfl (fun w' hS => val_move rfl) ?_
      refine yS (by kernel_rfl : opAt F20.o6 3 = some (some 27, .move (.tmp 2), none)) rfl rfl (fun w' hS => val_move rfl) ?_
      refine cS (by kernel_rfl : opAt F20.o6 4 = some (some 28, .call { callee := .value (.func 36), args := #[(.tmp 25), (.tmp 26), (.tmp 27)], argTypes := #[22, 22, 3] }, none)) rfl rfl (ent Try.call36 rfl) (missedS_ok (mask := mk) hF hS0 hr hrs (by omega) (setsS_lt h10) (by omega) (by rw [setsS, List.length_map]; omega)) ?_
      rintro vw4 w4 ⟨rfl, hs⟩
      refine ⟨trivial, ?_⟩
      replace hF := hF.st hs
      replace hT := hT.trans hs (by simp)
      replace hk := hk.st hs (by first | decide | (simp <;> omega))
      replace hr := hr.st hs (by first | decide | (simp <;> omega))
      replace hS0 := hS0.st hs (by first | decide | (simp <;> omega))
      refine yS (by kernel_rfl : opAt F20.o6 5 = some (some 6, .assign (.tmp 28), none)) rfl rfl (fun w' hS => val_assign rfl) ?_
      refine yS (by kernel_rfl : opAt F20.o6 6 = some (some 7, .assign (.const (.int .i64 0)), none)) rfl rfl (fun w' hS => val_assign rfl) ?_
      refine Sch.nil ?_
      refine run_ret2 (by kernel_rfl) Try.func20 Try.results20 rfl rfl ?_
      refine ⟨?_, hT.out1 (by decide)⟩
      unfold missE; rw [if_neg h13, ← hz2, if_neg h23, Int.toNat_natCast]
end Go.Proofs.Ytpmokjccfaakfaa

