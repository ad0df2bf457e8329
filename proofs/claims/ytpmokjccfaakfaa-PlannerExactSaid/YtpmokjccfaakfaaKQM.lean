/- Steps through functions of the program. -/
import Derived.Test.YtpmokjccfaakfaaKQL
set_option linter.unusedVariables false
set_option linter.unusedSimpArgs false
set_option maxRecDepth 100000
set_option maxHeartbeats 400000
namespace Go.Proofs.Ytpmokjccfaakfaa
open Go.K Go.K.Rep

namespace F21
noncomputable def c0 : Code := bodyOf Try.f21
noncomputable def c1 : Code := cl c0
noncomputable def o0 : Array Oper := rops c1
noncomputable def c2 : Code := cr c0
noncomputable def c3 : Code := cl c2
noncomputable def c4 : Code := cl c3
noncomputable def o1 : Array Oper := rops c4
noncomputable def c5 : Code := cr c3
noncomputable def c6 : Code := cl c5
noncomputable def o2 : Array Oper := rops c6
noncomputable def c7 : Code := cr c5
noncomputable def c8 : Code := cl c7
noncomputable def c9 : Code := cl c8
noncomputable def o3 : Array Oper := rops c9
noncomputable def c10 : Code := cr c8
noncomputable def c11 : Code := cr c7
noncomputable def c12 : Code := cr c2
noncomputable def c13 : Code := cl c12
noncomputable def c14 : Code := cl c13
noncomputable def o4 : Array Oper := rops c14
noncomputable def c15 : Code := cr c13
noncomputable def c16 : Code := cl c15
noncomputable def c17 : Code := cl c16
noncomputable def o5 : Array Oper := rops c17
noncomputable def c18 : Code := cr c16
noncomputable def c19 : Code := cr c15
noncomputable def c20 : Code := cr c12
noncomputable def c21 : Code := cl c20
noncomputable def o6 : Array Oper := rops c21
noncomputable def c22 : Code := cr c20
noncomputable def c23 : Code := cl c22
noncomputable def o7 : Array Oper := rops c23
noncomputable def c24 : Code := cr c22
noncomputable def c25 : Code := cl c24
noncomputable def c26 : Code := cl c25
noncomputable def o8 : Array Oper := rops c26
noncomputable def c27 : Code := cr c25
noncomputable def c28 : Code := cl c27
noncomputable def c29 : Code := cl c28
noncomputable def c30 : Code := cl c29
noncomputable def c31 : Code := cl c30
noncomputable def o9 : Array Oper := rops c31
noncomputable def c32 : Code := cr c30
noncomputable def c33 : Code := cl c32
noncomputable def c34 : Code := cr c32
noncomputable def c35 : Code := cr c29
noncomputable def c36 : Code := cl c35
noncomputable def c37 : Code := cl c36
noncomputable def c38 : Code := cl c37
noncomputable def o11 : Array Oper := rops c38
noncomputable def c39 : Code := cr c37
noncomputable def c40 : Code := cl c39
noncomputable def c41 : Code := cl c40
noncomputable def o12 : Array Oper := rops c41
noncomputable def c42 : Code := cr c40
noncomputable def c43 : Code := cl c42
noncomputable def c44 : Code := cl c43
noncomputable def c45 : Code := cl c44
noncomputable def c46 : Code := cl c45
noncomputable def o13 : Array Oper := rops c46
noncomputable def c47 : Code := cr c45
noncomputable def c48 : Code := cl c47
noncomputable def c49 : Code := cr c47
noncomputable def c50 : Code := cr c44
noncomputable def c51 : Code := cl c50
noncomputable def c52 : Code := cl c51
noncomputable def c53 : Code := cl c52
noncomputable def o15 : Array Oper := rops c53
noncomputable def c54 : Code := cr c52
noncomputable def c55 : Code := cl c54
noncomputable def o16 : Array Oper := rops c55
noncomputable def c56 : Code := cr c54
noncomputable def c57 : Code := cr c50
noncomputable def o14 : Array Oper := rops c57
noncomputable def c58 : Code := cr c39
noncomputable def c59 : Code := cl c58
noncomputable def c60 : Code := cl c59
noncomputable def o17 : Array Oper := rops c60
noncomputable def c61 : Code := cr c59
noncomputable def c62 : Code := cl c61
noncomputable def c63 : Code := cr c61
noncomputable def c64 : Code := cr c58
noncomputable def c65 : Code := cl c64
noncomputable def o18 : Array Oper := rops c65
noncomputable def c66 : Code := cr c64
noncomputable def c67 : Code := cl c66
noncomputable def c68 : Code := cl c67
noncomputable def o19 : Array Oper := rops c68
noncomputable def c69 : Code := cr c67
noncomputable def c70 : Code := cl c69
noncomputable def c71 : Code := cl c70
noncomputable def c72 : Code := cl c71
noncomputable def c73 : Code := cl c72
noncomputable def o20 : Array Oper := rops c73
noncomputable def c74 : Code := cr c72
noncomputable def c75 : Code := cl c74
noncomputable def c76 : Code := cr c74
noncomputable def c77 : Code := cr c71
noncomputable def c78 : Code := cl c77
noncomputable def c79 : Code := cl c78
noncomputable def c80 : Code := cl c79
noncomputable def o22 : Array Oper := rops c80
noncomputable def c81 : Code := cr c79
noncomputable def c82 : Code := cl c81
noncomputable def o23 : Array Oper := rops c82
noncomputable def c83 : Code := cr c81
noncomputable def o24 : Array Oper := rops c83
noncomputable def c84 : Code := cr c77
noncomputable def o21 : Array Oper := rops c84
noncomputable def c85 : Code := cr c66
noncomputable def o25 : Array Oper := rops c85
noncomputable def c86 : Code := cr c35
noncomputable def o10 : Array Oper := rops c86
noncomputable def c87 : Code := cr c24
noncomputable def c88 : Code := cl c87
noncomputable def o26 : Array Oper := rops c88
noncomputable def c89 : Code := cr c87
end F21
/-- The document's 'Missed'. -/
theorem refMissed_ok {w₀ : World} {C : Nat → Nat} {ks : List Key} {rs : List Int} {vk vr : Value} {mask : Int} (hF : Lim w₀ C) (hk : RV w₀ (Mc C) ks vk) (hr : RV w₀ (Mc C) rs vr) (hs0 : KeysSm ks) : Calls Try.prog 21 #[vk, vr, .int .i64 mask] w₀ (Ret fun v w' => v = missE ks rs mask ∧ Stp [] w₀ C w' C) := by
  have hF0 := hF
  have hT := Stp.refl [2, 3, 4, 5, 6, 7, 8, 9] w₀ (col1 C)
  replace hF := hF.col1
  replace hk : RV w₀ (Mc (col1 C)) ks vk := by rw [Mc_col1]; exact hk
  replace hr : RV w₀ (Mc (col1 C)) rs vr := by rw [Mc_col1]; exact hr
  refine calls_start (c := F21.c0) (N := 91) [vk, vr, .int .i64 mask] Try.func21 (by kernel_rfl) (by kernel_rfl) (by kernel_rfl) ?_
  show Run _ _ _ _ [(0, vk), (1, vr), (2, .int .i64 mask)] _ _
  refine run_seq (x := F21.c1) (y := F21.c2) (by kernel_rfl) ?_
  refine run_plain (id := 0) (ops := F21.o0) [(0, true), (1, true)] (by kernel_rfl) (by kernel_rfl) ?_
  refine yS (by kernel_rfl : opAt F21.o0 0 = some (some 6, .assign (.const (.int .i64 0)), none)) rfl rfl (fun w' hS => val_assign rfl) ?_
  refine yS (by kernel_rfl : opAt F21.o0 1 = some (some 7, .assign (.const (.int .i64 0)), none)) rfl rfl (fun w' hS => val_assign rfl) ?_
  refine Sch.nil ?_
  refine run_seq (x := F21.c3) (y := F21.c12) (by kernel_rfl) ?_
  refine run_seq (x := F21.c4) (y := F21.c5) (by kernel_rfl) ?_
  refine run_plain (id := 1) (ops := F21.o1) [(0, true), (1, true), (2, false), (3, true)] (by kernel_rfl) (by kernel_rfl) ?_
  refine yS (by kernel_rfl : opAt F21.o1 0 = some (some 16, .move (.tmp 0), none)) rfl rfl (fun w' hS => val_move rfl) ?_
  refine yS (by kernel_rfl : opAt F21.o1 1 = some (some 17, .move (.tmp 1), none)) rfl rfl (fun w' hS => val_move rfl) ?_
  refine cS (by kernel_rfl : opAt F21.o1 2 = some (some 18, .call { callee := .value (.func 18), args := #[(.tmp 16), (.tmp 17)], argTypes := #[23, 22] }, none)) rfl rfl (ent Try.call18 rfl) (refCheck_ok hF hk hr hs0) ?_
  rintro vw1 w1 ⟨rfl, hs⟩
  refine ⟨trivial, ?_⟩
  replace hF := hF.st hs
  replace hT := hT.trans hs (by simp)
  replace hk := hk.st hs (by first | decide | (simp <;> omega))
  replace hr := hr.st hs (by first | decide | (simp <;> omega))
  refine yS (by kernel_rfl : opAt F21.o1 3 = some (some 8, .assign (.tmp 18), none)) rfl rfl (fun w' hS => val_assign rfl) ?_
  refine Sch.nil ?_
  refine run_seq (x := F21.c6) (y := F21.c7) (by kernel_rfl) ?_
  refine run_plain (id := 2) (ops := F21.o2) [(0, true), (1, true)] (by kernel_rfl) (by kernel_rfl) ?_
  refine yS (by kernel_rfl : opAt F21.o2 0 = some (some 19, .move (.tmp 8), none)) rfl rfl (fun w' hS => val_move rfl) ?_
  refine yS (by kernel_rfl : opAt F21.o2 1 = some (some 20, .binOp .neq 37 (.tmp 19) (.const (.int .i64 0)) 37, none)) rfl rfl (fun w' hS => val_neq rfl rfl) ?_
  refine Sch.nil ?_
  refine run_if (x := F21.c8) (y := F21.c11) (o := .tmp 20) (by kernel_rfl) rfl (fun h20 => ?_) (fun h20 => ?_)
  · skip
    refine run_seq (x := F21.c9) (y := F21.c10) (by kernel_rfl) ?_
    refine run_plain (id := 3) (ops := F21.o3) [(0, true), (1, true), (2, true)] (by kernel_rfl) (by kernel_rfl) ?_
    refine yS (by kernel_rfl : opAt F21.o3 0 = some (some 21, .move (.tmp 8), none)) rfl rfl (fun w' hS => val_move rfl) ?_
    refine yS (by kernel_rfl : opAt F21.o3 1 = some (some 6, .assign (.const (.int .i64 0)), none)) rfl rfl (fun w' hS => val_assign rfl) ?_
    refine yS (by kernel_rfl : opAt F21.o3 2 = some (some 7, .assign (.tmp 21), none)) rfl rfl (fun w' hS => val_assign rfl) ?_
    refine Sch.nil ?_
    refine run_ret2 (by kernel_rfl) Try.func21 Try.results21 rfl rfl ?_
    refine ⟨?_, hT.out1 (by decide)⟩
    unfold missE; rw [if_pos h20]
  · skip
    have hz : checkP ks rs = 0 := by simpa using h20
    obtain ⟨h8, h10, hrl, hrs⟩ := checkP_zero hz
    obtain ⟨z, hz2, hz256⟩ : ∃ z : Nat, z = 2 ^ ks.length ∧ z ≤ 256 := ⟨_, rfl, Nat.pow_le_pow_right (n := 2) (by decide) h8⟩
    refine run_skip (by kernel_rfl) ?_
    refine run_seq (x := F21.c13) (y := F21.c20) (by kernel_rfl) ?_
    refine run_seq (x := F21.c14) (y := F21.c15) (by kernel_rfl) ?_
    refine run_cut 30 (decide (mask < 0 ∨ (z : Int) ≤ mask)) (col1 C) ?_ ?_
    · intro hcut
      by_cases hA : mask < 0
      · skip
        refine run_plain (id := 4) (ops := F21.o4) [(0, true), (1, true), (2, true), (3, true), (4, true), (5, true), (6, true), (7, true), (8, true)] (by kernel_rfl) (by kernel_rfl) ?_
        refine yS (by kernel_rfl : opAt F21.o4 0 = some (some 22, .move (.tmp 2), none)) rfl rfl (fun w' hS => val_move rfl) ?_
        refine yS (by kernel_rfl : opAt F21.o4 1 = some (some 23, .binOp .lss 3 (.tmp 22) (.const (.int .i64 0)) 3, none)) rfl rfl (fun w' hS => val_T (val_lss rfl rfl) hA) ?_
        refine yS (by kernel_rfl : opAt F21.o4 2 = some (some 24, .move (.tmp 23), none)) rfl rfl (fun w' hS => val_move rfl) ?_
        refine pS (by kernel_rfl : opAt F21.o4 3 = some (some 25, .move (.tmp 2), (some (2, false)))) rfl rfl ?_
        refine pS (by kernel_rfl : opAt F21.o4 4 = some (some 26, .move (.tmp 0), (some (2, false)))) rfl rfl ?_
        refine pS (by kernel_rfl : opAt F21.o4 5 = some (some 27, .call { callee := .builtin .len, args := #[(.tmp 26)], argTypes := #[23] }, (some (2, false)))) rfl rfl ?_
        refine pS (by kernel_rfl : opAt F21.o4 6 = some (some 28, .binOp .shl 3 (.const (.int .i64 1)) (.tmp 27) 3, (some (2, false)))) rfl rfl ?_
        refine pS (by kernel_rfl : opAt F21.o4 7 = some (some 29, .binOp .geq 3 (.tmp 25) (.tmp 28) 3, (some (2, false)))) rfl rfl ?_
        refine yS (by kernel_rfl : opAt F21.o4 8 = some (some 30, .pick (.tmp 24) (.const (.bool true)) (.tmp 29), none)) rfl rfl (fun w' hS => val_pick_t rfl rfl) ?_
        exact Sch.nil (hcut _ _ _ (Stp.refl _ _ _) rfl (by rw [decide_eq_true (Or.inl hA)]) (sub_skip rfl (sub_skip rfl (sub_skip rfl (sub_skip rfl (sub_skip rfl (sub_skip rfl (sub_skip rfl (sub_skip rfl (sub_skip rfl (Sub.refl _)))))))))))
      · skip
        refine run_plain (id := 4) (ops := F21.o4) [(0, true), (1, true), (2, true), (3, true), (4, true), (5, true), (6, true), (7, true), (8, true)] (by kernel_rfl) (by kernel_rfl) ?_
        refine yS (by kernel_rfl : opAt F21.o4 0 = some (some 22, .move (.tmp 2), none)) rfl rfl (fun w' hS => val_move rfl) ?_
        refine yS (by kernel_rfl : opAt F21.o4 1 = some (some 23, .binOp .lss 3 (.tmp 22) (.const (.int .i64 0)) 3, none)) rfl rfl (fun w' hS => val_F (val_lss rfl rfl) hA) ?_
        refine yS (by kernel_rfl : opAt F21.o4 2 = some (some 24, .move (.tmp 23), none)) rfl rfl (fun w' hS => val_move rfl) ?_
        refine yS (by kernel_rfl : opAt F21.o4 3 = some (some 25, .move (.tmp 2), (some (2, false)))) rfl rfl (fun w' hS => val_move rfl) ?_
        refine yS (by kernel_rfl : opAt F21.o4 4 = some (some 26, .move (.tmp 0), (some (2, false)))) rfl rfl (fun w' hS => val_move rfl) ?_
        refine yS (by kernel_rfl : opAt F21.o4 5 = some (some 27, .call { callee := .builtin .len, args := #[(.tmp 26)], argTypes := #[23] }, (some (2, false)))) rfl rfl (fun w' hS => hk.lenV rfl Try.underlying23 w' ) ?_
        refine yS (by kernel_rfl : opAt F21.o4 6 = some (some 28, .binOp .shl 3 (.const (.int .i64 1)) (.tmp 27) 3, (some (2, false)))) rfl rfl (fun w' hS => val_shlE (r := (z : Int)) rfl rfl (by omega) (by rw [hz2]; exact shl1N (by omega))) ?_
        refine yS (by kernel_rfl : opAt F21.o4 7 = some (some 29, .binOp .geq 3 (.tmp 25) (.tmp 28) 3, (some (2, false)))) rfl rfl (fun w' hS => val_geq rfl rfl) ?_
        refine yS (by kernel_rfl : opAt F21.o4 8 = some (some 30, .pick (.tmp 24) (.const (.bool true)) (.tmp 29), none)) rfl rfl (fun w' hS => val_pick_f rfl rfl) ?_
        exact Sch.nil (hcut _ _ _ (Stp.refl _ _ _) rfl (by congr 1; apply decide_eq_decide.2; omega) (sub_skip rfl (sub_skip rfl (sub_skip rfl (sub_skip rfl (sub_skip rfl (sub_skip rfl (sub_skip rfl (sub_skip rfl (sub_skip rfl (Sub.refl _)))))))))))
    intro w2 hs
    replace hF := hF.st hs
    replace hT := hT.trans hs (by simp)
    replace hk := hk.st hs (by first | decide | (simp <;> omega))
    replace hr := hr.st hs (by first | decide | (simp <;> omega))
    refine run_if (x := F21.c16) (y := F21.c19) (o := .tmp 30) (by kernel_rfl) rfl (fun h30 => ?_) (fun h30 => ?_)
    · skip
      refine run_seq (x := F21.c17) (y := F21.c18) (by kernel_rfl) ?_
      refine run_plain (id := 5) (ops := F21.o5) [(0, true), (1, true)] (by kernel_rfl) (by kernel_rfl) ?_
      refine yS (by kernel_rfl : opAt F21.o5 0 = some (some 6, .assign (.const (.int .i64 0)), none)) rfl rfl (fun w' hS => val_assign rfl) ?_
      refine yS (by kernel_rfl : opAt F21.o5 1 = some (some 7, .assign (.const (.int .i64 2)), none)) rfl rfl (fun w' hS => val_assign rfl) ?_
      refine Sch.nil ?_
      refine run_ret2 (by kernel_rfl) Try.func21 Try.results21 rfl rfl ?_
      refine ⟨?_, hT.out1 (by decide)⟩
      unfold missE; rw [if_neg h20, ← hz2, if_pos h30]
    · skip
      obtain ⟨mk, rfl⟩ : ∃ mk : Nat, mask = mk := ⟨mask.toNat, by omega⟩
      obtain ⟨y, hy, hy1⟩ : ∃ y : Nat, y = 2 ^ rs.length ∧ y ≤ 1024 := ⟨_, rfl, Nat.pow_le_pow_right (n := 2) (by decide) (show rs.length ≤ 10 by omega)⟩
      have hsum := gS_sum ks rs mk
      have hle := missS_le (sets := setsS ks) (mask := mk) hrs
      have h64 : ∀ q : Nat, q ≤ 10 → (64 : Int) ^ q ≤ 1152921504606846976 := fun q hq => by
        have h1 : (64 : Nat) ^ q ≤ 64 ^ 10 := Nat.pow_le_pow_right (by decide) hq
        have h2 : (64 : Int) ^ q = ((64 ^ q : Nat) : Int) := by simp
        rw [h2]; omega
      have hle2 := h64 rs.length (by omega)
      rw [← hy] at hsum
      refine run_skip (by kernel_rfl) ?_
      refine run_seq (x := F21.c21) (y := F21.c22) (by kernel_rfl) ?_
      refine run_plain (id := 6) (ops := F21.o6) [(0, true), (1, false), (2, true)] (by kernel_rfl) (by kernel_rfl) ?_
      refine yS (by kernel_rfl : opAt F21.o6 0 = some (some 31, .move (.tmp 0), none)) rfl rfl (fun w' hS => val_move rfl) ?_
      refine cS (by kernel_rfl : opAt F21.o6 1 = some (some 32, .call { callee := .value (.func 15), args := #[(.tmp 31)], argTypes := #[23] }, none)) rfl rfl (ent Try.call15 rfl) (refAtoms_ok hF hk hs0) ?_
      rintro vat w3 ⟨hs, ha⟩
      refine ⟨trivial, ?_⟩
      replace hF := hF.st hs
      replace hT := hT.trans hs (by simp)
      replace hk := hk.st hs (by first | decide | (simp <;> omega))
      replace hr := hr.st hs (by first | decide | (simp <;> omega))
      refine yS (by kernel_rfl : opAt F21.o6 2 = some (some 9, .assign (.tmp 32), none)) rfl rfl (fun w' hS => val_assign rfl) ?_
      refine Sch.nil ?_
      refine run_seq (x := F21.c23) (y := F21.c24) (by kernel_rfl) ?_
      refine run_plain (id := 7) (ops := F21.o7) [(0, true)] (by kernel_rfl) (by kernel_rfl) ?_
      refine yS (by kernel_rfl : opAt F21.o7 0 = some (some 10, .assign (.const (.int .i64 0)), none)) rfl rfl (fun w' hS => val_assign rfl) ?_
      refine Sch.nil ?_
      refine run_seq (x := F21.c25) (y := F21.c87) (by kernel_rfl) ?_
      refine run_seq (x := F21.c26) (y := F21.c27) (by kernel_rfl) ?_
      refine run_plain (id := 8) (ops := F21.o8) [(0, true)] (by kernel_rfl) (by kernel_rfl) ?_
      refine yS (by kernel_rfl : opAt F21.o8 0 = some (some 11, .assign (.const (.int .i64 0)), none)) rfl rfl (fun w' hS => val_assign rfl) ?_
      refine Sch.nil ?_
      refine run_block (x := F21.c28) (id := 0) (by kernel_rfl) ?_
      
      refine run_loop (ι := Nat × (Nat → Nat)) (I := fun x w => x.1 ≤ y ∧ Lim w x.2 ∧ Stp [2, 3, 4, 5, 6, 7, 8, 9] w₀ (col1 C) w x.2 ∧ RV w (Mc x.2) ks vk ∧ RV w (Mc x.2) rs vr ∧ RV w (Mc x.2) (atomsS ks) vat) (e := fun x => [(0, vk), (1, vr), (2, .int .i64 (mk : Int)), (9, vat), (10, .int .i64 (sumN (gS ks rs mk) x.1)), (11, .int .i64 x.1)]) (m := fun x => y - x.1) (x₀ := (0, col1 C)) (body := F21.c29) (by kernel_rfl) (sub_cons 0 rfl rfl (sub_cons 1 rfl rfl (sub_cons 2 rfl rfl (sub_cons 9 rfl rfl (sub_cons 10 rfl rfl (sub_cons 11 rfl rfl (sub_nil _))))))) ?_ ?_
      · exact ⟨Nat.zero_le _, hF, hT, hk, hr, ha⟩
      intro ⟨s, C1⟩ w4 hI next
      obtain ⟨hsy, hF, hT, hk, hr, ha⟩ := hI
      try simp only at hsy hF hT hk hr ha
      have next1 := next
      clear next
      show Run _ _ _ _ [(0, vk), (1, vr), (2, .int .i64 (mk : Int)), (9, vat), (10, .int .i64 (sumN (gS ks rs mk) s)), (11, .int .i64 s)] _ _
      have hm1 := sumN_mono (gS_nonneg (ks := ks) (mk := mk) hrs) hsy
      have hm0 := sumN_mono (gS_nonneg (ks := ks) (mk := mk) hrs) (Nat.zero_le s)
      have hm00 : sumN (gS ks rs mk) 0 = 0 := rfl
      refine run_seq (x := F21.c30) (y := F21.c35) (by kernel_rfl) ?_
      refine run_seq (x := F21.c31) (y := F21.c32) (by kernel_rfl) ?_
      refine run_plain (id := 9) (ops := F21.o9) [(0, true), (1, true), (2, true), (3, true), (4, true)] (by kernel_rfl) (by kernel_rfl) ?_
      refine yS (by kernel_rfl : opAt F21.o9 0 = some (some 33, .move (.tmp 11), none)) rfl rfl (fun w' hS => val_move rfl) ?_
      refine yS (by kernel_rfl : opAt F21.o9 1 = some (some 34, .move (.tmp 9), none)) rfl rfl (fun w' hS => val_move rfl) ?_
      refine yS (by kernel_rfl : opAt F21.o9 2 = some (some 35, .call { callee := .builtin .len, args := #[(.tmp 34)], argTypes := #[26] }, none)) rfl rfl (fun w' hS => ha.lenV rfl Try.underlying26 w' ) ?_
      refine yS (by kernel_rfl : opAt F21.o9 3 = some (some 36, .binOp .shl 3 (.const (.int .i64 1)) (.tmp 35) 3, none)) rfl rfl (fun w' hS => val_shlE (r := (y : Int)) rfl rfl (by omega) (by rw [← hrl, hy]; exact shl1N (by omega))) ?_
      refine yS (by kernel_rfl : opAt F21.o9 4 = some (some 37, .binOp .lss 3 (.tmp 33) (.tmp 36) 3, none)) rfl rfl (fun w' hS => val_lss rfl rfl) ?_
      refine Sch.nil ?_
      refine run_if (x := F21.c33) (y := F21.c34) (o := .tmp 37) (by kernel_rfl) rfl (fun h37 => ?_) (fun h37 => ?_)
      · skip
        have hsl : s < y := by omega
        have hm2 := sumN_mono (gS_nonneg (ks := ks) (mk := mk) hrs) (show s + 1 ≤ y from hsl)
        have hm3 : sumN (gS ks rs mk) (s + 1) = sumN (gS ks rs mk) s + gS ks rs mk s := rfl
        refine run_skip (by kernel_rfl) ?_
        refine run_seq (x := F21.c36) (y := F21.c86) (by kernel_rfl) ?_
        refine run_block (x := F21.c37) (id := 1) (by kernel_rfl) ?_
        refine run_seq (x := F21.c38) (y := F21.c39) (by kernel_rfl) ?_
        refine run_plain (id := 11) (ops := F21.o11) [(0, true)] (by kernel_rfl) (by kernel_rfl) ?_
        refine yS (by kernel_rfl : opAt F21.o11 0 = some (some 12, .assign (.const (.bool true)), none)) rfl rfl (fun w' hS => val_assign rfl) ?_
        refine Sch.nil ?_
        refine run_seq (x := F21.c40) (y := F21.c58) (by kernel_rfl) ?_
        refine run_seq (x := F21.c41) (y := F21.c42) (by kernel_rfl) ?_
        refine run_plain (id := 12) (ops := F21.o12) [(0, true)] (by kernel_rfl) (by kernel_rfl) ?_
        refine yS (by kernel_rfl : opAt F21.o12 0 = some (some 13, .assign (.const (.int .i64 0)), none)) rfl rfl (fun w' hS => val_assign rfl) ?_
        refine Sch.nil ?_
        refine run_block (x := F21.c43) (id := 2) (by kernel_rfl) ?_
        
        refine run_loop (ι := Nat × (Nat → Nat)) (I := fun x w => x.1 ≤ ks.length ∧ Lim w x.2 ∧ Stp [2, 3, 4, 5, 6, 7, 8, 9] w₀ (col1 C) w x.2 ∧ RV w (Mc x.2) ks vk ∧ RV w (Mc x.2) rs vr ∧ RV w (Mc x.2) (atomsS ks) vat) (e := fun x => [(0, vk), (1, vr), (2, .int .i64 (mk : Int)), (9, vat), (10, .int .i64 (sumN (gS ks rs mk) s)), (11, .int .i64 s), (12, .bool (allP ks mk s x.1)), (13, .int .i64 x.1)]) (m := fun x => ks.length - x.1) (x₀ := (0, C1)) (body := F21.c44) (by kernel_rfl) (sub_cons 0 rfl rfl (sub_cons 1 rfl rfl (sub_cons 2 rfl rfl (sub_cons 9 rfl rfl (sub_cons 10 rfl rfl (sub_cons 11 rfl rfl (sub_cons 12 rfl rfl (sub_cons 13 rfl rfl (sub_nil _))))))))) ?_ ?_
        · exact ⟨Nat.zero_le _, hF, hT, hk, hr, ha⟩
        intro ⟨i, C1⟩ w5 hI next
        obtain ⟨hi, hF, hT, hk, hr, ha⟩ := hI
        try simp only at hi hF hT hk hr ha
        have next2 := next
        clear next
        show Run _ _ _ _ [(0, vk), (1, vr), (2, .int .i64 (mk : Int)), (9, vat), (10, .int .i64 (sumN (gS ks rs mk) s)), (11, .int .i64 s), (12, .bool (allP ks mk s i)), (13, .int .i64 i)] _ _
        refine run_seq (x := F21.c45) (y := F21.c50) (by kernel_rfl) ?_
        refine run_seq (x := F21.c46) (y := F21.c47) (by kernel_rfl) ?_
        refine run_plain (id := 13) (ops := F21.o13) [(0, true), (1, true), (2, true), (3, true)] (by kernel_rfl) (by kernel_rfl) ?_
        refine yS (by kernel_rfl : opAt F21.o13 0 = some (some 40, .move (.tmp 13), none)) rfl rfl (fun w' hS => val_move rfl) ?_
        refine yS (by kernel_rfl : opAt F21.o13 1 = some (some 41, .move (.tmp 0), none)) rfl rfl (fun w' hS => val_move rfl) ?_
        refine yS (by kernel_rfl : opAt F21.o13 2 = some (some 42, .call { callee := .builtin .len, args := #[(.tmp 41)], argTypes := #[23] }, none)) rfl rfl (fun w' hS => hk.lenV rfl Try.underlying23 w' ) ?_
        refine yS (by kernel_rfl : opAt F21.o13 3 = some (some 43, .binOp .lss 3 (.tmp 40) (.tmp 42) 3, none)) rfl rfl (fun w' hS => val_lss rfl rfl) ?_
        refine Sch.nil ?_
        refine run_if (x := F21.c48) (y := F21.c49) (o := .tmp 43) (by kernel_rfl) rfl (fun h43 => ?_) (fun h43 => ?_)
        · skip
          have hil : i < ks.length := by omega
          have hap := allP_succ ks mk s i
          have hgd : ks.getD i ⟨[]⟩ = ks[i] := by simp [List.getD_eq_getElem?_getD, hil]
          rw [hgd] at hap
          refine run_skip (by kernel_rfl) ?_
          refine run_seq (x := F21.c51) (y := F21.c57) (by kernel_rfl) ?_
          refine run_block (x := F21.c52) (id := 3) (by kernel_rfl) ?_
          refine run_seq (x := F21.c53) (y := F21.c54) (by kernel_rfl) ?_
          refine run_cut 60 ((mk.testBit i && !(missB ks[i].comps (atomsS ks) s))) (C1) ?_ ?_
          · intro hcut
            by_cases hA : mk.testBit i = true
            · skip
              refine run_plain (id := 15) (ops := F21.o15) [(0, true), (1, true), (2, true), (3, true), (4, true), (5, true), (6, true), (7, true), (8, true), (9, false), (10, true), (11, true), (12, false), (13, true), (14, true)] (by kernel_rfl) (by kernel_rfl) ?_
              have hcs := Stp.reflF hF
              refine yS (by kernel_rfl : opAt F21.o15 0 = some (some 46, .move (.tmp 2), none)) rfl rfl (fun w' hS => val_move rfl) ?_
              refine yS (by kernel_rfl : opAt F21.o15 1 = some (some 47, .move (.tmp 13), none)) rfl rfl (fun w' hS => val_move rfl) ?_
              refine yS (by kernel_rfl : opAt F21.o15 2 = some (some 48, .binOp .shr 3 (.tmp 46) (.tmp 47) 3, none)) rfl rfl (fun w' hS => val_shrE (r := ((mk / 2 ^ i : Nat) : Int)) rfl rfl (by omega) (shrN (by omega))) ?_
              refine yS (by kernel_rfl : opAt F21.o15 3 = some (some 49, .binOp .and 3 (.tmp 48) (.const (.int .i64 1)) 3, none)) rfl rfl (fun w' hS => val_andE (r := ((mk / 2 ^ i &&& 1 : Nat) : Int)) rfl rfl (bits_and (n := 1) (Nat.lt_of_le_of_lt (Nat.div_le_self _ _) (by omega)) (by decide))) ?_
              refine yS (by kernel_rfl : opAt F21.o15 4 = some (some 50, .binOp .eql 3 (.tmp 49) (.const (.int .i64 1)) 3, none)) rfl rfl (fun w' hS => val_T (val_eql rfl rfl) ((bit_is _ _).2 hA)) ?_
              refine yS (by kernel_rfl : opAt F21.o15 5 = some (some 51, .move (.tmp 50), none)) rfl rfl (fun w' hS => val_move rfl) ?_
              refine yS (by kernel_rfl : opAt F21.o15 6 = some (some 52, .move (.tmp 0), (some (5, true)))) rfl rfl (fun w' hS => val_move rfl) ?_
              refine yS (by kernel_rfl : opAt F21.o15 7 = some (some 53, .move (.tmp 13), (some (5, true)))) rfl rfl (fun w' hS => val_move rfl) ?_
              refine iS (e := 28) (by kernel_rfl : opAt F21.o15 8 = some (some 54, .indexAddr 23 (.tmp 52) (.tmp 53), (some (5, true)))) rfl rfl hk rfl (by kernel_rfl) rfl (by omega) (by omega) ?_
              intro b54 o54 h54
              try simp only [Int.toNat_natCast] at h54
              refine lNA (by kernel_rfl : opAt F21.o15 9 = some (some 55, .load 28 (.tmp 54), (some (5, true)))) rfl rfl trivial h54 (by kernel_rfl) (by kernel_rfl) rfl rfl ?_
              intro v55 g55
              obtain ⟨u55, rfl, gu55⟩ := rv_key' g55
              refine yS (by kernel_rfl : opAt F21.o15 10 = some (some 56, .move (.tmp 9), (some (5, true)))) rfl rfl (fun w' hS => val_move rfl) ?_
              refine yS (by kernel_rfl : opAt F21.o15 11 = some (some 57, .move (.tmp 11), (some (5, true)))) rfl rfl (fun w' hS => val_move rfl) ?_
              refine cS (by kernel_rfl : opAt F21.o15 12 = some (some 58, .call { callee := .value (.func 38), args := #[(.tmp 55), (.tmp 56), (.tmp 57)], argTypes := #[28, 26, 3] }, (some (5, true)))) rfl rfl (ent Try.call38 rfl) (misses_ok (s := s) hF gu55 ha h10 (by omega)) ?_
              rintro vw6 w6 ⟨rfl, hs⟩
              refine ⟨trivial, ?_⟩
              replace hF := hF.st hs
              replace hT := hT.trans hs (by simp)
              replace hk := hk.st hs (by first | decide | (simp <;> omega))
              replace hr := hr.st hs (by first | decide | (simp <;> omega))
              replace ha := ha.st hs (by first | decide | (simp <;> omega))
              replace hcs := hcs.trans hs (by simp)
              replace h54 := h54.st hs (by first | decide | (simp <;> omega))
              replace gu55 := gu55.st hs (by first | decide | (simp <;> omega))
              refine yS (by kernel_rfl : opAt F21.o15 13 = some (some 59, .unOp .not 4 (.tmp 58), (some (5, true)))) rfl rfl (fun w' hS => val_not rfl) ?_
              refine yS (by kernel_rfl : opAt F21.o15 14 = some (some 60, .pick (.tmp 51) (.tmp 59) (.const (.bool false)), none)) rfl rfl (fun w' hS => val_pick_t rfl rfl) ?_
              exact Sch.nil (hcut _ _ _ hcs rfl (by rw [hA]; rfl) (sub_skip rfl (sub_skip rfl (sub_skip rfl (sub_skip rfl (sub_skip rfl (sub_skip rfl (sub_skip rfl (sub_skip rfl (sub_skip rfl (sub_skip rfl (sub_skip rfl (sub_skip rfl (sub_skip rfl (sub_skip rfl (sub_skip rfl (Sub.refl _)))))))))))))))))
            · skip
              refine run_plain (id := 15) (ops := F21.o15) [(0, true), (1, true), (2, true), (3, true), (4, true), (5, true), (6, true), (7, true), (8, true), (9, false), (10, true), (11, true), (12, false), (13, true), (14, true)] (by kernel_rfl) (by kernel_rfl) ?_
              have hcs := Stp.reflF hF
              refine yS (by kernel_rfl : opAt F21.o15 0 = some (some 46, .move (.tmp 2), none)) rfl rfl (fun w' hS => val_move rfl) ?_
              refine yS (by kernel_rfl : opAt F21.o15 1 = some (some 47, .move (.tmp 13), none)) rfl rfl (fun w' hS => val_move rfl) ?_
              refine yS (by kernel_rfl : opAt F21.o15 2 = some (some 48, .binOp .shr 3 (.tmp 46) (.tmp 47) 3, none)) rfl rfl (fun w' hS => val_shrE (r := ((mk / 2 ^ i : Nat) : Int)) rfl rfl (by omega) (shrN (by omega))) ?_
              refine yS (by kernel_rfl : opAt F21.o15 3 = some (some 49, .binOp .and 3 (.tmp 48) (.const (.int .i64 1)) 3, none)) rfl rfl (fun w' hS => val_andE (r := ((mk / 2 ^ i &&& 1 : Nat) : Int)) rfl rfl (bits_and (n := 1) (Nat.lt_of_le_of_lt (Nat.div_le_self _ _) (by omega)) (by decide))) ?_
              refine yS (by kernel_rfl : opAt F21.o15 4 = some (some 50, .binOp .eql 3 (.tmp 49) (.const (.int .i64 1)) 3, none)) rfl rfl (fun w' hS => val_F (val_eql rfl rfl) (fun e => hA ((bit_is _ _).1 e))) ?_
              refine yS (by kernel_rfl : opAt F21.o15 5 = some (some 51, .move (.tmp 50), none)) rfl rfl (fun w' hS => val_move rfl) ?_
              refine pS (by kernel_rfl : opAt F21.o15 6 = some (some 52, .move (.tmp 0), (some (5, true)))) rfl rfl ?_
              refine pS (by kernel_rfl : opAt F21.o15 7 = some (some 53, .move (.tmp 13), (some (5, true)))) rfl rfl ?_
              refine pS (by kernel_rfl : opAt F21.o15 8 = some (some 54, .indexAddr 23 (.tmp 52) (.tmp 53), (some (5, true)))) rfl rfl ?_
              refine pW (by kernel_rfl : opAt F21.o15 9 = some (some 55, .load 28 (.tmp 54), (some (5, true)))) rfl rfl trivial ?_
              refine pS (by kernel_rfl : opAt F21.o15 10 = some (some 56, .move (.tmp 9), (some (5, true)))) rfl rfl ?_
              refine pS (by kernel_rfl : opAt F21.o15 11 = some (some 57, .move (.tmp 11), (some (5, true)))) rfl rfl ?_
              refine pW (by kernel_rfl : opAt F21.o15 12 = some (some 58, .call { callee := .value (.func 38), args := #[(.tmp 55), (.tmp 56), (.tmp 57)], argTypes := #[28, 26, 3] }, (some (5, true)))) rfl rfl trivial ?_
              refine pS (by kernel_rfl : opAt F21.o15 13 = some (some 59, .unOp .not 4 (.tmp 58), (some (5, true)))) rfl rfl ?_
              refine yS (by kernel_rfl : opAt F21.o15 14 = some (some 60, .pick (.tmp 51) (.tmp 59) (.const (.bool false)), none)) rfl rfl (fun w' hS => val_pick_f rfl rfl) ?_
              exact Sch.nil (hcut _ _ _ hcs rfl (by rw [Bool.eq_false_iff.2 hA]; rfl) (sub_skip rfl (sub_skip rfl (sub_skip rfl (sub_skip rfl (sub_skip rfl (sub_skip rfl (sub_skip rfl (sub_skip rfl (sub_skip rfl (sub_skip rfl (sub_skip rfl (sub_skip rfl (sub_skip rfl (sub_skip rfl (sub_skip rfl (Sub.refl _)))))))))))))))))
          intro w7 hs
          replace hF := hF.st hs
          replace hT := hT.trans hs (by simp)
          replace hk := hk.st hs (by first | decide | (simp <;> omega))
          replace hr := hr.st hs (by first | decide | (simp <;> omega))
          replace ha := ha.st hs (by first | decide | (simp <;> omega))
          refine run_cond (x := F21.c55) (y := F21.c56) (o := .tmp 60) (by kernel_rfl) rfl (fun h60 => ?_) (fun h60 => ?_)
          · skip
            refine run_plain (id := 16) (ops := F21.o16) [(0, true)] (by kernel_rfl) (by kernel_rfl) ?_
            refine yS (by kernel_rfl : opAt F21.o16 0 = some (some 12, .assign (.const (.bool false)), none)) rfl rfl (fun w' hS => val_assign rfl) ?_
            refine Sch.nil ?_
            refine run_inBlock ?_
            refine run_plain (id := 14) (ops := F21.o14) [(0, true), (1, true), (2, true)] (by kernel_rfl) (by kernel_rfl) ?_
            refine yS (by kernel_rfl : opAt F21.o14 0 = some (some 44, .move (.tmp 13), none)) rfl rfl (fun w' hS => val_move rfl) ?_
            refine yS (by kernel_rfl : opAt F21.o14 1 = some (some 45, .binOp .add 3 (.tmp 44) (.const (.int .i64 1)) 3, none)) rfl rfl (fun w' hS => val_addi rfl rfl (by omega) (by omega)) ?_
            refine yS (by kernel_rfl : opAt F21.o14 2 = some (some 13, .assign (.tmp 45), none)) rfl rfl (fun w' hS => val_assign rfl) ?_
            refine Sch.nil ?_
            refine kp (sub_cons 0 rfl rfl (sub_cons 1 rfl rfl (sub_cons 2 rfl rfl (sub_cons 9 rfl rfl (sub_cons 10 rfl rfl (sub_cons 11 rfl rfl (sub_cons 12 rfl (eq_bool (by simp only; rw [hap]; revert h60; cases allP ks mk s i <;> cases mk.testBit i <;> cases missB ks[i].comps (atomsS ks) s <;> simp)) (sub_cons 13 rfl (eq_int (by simp)) (sub_nil _))))))))) (next2 (i + 1, C1) _ ⟨(by first | omega | (simp only; omega)), hF, hT, hk, hr, ha⟩ (by first | omega | (simp only; omega)))
          · skip
            refine run_skip (by kernel_rfl) ?_
            refine run_inBlock ?_
            refine run_plain (id := 14) (ops := F21.o14) [(0, true), (1, true), (2, true)] (by kernel_rfl) (by kernel_rfl) ?_
            refine yS (by kernel_rfl : opAt F21.o14 0 = some (some 44, .move (.tmp 13), none)) rfl rfl (fun w' hS => val_move rfl) ?_
            refine yS (by kernel_rfl : opAt F21.o14 1 = some (some 45, .binOp .add 3 (.tmp 44) (.const (.int .i64 1)) 3, none)) rfl rfl (fun w' hS => val_addi rfl rfl (by omega) (by omega)) ?_
            refine yS (by kernel_rfl : opAt F21.o14 2 = some (some 13, .assign (.tmp 45), none)) rfl rfl (fun w' hS => val_assign rfl) ?_
            refine Sch.nil ?_
            refine kp (sub_cons 0 rfl rfl (sub_cons 1 rfl rfl (sub_cons 2 rfl rfl (sub_cons 9 rfl rfl (sub_cons 10 rfl rfl (sub_cons 11 rfl rfl (sub_cons 12 rfl (eq_bool (by simp only; rw [hap]; revert h60; cases allP ks mk s i <;> cases mk.testBit i <;> cases missB ks[i].comps (atomsS ks) s <;> simp)) (sub_cons 13 rfl (eq_int (by simp)) (sub_nil _))))))))) (next2 (i + 1, C1) _ ⟨(by first | omega | (simp only; omega)), hF, hT, hk, hr, ha⟩ (by first | omega | (simp only; omega)))
        · skip
          obtain rfl : i = ks.length := by omega
          have hok : okS (setsS ks) mk s = allP ks mk s ks.length := okS_keys ks mk s
          refine run_exit (id := 2) (by kernel_rfl) rfl ?_
          refine run_seq (x := F21.c59) (y := F21.c64) (by kernel_rfl) ?_
          refine run_seq (x := F21.c60) (y := F21.c61) (by kernel_rfl) ?_
          refine run_plain (id := 17) (ops := F21.o17) [(0, true), (1, true)] (by kernel_rfl) (by kernel_rfl) ?_
          refine yS (by kernel_rfl : opAt F21.o17 0 = some (some 61, .move (.tmp 12), none)) rfl rfl (fun w' hS => val_move rfl) ?_
          refine yS (by kernel_rfl : opAt F21.o17 1 = some (some 62, .unOp .not 4 (.tmp 61), none)) rfl rfl (fun w' hS => val_not rfl) ?_
          refine Sch.nil ?_
          refine run_cond (x := F21.c62) (y := F21.c63) (o := .tmp 62) (by kernel_rfl) rfl (fun h62 => ?_) (fun h62 => ?_)
          · skip
            have hokf : allP ks mk s ks.length = false := by simpa using h62
            have hg0 : gS ks rs mk s = 0 := by unfold gS; rw [hok, hokf]; rfl
            refine run_exit (id := 1) (by kernel_rfl) rfl ?_
            refine run_plain (id := 10) (ops := F21.o10) [(0, true), (1, true), (2, true)] (by kernel_rfl) (by kernel_rfl) ?_
            refine yS (by kernel_rfl : opAt F21.o10 0 = some (some 38, .move (.tmp 11), none)) rfl rfl (fun w' hS => val_move rfl) ?_
            refine yS (by kernel_rfl : opAt F21.o10 1 = some (some 39, .binOp .add 3 (.tmp 38) (.const (.int .i64 1)) 3, none)) rfl rfl (fun w' hS => val_addi rfl rfl (by omega) (by omega)) ?_
            refine yS (by kernel_rfl : opAt F21.o10 2 = some (some 11, .assign (.tmp 39), none)) rfl rfl (fun w' hS => val_assign rfl) ?_
            refine Sch.nil ?_
            refine kp (sub_cons 0 rfl rfl (sub_cons 1 rfl rfl (sub_cons 2 rfl rfl (sub_cons 9 rfl rfl (sub_cons 10 rfl (eq_int (by simp only; rw [hm3, hg0, Int.add_zero])) (sub_cons 11 rfl (eq_int (by simp)) (sub_nil _))))))) (next1 (s + 1, C1) _ ⟨(by first | omega | (simp only; omega)), hF, hT, hk, hr, ha⟩ (by first | omega | (simp only; omega)))
          · skip
            have hokt : allP ks mk s ks.length = true := by simpa using h62
            have hg1 : gS ks rs mk s = prodS rs s := by unfold gS; rw [hok, hokt]; rfl
            refine run_skip (by kernel_rfl) ?_
            refine run_seq (x := F21.c65) (y := F21.c66) (by kernel_rfl) ?_
            refine run_plain (id := 18) (ops := F21.o18) [(0, true)] (by kernel_rfl) (by kernel_rfl) ?_
            refine yS (by kernel_rfl : opAt F21.o18 0 = some (some 14, .assign (.const (.int .i64 1)), none)) rfl rfl (fun w' hS => val_assign rfl) ?_
            refine Sch.nil ?_
            refine run_seq (x := F21.c67) (y := F21.c85) (by kernel_rfl) ?_
            refine run_seq (x := F21.c68) (y := F21.c69) (by kernel_rfl) ?_
            refine run_plain (id := 19) (ops := F21.o19) [(0, true)] (by kernel_rfl) (by kernel_rfl) ?_
            refine yS (by kernel_rfl : opAt F21.o19 0 = some (some 15, .assign (.const (.int .i64 0)), none)) rfl rfl (fun w' hS => val_assign rfl) ?_
            refine Sch.nil ?_
            refine run_block (x := F21.c70) (id := 4) (by kernel_rfl) ?_
            
            refine run_loop (ι := Nat × (Nat → Nat)) (I := fun x w => x.1 ≤ rs.length ∧ Lim w x.2 ∧ Stp [2, 3, 4, 5, 6, 7, 8, 9] w₀ (col1 C) w x.2 ∧ RV w (Mc x.2) ks vk ∧ RV w (Mc x.2) rs vr ∧ RV w (Mc x.2) (atomsS ks) vat) (e := fun x => [(0, vk), (1, vr), (2, .int .i64 (mk : Int)), (9, vat), (10, .int .i64 (sumN (gS ks rs mk) s)), (11, .int .i64 s), (14, .int .i64 (prodP rs s x.1)), (15, .int .i64 x.1)]) (m := fun x => rs.length - x.1) (x₀ := (0, C1)) (body := F21.c71) (by kernel_rfl) (sub_cons 0 rfl rfl (sub_cons 1 rfl rfl (sub_cons 2 rfl rfl (sub_cons 9 rfl rfl (sub_cons 10 rfl rfl (sub_cons 11 rfl rfl (sub_cons 14 rfl rfl (sub_cons 15 rfl rfl (sub_nil _))))))))) ?_ ?_
            · exact ⟨Nat.zero_le _, hF, hT, hk, hr, ha⟩
            intro ⟨k, C1⟩ w8 hI next
            obtain ⟨hk0, hF, hT, hk, hr, ha⟩ := hI
            try simp only at hk0 hF hT hk hr ha
            have next3 := next
            clear next
            show Run _ _ _ _ [(0, vk), (1, vr), (2, .int .i64 (mk : Int)), (9, vat), (10, .int .i64 (sumN (gS ks rs mk) s)), (11, .int .i64 s), (14, .int .i64 (prodP rs s k)), (15, .int .i64 k)] _ _
            have hpb := prodP_bound hrs s k hk0
            have h64k := h64 k (by omega)
            refine run_seq (x := F21.c72) (y := F21.c77) (by kernel_rfl) ?_
            refine run_seq (x := F21.c73) (y := F21.c74) (by kernel_rfl) ?_
            refine run_plain (id := 20) (ops := F21.o20) [(0, true), (1, true), (2, true), (3, true)] (by kernel_rfl) (by kernel_rfl) ?_
            refine yS (by kernel_rfl : opAt F21.o20 0 = some (some 63, .move (.tmp 15), none)) rfl rfl (fun w' hS => val_move rfl) ?_
            refine yS (by kernel_rfl : opAt F21.o20 1 = some (some 64, .move (.tmp 9), none)) rfl rfl (fun w' hS => val_move rfl) ?_
            refine yS (by kernel_rfl : opAt F21.o20 2 = some (some 65, .call { callee := .builtin .len, args := #[(.tmp 64)], argTypes := #[26] }, none)) rfl rfl (fun w' hS => ha.lenV rfl Try.underlying26 w' ) ?_
            refine yS (by kernel_rfl : opAt F21.o20 3 = some (some 66, .binOp .lss 3 (.tmp 63) (.tmp 65) 3, none)) rfl rfl (fun w' hS => val_lss rfl rfl) ?_
            refine Sch.nil ?_
            refine run_if (x := F21.c75) (y := F21.c76) (o := .tmp 66) (by kernel_rfl) rfl (fun h66 => ?_) (fun h66 => ?_)
            · skip
              have hkl : k < rs.length := by omega
              have hps := prodP_succ rs s k
              have hpb2 := prodP_bound hrs s (k + 1) (by omega)
              have h64k2 := h64 (k + 1) (by omega)
              have hgk : rs.getD k 0 = rs[k] := by simp [List.getD_eq_getElem?_getD, hkl]
              have hrk := hrs rs[k] (List.getElem_mem hkl)
              rw [hgk] at hps
              refine run_skip (by kernel_rfl) ?_
              refine run_seq (x := F21.c78) (y := F21.c84) (by kernel_rfl) ?_
              refine run_block (x := F21.c79) (id := 5) (by kernel_rfl) ?_
              refine run_seq (x := F21.c80) (y := F21.c81) (by kernel_rfl) ?_
              refine run_plain (id := 22) (ops := F21.o22) [(0, true), (1, true), (2, true), (3, true), (4, true)] (by kernel_rfl) (by kernel_rfl) ?_
              refine yS (by kernel_rfl : opAt F21.o22 0 = some (some 69, .move (.tmp 11), none)) rfl rfl (fun w' hS => val_move rfl) ?_
              refine yS (by kernel_rfl : opAt F21.o22 1 = some (some 70, .move (.tmp 15), none)) rfl rfl (fun w' hS => val_move rfl) ?_
              refine yS (by kernel_rfl : opAt F21.o22 2 = some (some 71, .binOp .shr 3 (.tmp 69) (.tmp 70) 3, none)) rfl rfl (fun w' hS => val_shrE (r := ((s / 2 ^ k : Nat) : Int)) rfl rfl (by omega) (shrN (by omega))) ?_
              refine yS (by kernel_rfl : opAt F21.o22 3 = some (some 72, .binOp .and 3 (.tmp 71) (.const (.int .i64 1)) 3, none)) rfl rfl (fun w' hS => val_andE (r := ((s / 2 ^ k &&& 1 : Nat) : Int)) rfl rfl (bits_and (n := 1) (Nat.lt_of_le_of_lt (Nat.div_le_self _ _) (by omega)) (by decide))) ?_
              refine yS (by kernel_rfl : opAt F21.o22 4 = some (some 73, .binOp .eql 3 (.tmp 72) (.const (.int .i64 1)) 3, none)) rfl rfl (fun w' hS => val_eql rfl rfl) ?_
              refine Sch.nil ?_
              refine run_if (x := F21.c82) (y := F21.c83) (o := .tmp 73) (by kernel_rfl) rfl (fun h73 => ?_) (fun h73 => ?_)
              · skip
                rw [if_pos ((bit_is _ _).1 h73)] at hps
                refine run_plain (id := 23) (ops := F21.o23) [(0, true), (1, true), (2, true), (3, true), (4, false), (5, true), (6, true)] (by kernel_rfl) (by kernel_rfl) ?_
                refine yS (by kernel_rfl : opAt F21.o23 0 = some (some 74, .move (.tmp 14), none)) rfl rfl (fun w' hS => val_move rfl) ?_
                refine yS (by kernel_rfl : opAt F21.o23 1 = some (some 75, .move (.tmp 1), none)) rfl rfl (fun w' hS => val_move rfl) ?_
                refine yS (by kernel_rfl : opAt F21.o23 2 = some (some 76, .move (.tmp 15), none)) rfl rfl (fun w' hS => val_move rfl) ?_
                refine iS (e := 3) (by kernel_rfl : opAt F21.o23 3 = some (some 77, .indexAddr 22 (.tmp 75) (.tmp 76), none)) rfl rfl hr rfl (by kernel_rfl) rfl (by omega) (by omega) ?_
                intro b77 o77 h77
                try simp only [Int.toNat_natCast] at h77
                refine lN (by kernel_rfl : opAt F21.o23 4 = some (some 78, .load 3 (.tmp 77), none)) rfl rfl trivial h77 (by kernel_rfl) rfl rfl ?_
                intro v78 g78
                obtain rfl := rv_int.1 g78
                refine yS (by kernel_rfl : opAt F21.o23 5 = some (some 79, .binOp .mul 3 (.tmp 74) (.tmp 78) 3, none)) rfl rfl (fun w' hS => val_muli rfl rfl (by omega) (by omega)) ?_
                refine yS (by kernel_rfl : opAt F21.o23 6 = some (some 14, .assign (.tmp 79), none)) rfl rfl (fun w' hS => val_assign rfl) ?_
                refine Sch.nil ?_
                refine run_inBlock ?_
                refine run_plain (id := 21) (ops := F21.o21) [(0, true), (1, true), (2, true)] (by kernel_rfl) (by kernel_rfl) ?_
                refine yS (by kernel_rfl : opAt F21.o21 0 = some (some 67, .move (.tmp 15), none)) rfl rfl (fun w' hS => val_move rfl) ?_
                refine yS (by kernel_rfl : opAt F21.o21 1 = some (some 68, .binOp .add 3 (.tmp 67) (.const (.int .i64 1)) 3, none)) rfl rfl (fun w' hS => val_addi rfl rfl (by omega) (by omega)) ?_
                refine yS (by kernel_rfl : opAt F21.o21 2 = some (some 15, .assign (.tmp 68), none)) rfl rfl (fun w' hS => val_assign rfl) ?_
                refine Sch.nil ?_
                refine kp (sub_cons 0 rfl rfl (sub_cons 1 rfl rfl (sub_cons 2 rfl rfl (sub_cons 9 rfl rfl (sub_cons 10 rfl rfl (sub_cons 11 rfl rfl (sub_cons 14 rfl (eq_int (by simp only; rw [hps])) (sub_cons 15 rfl (eq_int (by simp)) (sub_nil _))))))))) (next3 (k + 1, C1) _ ⟨(by first | omega | (simp only; omega)), hF, hT, hk, hr, ha⟩ (by first | omega | (simp only; omega)))
              · skip
                rw [if_neg (fun e => h73 ((bit_is _ _).2 e))] at hps
                refine run_plain (id := 24) (ops := F21.o24) [(0, true), (1, true), (2, true), (3, true), (4, false), (5, true), (6, true), (7, true)] (by kernel_rfl) (by kernel_rfl) ?_
                refine yS (by kernel_rfl : opAt F21.o24 0 = some (some 80, .move (.tmp 14), none)) rfl rfl (fun w' hS => val_move rfl) ?_
                refine yS (by kernel_rfl : opAt F21.o24 1 = some (some 81, .move (.tmp 1), none)) rfl rfl (fun w' hS => val_move rfl) ?_
                refine yS (by kernel_rfl : opAt F21.o24 2 = some (some 82, .move (.tmp 15), none)) rfl rfl (fun w' hS => val_move rfl) ?_
                refine iS (e := 3) (by kernel_rfl : opAt F21.o24 3 = some (some 83, .indexAddr 22 (.tmp 81) (.tmp 82), none)) rfl rfl hr rfl (by kernel_rfl) rfl (by omega) (by omega) ?_
                intro b83 o83 h83
                try simp only [Int.toNat_natCast] at h83
                refine lN (by kernel_rfl : opAt F21.o24 4 = some (some 84, .load 3 (.tmp 83), none)) rfl rfl trivial h83 (by kernel_rfl) rfl rfl ?_
                intro v84 g84
                obtain rfl := rv_int.1 g84
                refine yS (by kernel_rfl : opAt F21.o24 5 = some (some 85, .binOp .sub 3 (.const (.int .i64 64)) (.tmp 84) 3, none)) rfl rfl (fun w' hS => val_subi rfl rfl (by omega) (by omega)) ?_
                refine yS (by kernel_rfl : opAt F21.o24 6 = some (some 86, .binOp .mul 3 (.tmp 80) (.tmp 85) 3, none)) rfl rfl (fun w' hS => val_muli rfl rfl (by omega) (by omega)) ?_
                refine yS (by kernel_rfl : opAt F21.o24 7 = some (some 14, .assign (.tmp 86), none)) rfl rfl (fun w' hS => val_assign rfl) ?_
                refine Sch.nil ?_
                refine run_inBlock ?_
                refine run_plain (id := 21) (ops := F21.o21) [(0, true), (1, true), (2, true)] (by kernel_rfl) (by kernel_rfl) ?_
                refine yS (by kernel_rfl : opAt F21.o21 0 = some (some 67, .move (.tmp 15), none)) rfl rfl (fun w' hS => val_move rfl) ?_
                refine yS (by kernel_rfl : opAt F21.o21 1 = some (some 68, .binOp .add 3 (.tmp 67) (.const (.int .i64 1)) 3, none)) rfl rfl (fun w' hS => val_addi rfl rfl (by omega) (by omega)) ?_
                refine yS (by kernel_rfl : opAt F21.o21 2 = some (some 15, .assign (.tmp 68), none)) rfl rfl (fun w' hS => val_assign rfl) ?_
                refine Sch.nil ?_
                refine kp (sub_cons 0 rfl rfl (sub_cons 1 rfl rfl (sub_cons 2 rfl rfl (sub_cons 9 rfl rfl (sub_cons 10 rfl rfl (sub_cons 11 rfl rfl (sub_cons 14 rfl (eq_int (by simp only; rw [hps])) (sub_cons 15 rfl (eq_int (by simp)) (sub_nil _))))))))) (next3 (k + 1, C1) _ ⟨(by first | omega | (simp only; omega)), hF, hT, hk, hr, ha⟩ (by first | omega | (simp only; omega)))
            · skip
              obtain rfl : k = rs.length := by omega
              have hpe : prodP rs s rs.length = prodS rs s := prodP_all rs s
              rw [prodP_all]
              refine run_exit (id := 4) (by kernel_rfl) rfl ?_
              refine run_plain (id := 25) (ops := F21.o25) [(0, true), (1, true), (2, true), (3, true)] (by kernel_rfl) (by kernel_rfl) ?_
              refine yS (by kernel_rfl : opAt F21.o25 0 = some (some 87, .move (.tmp 10), none)) rfl rfl (fun w' hS => val_move rfl) ?_
              refine yS (by kernel_rfl : opAt F21.o25 1 = some (some 88, .move (.tmp 14), none)) rfl rfl (fun w' hS => val_move rfl) ?_
              refine yS (by kernel_rfl : opAt F21.o25 2 = some (some 89, .binOp .add 3 (.tmp 87) (.tmp 88) 3, none)) rfl rfl (fun w' hS => val_addi rfl rfl (by omega) (by omega)) ?_
              refine yS (by kernel_rfl : opAt F21.o25 3 = some (some 10, .assign (.tmp 89), none)) rfl rfl (fun w' hS => val_assign rfl) ?_
              refine Sch.nil ?_
              refine run_inBlock ?_
              refine run_plain (id := 10) (ops := F21.o10) [(0, true), (1, true), (2, true)] (by kernel_rfl) (by kernel_rfl) ?_
              refine yS (by kernel_rfl : opAt F21.o10 0 = some (some 38, .move (.tmp 11), none)) rfl rfl (fun w' hS => val_move rfl) ?_
              refine yS (by kernel_rfl : opAt F21.o10 1 = some (some 39, .binOp .add 3 (.tmp 38) (.const (.int .i64 1)) 3, none)) rfl rfl (fun w' hS => val_addi rfl rfl (by omega) (by omega)) ?_
              refine yS (by kernel_rfl : opAt F21.o10 2 = some (some 11, .assign (.tmp 39), none)) rfl rfl (fun w' hS => val_assign rfl) ?_
              refine Sch.nil ?_
              refine kp (sub_cons 0 rfl rfl (sub_cons 1 rfl rfl (sub_cons 2 rfl rfl (sub_cons 9 rfl rfl (sub_cons 10 rfl (eq_int (by simp only; rw [hm3, hg1])) (sub_cons 11 rfl (eq_int (by simp)) (sub_nil _))))))) (next1 (s + 1, C1) _ ⟨(by first | omega | (simp only; omega)), hF, hT, hk, hr, ha⟩ (by first | omega | (simp only; omega)))
      · skip
        obtain rfl : s = y := by omega
        refine run_exit (id := 0) (by kernel_rfl) rfl ?_
        refine run_seq (x := F21.c88) (y := F21.c89) (by kernel_rfl) ?_
        refine run_plain (id := 26) (ops := F21.o26) [(0, true), (1, true), (2, true)] (by kernel_rfl) (by kernel_rfl) ?_
        refine yS (by kernel_rfl : opAt F21.o26 0 = some (some 90, .move (.tmp 10), none)) rfl rfl (fun w' hS => val_move rfl) ?_
        refine yS (by kernel_rfl : opAt F21.o26 1 = some (some 6, .assign (.tmp 90), none)) rfl rfl (fun w' hS => val_assign rfl) ?_
        refine yS (by kernel_rfl : opAt F21.o26 2 = some (some 7, .assign (.const (.int .i64 0)), none)) rfl rfl (fun w' hS => val_assign rfl) ?_
        refine Sch.nil ?_
        refine run_ret2 (by kernel_rfl) Try.func21 Try.results21 rfl rfl ?_
        refine ⟨?_, hT.out1 (by decide)⟩
        unfold missE; rw [if_neg h20, ← hz2, if_neg h30, Int.toNat_natCast, hsum]
end Go.Proofs.Ytpmokjccfaakfaa

