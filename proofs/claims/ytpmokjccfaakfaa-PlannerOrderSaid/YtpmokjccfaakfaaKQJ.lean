/- Steps through functions of the program. -/
import Derived.Test.YtpmokjccfaakfaaKQE
set_option linter.unusedVariables false
set_option linter.unusedSimpArgs false
set_option maxRecDepth 100000
set_option maxHeartbeats 400000
namespace Go.Proofs.Ytpmokjccfaakfaa
open Go.K Go.K.Rep

namespace F8
noncomputable def c0 : Code := bodyOf Try.f8
noncomputable def c1 : Code := cl c0
noncomputable def o0 : Array Oper := rops c1
noncomputable def c2 : Code := cr c0
noncomputable def c3 : Code := cl c2
noncomputable def c4 : Code := cl c3
noncomputable def o1 : Array Oper := rops c4
noncomputable def c5 : Code := cr c3
noncomputable def c6 : Code := cl c5
noncomputable def c7 : Code := cl c6
noncomputable def o2 : Array Oper := rops c7
noncomputable def c8 : Code := cr c6
noncomputable def c9 : Code := cr c5
noncomputable def c10 : Code := cr c2
noncomputable def c11 : Code := cl c10
noncomputable def o3 : Array Oper := rops c11
noncomputable def c12 : Code := cr c10
noncomputable def c13 : Code := cl c12
noncomputable def o4 : Array Oper := rops c13
noncomputable def c14 : Code := cr c12
noncomputable def c15 : Code := cl c14
noncomputable def o5 : Array Oper := rops c15
noncomputable def c16 : Code := cr c14
noncomputable def c17 : Code := cl c16
noncomputable def c18 : Code := cl c17
noncomputable def o6 : Array Oper := rops c18
noncomputable def c19 : Code := cr c17
noncomputable def c20 : Code := cl c19
noncomputable def c21 : Code := cl c20
noncomputable def c22 : Code := cl c21
noncomputable def c23 : Code := cl c22
noncomputable def o7 : Array Oper := rops c23
noncomputable def c24 : Code := cr c22
noncomputable def c25 : Code := cl c24
noncomputable def c26 : Code := cr c24
noncomputable def c27 : Code := cr c21
noncomputable def c28 : Code := cl c27
noncomputable def c29 : Code := cl c28
noncomputable def c30 : Code := cl c29
noncomputable def o9 : Array Oper := rops c30
noncomputable def c31 : Code := cr c29
noncomputable def c32 : Code := cl c31
noncomputable def o10 : Array Oper := rops c32
noncomputable def c33 : Code := cr c31
noncomputable def c34 : Code := cl c33
noncomputable def c35 : Code := cl c34
noncomputable def o11 : Array Oper := rops c35
noncomputable def c36 : Code := cr c34
noncomputable def c37 : Code := cr c33
noncomputable def c38 : Code := cr c27
noncomputable def o8 : Array Oper := rops c38
noncomputable def c39 : Code := cr c16
noncomputable def c40 : Code := cl c39
noncomputable def o12 : Array Oper := rops c40
noncomputable def c41 : Code := cr c39
noncomputable def c42 : Code := cl c41
noncomputable def c43 : Code := cl c42
noncomputable def o13 : Array Oper := rops c43
noncomputable def c44 : Code := cr c42
noncomputable def c45 : Code := cl c44
noncomputable def c46 : Code := cl c45
noncomputable def c47 : Code := cl c46
noncomputable def o14 : Array Oper := rops c47
noncomputable def c48 : Code := cr c46
noncomputable def c49 : Code := cl c48
noncomputable def c50 : Code := cl c49
noncomputable def c51 : Code := cr c49
noncomputable def c52 : Code := cr c48
noncomputable def c53 : Code := cl c52
noncomputable def c54 : Code := cl c53
noncomputable def c55 : Code := cl c54
noncomputable def o15 : Array Oper := rops c55
noncomputable def c56 : Code := cr c54
noncomputable def c57 : Code := cl c56
noncomputable def o16 : Array Oper := rops c57
noncomputable def c58 : Code := cr c56
noncomputable def c59 : Code := cl c58
noncomputable def c60 : Code := cl c59
noncomputable def c61 : Code := cl c60
noncomputable def o17 : Array Oper := rops c61
noncomputable def c62 : Code := cr c60
noncomputable def c63 : Code := cl c62
noncomputable def c64 : Code := cl c63
noncomputable def c65 : Code := cr c63
noncomputable def c66 : Code := cr c62
noncomputable def c67 : Code := cl c66
noncomputable def c68 : Code := cl c67
noncomputable def c69 : Code := cl c68
noncomputable def o18 : Array Oper := rops c69
noncomputable def c70 : Code := cr c68
noncomputable def c71 : Code := cl c70
noncomputable def o19 : Array Oper := rops c71
noncomputable def c72 : Code := cr c70
noncomputable def c73 : Code := cl c72
noncomputable def c74 : Code := cl c73
noncomputable def o20 : Array Oper := rops c74
noncomputable def c75 : Code := cr c73
noncomputable def c76 : Code := cl c75
noncomputable def c77 : Code := cl c76
noncomputable def c78 : Code := cl c77
noncomputable def o21 : Array Oper := rops c78
noncomputable def c79 : Code := cr c77
noncomputable def c80 : Code := cl c79
noncomputable def c81 : Code := cl c80
noncomputable def c82 : Code := cr c80
noncomputable def c83 : Code := cr c79
noncomputable def c84 : Code := cl c83
noncomputable def c85 : Code := cl c84
noncomputable def c86 : Code := cl c85
noncomputable def o22 : Array Oper := rops c86
noncomputable def c87 : Code := cr c85
noncomputable def o23 : Array Oper := rops c87
noncomputable def c88 : Code := cr c83
noncomputable def o24 : Array Oper := rops c88
noncomputable def c89 : Code := cr c72
noncomputable def c90 : Code := cl c89
noncomputable def c91 : Code := cl c90
noncomputable def o25 : Array Oper := rops c91
noncomputable def c92 : Code := cr c90
noncomputable def c93 : Code := cl c92
noncomputable def c94 : Code := cl c93
noncomputable def o26 : Array Oper := rops c94
noncomputable def c95 : Code := cr c93
noncomputable def c96 : Code := cr c92
noncomputable def c97 : Code := cr c89
noncomputable def o27 : Array Oper := rops c97
noncomputable def c98 : Code := cr c66
noncomputable def o28 : Array Oper := rops c98
noncomputable def c99 : Code := cr c52
noncomputable def o29 : Array Oper := rops c99
noncomputable def c100 : Code := cr c41
noncomputable def c101 : Code := cl c100
noncomputable def o30 : Array Oper := rops c101
noncomputable def c102 : Code := cr c100
noncomputable def c103 : Code := cl c102
noncomputable def o31 : Array Oper := rops c103
noncomputable def c104 : Code := cr c102
end F8
/-- The statement's function answers true. -/
theorem plannerOrder_ok {w₀ : World} {C : Nat → Nat} {l : List Int} {vl : Value} (hF : Lim w₀ C) (hl : RV w₀ (Mc C) l vl) : Calls Try.prog 8 #[vl] w₀ (Ret fun v w' => v = .bool true ∧ Stp [] w₀ C w' C) := by
  have hF0 := hF
  have hT := Stp.refl [2, 3, 4, 5, 6, 7, 8, 9] w₀ (col1 C)
  replace hF := hF.col1
  replace hl : RV w₀ (Mc (col1 C)) l vl := by rw [Mc_col1]; exact hl
  refine calls_start (c := F8.c0) (N := 124) [vl] Try.func8 (by kernel_rfl) (by kernel_rfl) (by kernel_rfl) ?_
  show Run _ _ _ _ [(0, vl)] _ _
  refine run_seq (x := F8.c1) (y := F8.c2) (by kernel_rfl) ?_
  refine run_plain (id := 0) (ops := F8.o0) [(0, true)] (by kernel_rfl) (by kernel_rfl) ?_
  refine yS (by kernel_rfl : opAt F8.o0 0 = some (some 2, .assign (.const (.bool false)), none)) rfl rfl (fun w' hS => val_assign rfl) ?_
  refine Sch.nil ?_
  refine run_seq (x := F8.c3) (y := F8.c10) (by kernel_rfl) ?_
  refine run_seq (x := F8.c4) (y := F8.c5) (by kernel_rfl) ?_
  refine run_plain (id := 1) (ops := F8.o1) [(0, false), (1, true), (2, true), (3, true), (4, false), (5, true), (6, true)] (by kernel_rfl) (by kernel_rfl) ?_
  refine cS (by kernel_rfl : opAt F8.o1 0 = some (some 19, .call { callee := .value (.func 9), args := #[], argTypes := #[] }, none)) rfl rfl (ent Try.call9 rfl) (awake_ok hF) ?_
  rintro vw1 w1 ⟨rfl, hs⟩
  refine ⟨trivial, ?_⟩
  replace hF := hF.st hs
  replace hT := hT.trans hs (by simp)
  replace hl := hl.st hs (by first | decide | (simp <;> omega))
  refine yS (by kernel_rfl : opAt F8.o1 1 = some (some 20, .unOp .not 4 (.tmp 19), none)) rfl rfl (fun w' hS => val_not rfl) ?_
  refine yS (by kernel_rfl : opAt F8.o1 2 = some (some 21, .move (.tmp 20), none)) rfl rfl (fun w' hS => val_move rfl) ?_
  refine yS (by kernel_rfl : opAt F8.o1 3 = some (some 22, .move (.tmp 0), (some (2, false)))) rfl rfl (fun w' hS => val_move rfl) ?_
  refine cS (by kernel_rfl : opAt F8.o1 4 = some (some 23, .call { callee := .value (.func 10), args := #[(.tmp 22)], argTypes := #[22] }, (some (2, false)))) rfl rfl (ent Try.call10 rfl) (few_any hl) ?_
  rintro vw2 w2 ⟨rfl, rfl⟩
  refine ⟨trivial, ?_⟩
  refine yS (by kernel_rfl : opAt F8.o1 5 = some (some 24, .unOp .not 4 (.tmp 23), (some (2, false)))) rfl rfl (fun w' hS => val_notd rfl) ?_
  refine yS (by kernel_rfl : opAt F8.o1 6 = some (some 25, .pick (.tmp 21) (.const (.bool true)) (.tmp 24), none)) rfl rfl (fun w' hS => val_pick_f rfl rfl) ?_
  refine Sch.nil ?_
  refine run_if (x := F8.c6) (y := F8.c9) (o := .tmp 25) (by kernel_rfl) rfl (fun h25 => ?_) (fun h25 => ?_)
  · skip
    refine run_seq (x := F8.c7) (y := F8.c8) (by kernel_rfl) ?_
    refine run_plain (id := 2) (ops := F8.o2) [(0, false), (1, true)] (by kernel_rfl) (by kernel_rfl) ?_
    refine cS (by kernel_rfl : opAt F8.o2 0 = some (some 26, .call { callee := .value (.func 9), args := #[], argTypes := #[] }, none)) rfl rfl (ent Try.call9 rfl) (awake_ok hF) ?_
    rintro vw3 w3 ⟨rfl, hs⟩
    refine ⟨trivial, ?_⟩
    replace hF := hF.st hs
    replace hT := hT.trans hs (by simp)
    replace hl := hl.st hs (by first | decide | (simp <;> omega))
    refine yS (by kernel_rfl : opAt F8.o2 1 = some (some 2, .assign (.tmp 26), none)) rfl rfl (fun w' hS => val_assign rfl) ?_
    refine Sch.nil ?_
    refine run_ret1 (by kernel_rfl) Try.func8 Try.results8 rfl ?_
    exact ⟨rfl, hT.out1 (by decide)⟩
  · skip
    refine run_skip (by kernel_rfl) ?_
    refine run_seq (x := F8.c11) (y := F8.c12) (by kernel_rfl) ?_
    refine run_plain (id := 3) (ops := F8.o3) [(0, true), (1, false), (2, true)] (by kernel_rfl) (by kernel_rfl) ?_
    refine yS (by kernel_rfl : opAt F8.o3 0 = some (some 27, .move (.tmp 0), none)) rfl rfl (fun w' hS => val_move rfl) ?_
    refine cS (by kernel_rfl : opAt F8.o3 1 = some (some 28, .call { callee := .value (.func 11), args := #[(.tmp 27)], argTypes := #[22] }, none)) rfl rfl (ent Try.call11 rfl) (new_any hF hl) ?_
    rintro vw4 w4 ⟨Cd, bd, rfl, hs, hF, hd⟩
    refine ⟨trivial, ?_⟩
    replace hT := hT.trans hs (by simp)
    replace hl := hl.st hs (by first | decide | (simp <;> omega))
    refine yS (by kernel_rfl : opAt F8.o3 2 = some (some 3, .assign (.tmp 28), none)) rfl rfl (fun w' hS => val_assign rfl) ?_
    refine Sch.nil ?_
    refine run_seq (x := F8.c13) (y := F8.c14) (by kernel_rfl) ?_
    refine run_plain (id := 4) (ops := F8.o4) [(0, true), (1, false), (2, true)] (by kernel_rfl) (by kernel_rfl) ?_
    refine yS (by kernel_rfl : opAt F8.o4 0 = some (some 29, .move (.tmp 3), none)) rfl rfl (fun w' hS => val_move rfl) ?_
    refine cS (by kernel_rfl : opAt F8.o4 1 = some (some 30, .call { callee := .value (.func 12), args := #[(.tmp 29), (.const (.int .i64 5))], argTypes := #[29, 3] }, none)) rfl rfl (ent Try.call12 rfl) (keys_ok (most := 5) hF (by decide) hd (by decide)) ?_
    rintro vk w5 ⟨ks, hs, hk, hd, hkl, hkk⟩
    refine ⟨trivial, ?_⟩
    replace hF := hF.st hs
    replace hT := hT.trans hs (by simp)
    replace hl := hl.st hs (by first | decide | (simp <;> omega))
    have hok : KeysOK ks := fun k hk => ⟨(hkk k hk).1, fun c hc => by have := (hkk k hk).2 c hc; omega⟩
    have hsm : KeysSm ks := hok.sm (by omega)
    have hatl : (atomsS ks).length ≤ 8 := atomsS_bound hok (n := 4) (fun k hk c hc => ((hkk k hk).2 c hc).2.1)
    refine yS (by kernel_rfl : opAt F8.o4 2 = some (some 4, .assign (.tmp 30), none)) rfl rfl (fun w' hS => val_assign rfl) ?_
    refine Sch.nil ?_
    refine run_seq (x := F8.c15) (y := F8.c16) (by kernel_rfl) ?_
    refine run_plain (id := 5) (ops := F8.o5) [(0, true), (1, false), (2, true)] (by kernel_rfl) (by kernel_rfl) ?_
    refine yS (by kernel_rfl : opAt F8.o5 0 = some (some 31, .move (.tmp 4), none)) rfl rfl (fun w' hS => val_move rfl) ?_
    refine cS (by kernel_rfl : opAt F8.o5 1 = some (some 32, .call { callee := .value (.func 14), args := #[(.tmp 31)], argTypes := #[23] }, none)) rfl rfl (ent Try.call14 rfl) (atoms_ok hF hk hsm) ?_
    rintro vat w6 ⟨hs, ha⟩
    refine ⟨trivial, ?_⟩
    replace hF := hF.st hs
    replace hT := hT.trans hs (by simp)
    replace hl := hl.st hs (by first | decide | (simp <;> omega))
    replace hd := hd.st hs (by first | decide | (simp <;> omega)) (by first | decide | (simp <;> omega))
    replace hk := hk.st hs (by first | decide | (simp <;> omega))
    obtain ⟨at_, hat⟩ : ∃ l, l = atomsS ks := ⟨_, rfl⟩
    rw [← hat] at ha hatl
    have hle := atomsS_le ks
    rw [← hat] at hle
    have hst : ∀ (i : Nat) (h1 : 1 ≤ i) (h : i < at_.length), ltB (at_[i - 1]'(by omega)) at_[i] = true := by clear ha hatl hle; subst hat; exact atomsS_strict ks
    have hmem : ∀ k ∈ ks, ∀ c ∈ k.comps, c ∈ at_ := fun k hk c hc => by rw [hat]; exact atomsS_mem.2 ⟨k, hk, hc⟩
    have hcl := hsm.len
    refine yS (by kernel_rfl : opAt F8.o5 2 = some (some 5, .assign (.tmp 32), none)) rfl rfl (fun w' hS => val_assign rfl) ?_
    refine Sch.nil ?_
    refine run_seq (x := F8.c17) (y := F8.c39) (by kernel_rfl) ?_
    refine run_seq (x := F8.c18) (y := F8.c19) (by kernel_rfl) ?_
    refine run_plain (id := 6) (ops := F8.o6) [(0, true)] (by kernel_rfl) (by kernel_rfl) ?_
    refine yS (by kernel_rfl : opAt F8.o6 0 = some (some 6, .assign (.const (.int .i64 1)), none)) rfl rfl (fun w' hS => val_assign rfl) ?_
    refine Sch.nil ?_
    refine run_block (x := F8.c20) (id := 0) (by kernel_rfl) ?_
    
    refine run_loop (ι := Nat × (Nat → Nat)) (I := fun x w => 1 ≤ x.1 ∧ x.1 ≤ at_.length + 1 ∧ Lim w x.2 ∧ Stp [2, 3, 4, 5, 6, 7, 8, 9] w₀ (col1 C) w x.2 ∧ DeckIs w x.2 3 bd ∧ RV w (Mc x.2) ks vk ∧ RV w (Mc x.2) at_ vat) (e := fun x => [(3, .pointer (some ⟨bd, 0, none⟩)), (4, vk), (5, vat), (6, .int .i64 x.1)]) (m := fun x => at_.length + 1 - x.1) (x₀ := (1, Cd)) (body := F8.c21) (by kernel_rfl) (sub_cons 3 rfl rfl (sub_cons 4 rfl rfl (sub_cons 5 rfl rfl (sub_cons 6 rfl (eq_int (by simp)) (sub_nil _))))) ?_ ?_
    · exact ⟨Nat.le_refl _, by simp only; omega, hF, hT, hd, hk, ha⟩
    intro ⟨i, C1⟩ w7 hI next
    obtain ⟨hi1, hi, hF, hT, hd, hk, ha⟩ := hI
    try simp only at hi1 hi hF hT hd hk ha
    have next1 := next
    clear next
    show Run _ _ _ _ [(3, .pointer (some ⟨bd, 0, none⟩)), (4, vk), (5, vat), (6, .int .i64 i)] _ _
    refine run_seq (x := F8.c22) (y := F8.c27) (by kernel_rfl) ?_
    refine run_seq (x := F8.c23) (y := F8.c24) (by kernel_rfl) ?_
    refine run_plain (id := 7) (ops := F8.o7) [(0, true), (1, true), (2, true), (3, true)] (by kernel_rfl) (by kernel_rfl) ?_
    refine yS (by kernel_rfl : opAt F8.o7 0 = some (some 33, .move (.tmp 6), none)) rfl rfl (fun w' hS => val_move rfl) ?_
    refine yS (by kernel_rfl : opAt F8.o7 1 = some (some 34, .move (.tmp 5), none)) rfl rfl (fun w' hS => val_move rfl) ?_
    refine yS (by kernel_rfl : opAt F8.o7 2 = some (some 35, .call { callee := .builtin .len, args := #[(.tmp 34)], argTypes := #[26] }, none)) rfl rfl (fun w' hS => ha.lenV rfl Try.underlying26 w' ) ?_
    refine yS (by kernel_rfl : opAt F8.o7 3 = some (some 36, .binOp .lss 3 (.tmp 33) (.tmp 35) 3, none)) rfl rfl (fun w' hS => val_lss rfl rfl) ?_
    refine Sch.nil ?_
    refine run_if (x := F8.c25) (y := F8.c26) (o := .tmp 36) (by kernel_rfl) rfl (fun h36 => ?_) (fun h36 => ?_)
    · skip
      have hil : i < at_.length := by omega
      have hlt := ltB_iff.1 (hst i hi1 hil)
      obtain ⟨x, hx⟩ : ∃ x, x = at_[i - 1]'(by omega) := ⟨_, rfl⟩
      obtain ⟨y, hy⟩ : ∃ y, y = at_[i] := ⟨_, rfl⟩
      rw [← hx, ← hy] at hlt
      have e1 : ((i : Int) - 1).toNat = i - 1 := by omega
      refine run_skip (by kernel_rfl) ?_
      refine run_seq (x := F8.c28) (y := F8.c38) (by kernel_rfl) ?_
      refine run_block (x := F8.c29) (id := 1) (by kernel_rfl) ?_
      refine run_seq (x := F8.c30) (y := F8.c31) (by kernel_rfl) ?_
      refine run_draw2 (id := 9) (ops := F8.o9) [4, 5] (C1) [0, 1, 2, 3, 4, 5, 6, 7, 8] 9 [(10, false), (11, false), (12, false)] 10 [(9, false), (11, false), (12, false)] Try_mixed (by kernel_rfl) (by kernel_rfl) (by kernel_rfl) ?_ ?_
      · skip
        intro w8 hs
        replace hF := hF.st hs
        replace hT := hT.trans hs (by simp)
        replace hd := hd.st hs (by first | decide | (simp <;> omega)) (by first | decide | (simp <;> omega))
        replace hk := hk.st hs (by first | decide | (simp <;> omega))
        replace ha := ha.st hs (by first | decide | (simp <;> omega))
        show Sch _ _ _ _ _ _ _ [(0, true), (1, true), (2, true), (3, true), (4, true), (5, true), (6, true), (7, true), (8, true), (9, false), (10, false), (11, false), (12, false)] _ _
        have hR := Stp.refl [4, 5] w8 (C1)
        refine yS (by kernel_rfl : opAt F8.o9 0 = some (some 39, .move (.tmp 5), none)) rfl rfl (fun w' hS => val_move rfl) ?_
        refine yS (by kernel_rfl : opAt F8.o9 1 = some (some 40, .move (.tmp 6), none)) rfl rfl (fun w' hS => val_move rfl) ?_
        refine yS (by kernel_rfl : opAt F8.o9 2 = some (some 41, .binOp .sub 3 (.tmp 40) (.const (.int .i64 1)) 3, none)) rfl rfl (fun w' hS => val_subi rfl rfl (by omega) (by omega)) ?_
        refine iS (e := 50) (by kernel_rfl : opAt F8.o9 3 = some (some 42, .indexAddr 26 (.tmp 39) (.tmp 41), none)) rfl rfl ha rfl (by kernel_rfl) rfl (by omega) (by omega) ?_
        intro b42 o42 h42
        try simp only [Int.toNat_natCast] at h42
        refine lSA (by kernel_rfl : opAt F8.o9 4 = some (some 43, .load 50 (.tmp 42), none)) rfl rfl (fun w' hS => h42.stay hS (by decide)) h42 (by kernel_rfl) (by kernel_rfl) rfl rfl ?_
        intro v43 g43
        simp only [e1] at g43
        rw [← hx] at g43
        obtain rfl := rv_couple.1 g43
        refine yS (by kernel_rfl : opAt F8.o9 5 = some (some 44, .move (.tmp 5), none)) rfl rfl (fun w' hS => val_move rfl) ?_
        refine yS (by kernel_rfl : opAt F8.o9 6 = some (some 45, .move (.tmp 6), none)) rfl rfl (fun w' hS => val_move rfl) ?_
        refine iS (e := 50) (by kernel_rfl : opAt F8.o9 7 = some (some 46, .indexAddr 26 (.tmp 44) (.tmp 45), none)) rfl rfl ha rfl (by kernel_rfl) rfl (by omega) (by omega) ?_
        intro b46 o46 h46
        try simp only [Int.toNat_natCast] at h46
        refine lSA (by kernel_rfl : opAt F8.o9 8 = some (some 47, .load 50 (.tmp 46), none)) rfl rfl (fun w' hS => h46.stay hS (by decide)) h46 (by kernel_rfl) (by kernel_rfl) rfl rfl ?_
        intro v47 g47
        rw [← hy] at g47
        obtain rfl := rv_couple.1 g47
        refine aS (by kernel_rfl : opAt F8.o9 9 = some (some 7, .alloc 50, none)) rfl rfl (a_alloc (cs := [.int .i64 0, .int .i64 0]) hF 4 (by kernel_rfl)) ?_
        rintro _ w9 ⟨Cw9, bw9, rfl, hs, hbx, hF⟩
        refine ⟨(hR.trans hs (by simp)).ext, ?_⟩
        replace hT := hT.trans hs (by simp)
        replace hd := hd.st hs (by first | decide | (simp <;> omega)) (by first | decide | (simp <;> omega))
        replace hk := hk.st hs (by first | decide | (simp <;> omega))
        replace ha := ha.st hs (by first | decide | (simp <;> omega))
        replace hR := hR.trans hs (by simp)
        replace h42 := h42.st hs (by first | decide | (simp <;> omega))
        replace g43 := g43.st hs (by first | decide | (simp <;> omega))
        replace h46 := h46.st hs (by first | decide | (simp <;> omega))
        replace g47 := g47.st hs (by first | decide | (simp <;> omega))
        refine aS (by kernel_rfl : opAt F8.o9 10 = some (some 8, .alloc 50, none)) rfl rfl (a_alloc (cs := [.int .i64 0, .int .i64 0]) hF 5 (by kernel_rfl)) ?_
        rintro _ w10 ⟨Cw10, bw10, rfl, hs, hby, hF⟩
        refine ⟨(hR.trans hs (by simp)).ext, ?_⟩
        replace hT := hT.trans hs (by simp)
        replace hd := hd.st hs (by first | decide | (simp <;> omega)) (by first | decide | (simp <;> omega))
        replace hk := hk.st hs (by first | decide | (simp <;> omega))
        replace ha := ha.st hs (by first | decide | (simp <;> omega))
        replace hR := hR.trans hs (by simp)
        replace h42 := h42.st hs (by first | decide | (simp <;> omega))
        replace g43 := g43.st hs (by first | decide | (simp <;> omega))
        replace h46 := h46.st hs (by first | decide | (simp <;> omega))
        replace g47 := g47.st hs (by first | decide | (simp <;> omega))
        replace hbx := hbx.st hs (by first | decide | (simp <;> omega))
        refine aN (by kernel_rfl : opAt F8.o9 11 = some (none, .store 50 (.tmp 7) (.tmp 43), none)) rfl (a_storeAll (vs := [.int .i64 x.a, .int .i64 x.b]) (n := 2) rfl rfl (by kernel_rfl) rfl rfl (by intro u hu; simp only [List.mem_cons, List.not_mem_nil, or_false] at hu; rcases hu with rfl | rfl <;> rfl) hbx rfl) ?_
        rintro _ w11 ⟨rfl, hs, hbx⟩
        refine ⟨(hR.trans hs (by simp)).ext, ?_⟩
        replace hF := hF.st hs
        replace hT := hT.trans hs (by simp)
        replace hd := hd.st hs (by first | decide | (simp <;> omega)) (by first | decide | (simp <;> omega))
        replace hk := hk.st hs (by first | decide | (simp <;> omega))
        replace ha := ha.st hs (by first | decide | (simp <;> omega))
        replace hR := hR.trans hs (by simp)
        replace h42 := h42.st hs (by first | decide | (simp <;> omega))
        replace g43 := g43.st hs (by first | decide | (simp <;> omega))
        replace h46 := h46.st hs (by first | decide | (simp <;> omega))
        replace g47 := g47.st hs (by first | decide | (simp <;> omega))
        replace hby := hby.st hs (by first | decide | (simp <;> omega))
        refine Sch.free rfl ?_
        refine aN (by kernel_rfl : opAt F8.o9 12 = some (none, .store 50 (.tmp 8) (.tmp 47), none)) rfl (a_storeAll (vs := [.int .i64 y.a, .int .i64 y.b]) (n := 2) rfl rfl (by kernel_rfl) rfl rfl (by intro u hu; simp only [List.mem_cons, List.not_mem_nil, or_false] at hu; rcases hu with rfl | rfl <;> rfl) hby rfl) ?_
        rintro _ w12 ⟨rfl, hs, hby⟩
        refine ⟨trivial, ?_⟩
        replace hF := hF.st hs
        replace hT := hT.trans hs (by simp)
        replace hd := hd.st hs (by first | decide | (simp <;> omega)) (by first | decide | (simp <;> omega))
        replace hk := hk.st hs (by first | decide | (simp <;> omega))
        replace ha := ha.st hs (by first | decide | (simp <;> omega))
        replace h42 := h42.st hs (by first | decide | (simp <;> omega))
        replace g43 := g43.st hs (by first | decide | (simp <;> omega))
        replace h46 := h46.st hs (by first | decide | (simp <;> omega))
        replace g47 := g47.st hs (by first | decide | (simp <;> omega))
        replace hbx := hbx.st hs (by first | decide | (simp <;> omega))
        refine Sch.nil ?_
        refine run_seq (x := F8.c32) (y := F8.c33) (by kernel_rfl) ?_
        refine run_cut 66 (false) (Cw10) ?_ ?_
        · intro hcut
          by_cases hA : x.a = y.a
          · skip
            refine run_plain (id := 10) (ops := F8.o10) [(0, true), (1, false), (2, true), (3, false), (4, true), (5, true), (6, true), (7, false), (8, true), (9, false), (10, true), (11, true), (12, true), (13, false), (14, true), (15, false), (16, true), (17, true), (18, true)] (by kernel_rfl) (by kernel_rfl) ?_
            refine yS (by kernel_rfl : opAt F8.o10 0 = some (some 48, .fieldAddr 50 (.tmp 7) 0, none)) rfl rfl (fun w' hS => val_fieldAddr (off := 0) (by kernel_rfl) rfl) ?_
            refine nS (by kernel_rfl : opAt F8.o10 1 = some (some 49, .load 3 (.tmp 48), none)) rfl rfl trivial (val_loadOwn hbx.at_ (by kernel_rfl) rfl rfl) ?_
            refine yS (by kernel_rfl : opAt F8.o10 2 = some (some 50, .fieldAddr 50 (.tmp 8) 0, none)) rfl rfl (fun w' hS => val_fieldAddr (off := 0) (by kernel_rfl) rfl) ?_
            refine nS (by kernel_rfl : opAt F8.o10 3 = some (some 51, .load 3 (.tmp 50), none)) rfl rfl trivial (val_loadOwn hby.at_ (by kernel_rfl) rfl rfl) ?_
            refine yS (by kernel_rfl : opAt F8.o10 4 = some (some 52, .binOp .gtr 3 (.tmp 49) (.tmp 51) 3, none)) rfl rfl (fun w' hS => val_F (val_gtr rfl rfl) (by omega)) ?_
            refine yS (by kernel_rfl : opAt F8.o10 5 = some (some 53, .move (.tmp 52), none)) rfl rfl (fun w' hS => val_move rfl) ?_
            refine yS (by kernel_rfl : opAt F8.o10 6 = some (some 54, .fieldAddr 50 (.tmp 7) 0, (some (5, false)))) rfl rfl (fun w' hS => val_fieldAddr (off := 0) (by kernel_rfl) rfl) ?_
            refine nS (by kernel_rfl : opAt F8.o10 7 = some (some 55, .load 3 (.tmp 54), (some (5, false)))) rfl rfl trivial (val_loadOwn hbx.at_ (by kernel_rfl) rfl rfl) ?_
            refine yS (by kernel_rfl : opAt F8.o10 8 = some (some 56, .fieldAddr 50 (.tmp 8) 0, (some (5, false)))) rfl rfl (fun w' hS => val_fieldAddr (off := 0) (by kernel_rfl) rfl) ?_
            refine nS (by kernel_rfl : opAt F8.o10 9 = some (some 57, .load 3 (.tmp 56), (some (5, false)))) rfl rfl trivial (val_loadOwn hby.at_ (by kernel_rfl) rfl rfl) ?_
            refine yS (by kernel_rfl : opAt F8.o10 10 = some (some 58, .binOp .eql 3 (.tmp 55) (.tmp 57) 3, (some (5, false)))) rfl rfl (fun w' hS => val_T (val_eql rfl rfl) hA) ?_
            refine yS (by kernel_rfl : opAt F8.o10 11 = some (some 59, .move (.tmp 58), (some (5, false)))) rfl rfl (fun w' hS => val_move rfl) ?_
            refine yS (by kernel_rfl : opAt F8.o10 12 = some (some 60, .fieldAddr 50 (.tmp 7) 1, (some (11, true)))) rfl rfl (fun w' hS => val_fieldAddr (off := 1) (by kernel_rfl) rfl) ?_
            refine nS (by kernel_rfl : opAt F8.o10 13 = some (some 61, .load 3 (.tmp 60), (some (11, true)))) rfl rfl trivial (val_loadOwn hbx.at_ (by kernel_rfl) rfl rfl) ?_
            refine yS (by kernel_rfl : opAt F8.o10 14 = some (some 62, .fieldAddr 50 (.tmp 8) 1, (some (11, true)))) rfl rfl (fun w' hS => val_fieldAddr (off := 1) (by kernel_rfl) rfl) ?_
            refine nS (by kernel_rfl : opAt F8.o10 15 = some (some 63, .load 3 (.tmp 62), (some (11, true)))) rfl rfl trivial (val_loadOwn hby.at_ (by kernel_rfl) rfl rfl) ?_
            refine yS (by kernel_rfl : opAt F8.o10 16 = some (some 64, .binOp .geq 3 (.tmp 61) (.tmp 63) 3, (some (11, true)))) rfl rfl (fun w' hS => val_F (val_geq rfl rfl) (by omega)) ?_
            refine yS (by kernel_rfl : opAt F8.o10 17 = some (some 65, .pick (.tmp 59) (.tmp 64) (.const (.bool false)), (some (5, false)))) rfl rfl (fun w' hS => val_pick_t rfl rfl) ?_
            refine yS (by kernel_rfl : opAt F8.o10 18 = some (some 66, .pick (.tmp 53) (.const (.bool true)) (.tmp 65), none)) rfl rfl (fun w' hS => val_pick_f rfl rfl) ?_
            exact Sch.nil (hcut _ _ _ (Stp.refl _ _ _) rfl (rfl) (sub_skip rfl (sub_skip rfl (sub_skip rfl (sub_skip rfl (sub_skip rfl (sub_skip rfl (sub_skip rfl (sub_skip rfl (sub_skip rfl (sub_skip rfl (sub_skip rfl (sub_skip rfl (sub_skip rfl (sub_skip rfl (sub_skip rfl (sub_skip rfl (sub_skip rfl (sub_skip rfl (sub_skip rfl (Sub.refl _)))))))))))))))))))))
          · skip
            refine run_plain (id := 10) (ops := F8.o10) [(0, true), (1, false), (2, true), (3, false), (4, true), (5, true), (6, true), (7, false), (8, true), (9, false), (10, true), (11, true), (12, true), (13, false), (14, true), (15, false), (16, true), (17, true), (18, true)] (by kernel_rfl) (by kernel_rfl) ?_
            refine yS (by kernel_rfl : opAt F8.o10 0 = some (some 48, .fieldAddr 50 (.tmp 7) 0, none)) rfl rfl (fun w' hS => val_fieldAddr (off := 0) (by kernel_rfl) rfl) ?_
            refine nS (by kernel_rfl : opAt F8.o10 1 = some (some 49, .load 3 (.tmp 48), none)) rfl rfl trivial (val_loadOwn hbx.at_ (by kernel_rfl) rfl rfl) ?_
            refine yS (by kernel_rfl : opAt F8.o10 2 = some (some 50, .fieldAddr 50 (.tmp 8) 0, none)) rfl rfl (fun w' hS => val_fieldAddr (off := 0) (by kernel_rfl) rfl) ?_
            refine nS (by kernel_rfl : opAt F8.o10 3 = some (some 51, .load 3 (.tmp 50), none)) rfl rfl trivial (val_loadOwn hby.at_ (by kernel_rfl) rfl rfl) ?_
            refine yS (by kernel_rfl : opAt F8.o10 4 = some (some 52, .binOp .gtr 3 (.tmp 49) (.tmp 51) 3, none)) rfl rfl (fun w' hS => val_F (val_gtr rfl rfl) (by omega)) ?_
            refine yS (by kernel_rfl : opAt F8.o10 5 = some (some 53, .move (.tmp 52), none)) rfl rfl (fun w' hS => val_move rfl) ?_
            refine yS (by kernel_rfl : opAt F8.o10 6 = some (some 54, .fieldAddr 50 (.tmp 7) 0, (some (5, false)))) rfl rfl (fun w' hS => val_fieldAddr (off := 0) (by kernel_rfl) rfl) ?_
            refine nS (by kernel_rfl : opAt F8.o10 7 = some (some 55, .load 3 (.tmp 54), (some (5, false)))) rfl rfl trivial (val_loadOwn hbx.at_ (by kernel_rfl) rfl rfl) ?_
            refine yS (by kernel_rfl : opAt F8.o10 8 = some (some 56, .fieldAddr 50 (.tmp 8) 0, (some (5, false)))) rfl rfl (fun w' hS => val_fieldAddr (off := 0) (by kernel_rfl) rfl) ?_
            refine nS (by kernel_rfl : opAt F8.o10 9 = some (some 57, .load 3 (.tmp 56), (some (5, false)))) rfl rfl trivial (val_loadOwn hby.at_ (by kernel_rfl) rfl rfl) ?_
            refine yS (by kernel_rfl : opAt F8.o10 10 = some (some 58, .binOp .eql 3 (.tmp 55) (.tmp 57) 3, (some (5, false)))) rfl rfl (fun w' hS => val_F (val_eql rfl rfl) hA) ?_
            refine yS (by kernel_rfl : opAt F8.o10 11 = some (some 59, .move (.tmp 58), (some (5, false)))) rfl rfl (fun w' hS => val_move rfl) ?_
            refine pS (by kernel_rfl : opAt F8.o10 12 = some (some 60, .fieldAddr 50 (.tmp 7) 1, (some (11, true)))) rfl rfl ?_
            refine pW (by kernel_rfl : opAt F8.o10 13 = some (some 61, .load 3 (.tmp 60), (some (11, true)))) rfl rfl trivial ?_
            refine pS (by kernel_rfl : opAt F8.o10 14 = some (some 62, .fieldAddr 50 (.tmp 8) 1, (some (11, true)))) rfl rfl ?_
            refine pW (by kernel_rfl : opAt F8.o10 15 = some (some 63, .load 3 (.tmp 62), (some (11, true)))) rfl rfl trivial ?_
            refine pS (by kernel_rfl : opAt F8.o10 16 = some (some 64, .binOp .geq 3 (.tmp 61) (.tmp 63) 3, (some (11, true)))) rfl rfl ?_
            refine yS (by kernel_rfl : opAt F8.o10 17 = some (some 65, .pick (.tmp 59) (.tmp 64) (.const (.bool false)), (some (5, false)))) rfl rfl (fun w' hS => val_pick_f rfl rfl) ?_
            refine yS (by kernel_rfl : opAt F8.o10 18 = some (some 66, .pick (.tmp 53) (.const (.bool true)) (.tmp 65), none)) rfl rfl (fun w' hS => val_pick_f rfl rfl) ?_
            exact Sch.nil (hcut _ _ _ (Stp.refl _ _ _) rfl (rfl) (sub_skip rfl (sub_skip rfl (sub_skip rfl (sub_skip rfl (sub_skip rfl (sub_skip rfl (sub_skip rfl (sub_skip rfl (sub_skip rfl (sub_skip rfl (sub_skip rfl (sub_skip rfl (sub_skip rfl (sub_skip rfl (sub_skip rfl (sub_skip rfl (sub_skip rfl (sub_skip rfl (sub_skip rfl (Sub.refl _)))))))))))))))))))))
        intro w13 hs
        replace hF := hF.st hs
        replace hT := hT.trans hs (by simp)
        replace hd := hd.st hs (by first | decide | (simp <;> omega)) (by first | decide | (simp <;> omega))
        replace hk := hk.st hs (by first | decide | (simp <;> omega))
        replace ha := ha.st hs (by first | decide | (simp <;> omega))
        replace h42 := h42.st hs (by first | decide | (simp <;> omega))
        replace g43 := g43.st hs (by first | decide | (simp <;> omega))
        replace h46 := h46.st hs (by first | decide | (simp <;> omega))
        replace g47 := g47.st hs (by first | decide | (simp <;> omega))
        replace hbx := hbx.st hs (by first | decide | (simp <;> omega))
        replace hby := hby.st hs (by first | decide | (simp <;> omega))
        refine run_cond (x := F8.c34) (y := F8.c37) (o := .tmp 66) (b := false) (by kernel_rfl) rfl (fun h => by cases h) (fun _ => ?_)
        refine run_skip (by kernel_rfl) ?_
        refine run_inBlock ?_
        refine run_plain (id := 8) (ops := F8.o8) [(0, true), (1, true), (2, true)] (by kernel_rfl) (by kernel_rfl) ?_
        refine yS (by kernel_rfl : opAt F8.o8 0 = some (some 37, .move (.tmp 6), none)) rfl rfl (fun w' hS => val_move rfl) ?_
        refine yS (by kernel_rfl : opAt F8.o8 1 = some (some 38, .binOp .add 3 (.tmp 37) (.const (.int .i64 1)) 3, none)) rfl rfl (fun w' hS => val_addi rfl rfl (by omega) (by omega)) ?_
        refine yS (by kernel_rfl : opAt F8.o8 2 = some (some 6, .assign (.tmp 38), none)) rfl rfl (fun w' hS => val_assign rfl) ?_
        refine Sch.nil ?_
        refine kp (sub_cons 3 rfl rfl (sub_cons 4 rfl rfl (sub_cons 5 rfl rfl (sub_cons 6 rfl (eq_int (by simp)) (sub_nil _))))) (next1 (i + 1, Cw10) _ ⟨(by first | omega | (simp only; omega)), (by first | omega | (simp only; omega)), hF, hT, hd, hk, ha⟩ (by first | omega | (simp only; omega)))
      · skip
        intro w14 hs
        replace hF := hF.st hs
        replace hT := hT.trans hs (by simp)
        replace hd := hd.st hs (by first | decide | (simp <;> omega)) (by first | decide | (simp <;> omega))
        replace hk := hk.st hs (by first | decide | (simp <;> omega))
        replace ha := ha.st hs (by first | decide | (simp <;> omega))
        show Sch _ _ _ _ _ _ _ [(0, true), (1, true), (2, true), (3, true), (4, true), (5, true), (6, true), (7, true), (8, true), (10, false), (9, false), (11, false), (12, false)] _ _
        have hR := Stp.refl [4, 5] w14 (C1)
        refine yS (by kernel_rfl : opAt F8.o9 0 = some (some 39, .move (.tmp 5), none)) rfl rfl (fun w' hS => val_move rfl) ?_
        refine yS (by kernel_rfl : opAt F8.o9 1 = some (some 40, .move (.tmp 6), none)) rfl rfl (fun w' hS => val_move rfl) ?_
        refine yS (by kernel_rfl : opAt F8.o9 2 = some (some 41, .binOp .sub 3 (.tmp 40) (.const (.int .i64 1)) 3, none)) rfl rfl (fun w' hS => val_subi rfl rfl (by omega) (by omega)) ?_
        refine iS (e := 50) (by kernel_rfl : opAt F8.o9 3 = some (some 42, .indexAddr 26 (.tmp 39) (.tmp 41), none)) rfl rfl ha rfl (by kernel_rfl) rfl (by omega) (by omega) ?_
        intro b42 o42 h42
        try simp only [Int.toNat_natCast] at h42
        refine lSA (by kernel_rfl : opAt F8.o9 4 = some (some 43, .load 50 (.tmp 42), none)) rfl rfl (fun w' hS => h42.stay hS (by decide)) h42 (by kernel_rfl) (by kernel_rfl) rfl rfl ?_
        intro v43 g43
        simp only [e1] at g43
        rw [← hx] at g43
        obtain rfl := rv_couple.1 g43
        refine yS (by kernel_rfl : opAt F8.o9 5 = some (some 44, .move (.tmp 5), none)) rfl rfl (fun w' hS => val_move rfl) ?_
        refine yS (by kernel_rfl : opAt F8.o9 6 = some (some 45, .move (.tmp 6), none)) rfl rfl (fun w' hS => val_move rfl) ?_
        refine iS (e := 50) (by kernel_rfl : opAt F8.o9 7 = some (some 46, .indexAddr 26 (.tmp 44) (.tmp 45), none)) rfl rfl ha rfl (by kernel_rfl) rfl (by omega) (by omega) ?_
        intro b46 o46 h46
        try simp only [Int.toNat_natCast] at h46
        refine lSA (by kernel_rfl : opAt F8.o9 8 = some (some 47, .load 50 (.tmp 46), none)) rfl rfl (fun w' hS => h46.stay hS (by decide)) h46 (by kernel_rfl) (by kernel_rfl) rfl rfl ?_
        intro v47 g47
        rw [← hy] at g47
        obtain rfl := rv_couple.1 g47
        refine aS (by kernel_rfl : opAt F8.o9 10 = some (some 8, .alloc 50, none)) rfl rfl (a_alloc (cs := [.int .i64 0, .int .i64 0]) hF 5 (by kernel_rfl)) ?_
        rintro _ w15 ⟨Cw15, bw15, rfl, hs, hby, hF⟩
        refine ⟨(hR.trans hs (by simp)).ext, ?_⟩
        replace hT := hT.trans hs (by simp)
        replace hd := hd.st hs (by first | decide | (simp <;> omega)) (by first | decide | (simp <;> omega))
        replace hk := hk.st hs (by first | decide | (simp <;> omega))
        replace ha := ha.st hs (by first | decide | (simp <;> omega))
        replace hR := hR.trans hs (by simp)
        replace h42 := h42.st hs (by first | decide | (simp <;> omega))
        replace g43 := g43.st hs (by first | decide | (simp <;> omega))
        replace h46 := h46.st hs (by first | decide | (simp <;> omega))
        replace g47 := g47.st hs (by first | decide | (simp <;> omega))
        refine aS (by kernel_rfl : opAt F8.o9 9 = some (some 7, .alloc 50, none)) rfl rfl (a_alloc (cs := [.int .i64 0, .int .i64 0]) hF 4 (by kernel_rfl)) ?_
        rintro _ w16 ⟨Cw16, bw16, rfl, hs, hbx, hF⟩
        refine ⟨(hR.trans hs (by simp)).ext, ?_⟩
        replace hT := hT.trans hs (by simp)
        replace hd := hd.st hs (by first | decide | (simp <;> omega)) (by first | decide | (simp <;> omega))
        replace hk := hk.st hs (by first | decide | (simp <;> omega))
        replace ha := ha.st hs (by first | decide | (simp <;> omega))
        replace hR := hR.trans hs (by simp)
        replace h42 := h42.st hs (by first | decide | (simp <;> omega))
        replace g43 := g43.st hs (by first | decide | (simp <;> omega))
        replace h46 := h46.st hs (by first | decide | (simp <;> omega))
        replace g47 := g47.st hs (by first | decide | (simp <;> omega))
        replace hby := hby.st hs (by first | decide | (simp <;> omega))
        refine aN (by kernel_rfl : opAt F8.o9 11 = some (none, .store 50 (.tmp 7) (.tmp 43), none)) rfl (a_storeAll (vs := [.int .i64 x.a, .int .i64 x.b]) (n := 2) rfl rfl (by kernel_rfl) rfl rfl (by intro u hu; simp only [List.mem_cons, List.not_mem_nil, or_false] at hu; rcases hu with rfl | rfl <;> rfl) hbx rfl) ?_
        rintro _ w17 ⟨rfl, hs, hbx⟩
        refine ⟨(hR.trans hs (by simp)).ext, ?_⟩
        replace hF := hF.st hs
        replace hT := hT.trans hs (by simp)
        replace hd := hd.st hs (by first | decide | (simp <;> omega)) (by first | decide | (simp <;> omega))
        replace hk := hk.st hs (by first | decide | (simp <;> omega))
        replace ha := ha.st hs (by first | decide | (simp <;> omega))
        replace hR := hR.trans hs (by simp)
        replace h42 := h42.st hs (by first | decide | (simp <;> omega))
        replace g43 := g43.st hs (by first | decide | (simp <;> omega))
        replace h46 := h46.st hs (by first | decide | (simp <;> omega))
        replace g47 := g47.st hs (by first | decide | (simp <;> omega))
        replace hby := hby.st hs (by first | decide | (simp <;> omega))
        refine Sch.free rfl ?_
        refine aN (by kernel_rfl : opAt F8.o9 12 = some (none, .store 50 (.tmp 8) (.tmp 47), none)) rfl (a_storeAll (vs := [.int .i64 y.a, .int .i64 y.b]) (n := 2) rfl rfl (by kernel_rfl) rfl rfl (by intro u hu; simp only [List.mem_cons, List.not_mem_nil, or_false] at hu; rcases hu with rfl | rfl <;> rfl) hby rfl) ?_
        rintro _ w18 ⟨rfl, hs, hby⟩
        refine ⟨trivial, ?_⟩
        replace hF := hF.st hs
        replace hT := hT.trans hs (by simp)
        replace hd := hd.st hs (by first | decide | (simp <;> omega)) (by first | decide | (simp <;> omega))
        replace hk := hk.st hs (by first | decide | (simp <;> omega))
        replace ha := ha.st hs (by first | decide | (simp <;> omega))
        replace h42 := h42.st hs (by first | decide | (simp <;> omega))
        replace g43 := g43.st hs (by first | decide | (simp <;> omega))
        replace h46 := h46.st hs (by first | decide | (simp <;> omega))
        replace g47 := g47.st hs (by first | decide | (simp <;> omega))
        replace hbx := hbx.st hs (by first | decide | (simp <;> omega))
        refine Sch.nil ?_
        refine run_seq (x := F8.c32) (y := F8.c33) (by kernel_rfl) ?_
        refine run_cut 66 (false) (Cw16) ?_ ?_
        · intro hcut
          by_cases hA : x.a = y.a
          · skip
            refine run_plain (id := 10) (ops := F8.o10) [(0, true), (1, false), (2, true), (3, false), (4, true), (5, true), (6, true), (7, false), (8, true), (9, false), (10, true), (11, true), (12, true), (13, false), (14, true), (15, false), (16, true), (17, true), (18, true)] (by kernel_rfl) (by kernel_rfl) ?_
            refine yS (by kernel_rfl : opAt F8.o10 0 = some (some 48, .fieldAddr 50 (.tmp 7) 0, none)) rfl rfl (fun w' hS => val_fieldAddr (off := 0) (by kernel_rfl) rfl) ?_
            refine nS (by kernel_rfl : opAt F8.o10 1 = some (some 49, .load 3 (.tmp 48), none)) rfl rfl trivial (val_loadOwn hbx.at_ (by kernel_rfl) rfl rfl) ?_
            refine yS (by kernel_rfl : opAt F8.o10 2 = some (some 50, .fieldAddr 50 (.tmp 8) 0, none)) rfl rfl (fun w' hS => val_fieldAddr (off := 0) (by kernel_rfl) rfl) ?_
            refine nS (by kernel_rfl : opAt F8.o10 3 = some (some 51, .load 3 (.tmp 50), none)) rfl rfl trivial (val_loadOwn hby.at_ (by kernel_rfl) rfl rfl) ?_
            refine yS (by kernel_rfl : opAt F8.o10 4 = some (some 52, .binOp .gtr 3 (.tmp 49) (.tmp 51) 3, none)) rfl rfl (fun w' hS => val_F (val_gtr rfl rfl) (by omega)) ?_
            refine yS (by kernel_rfl : opAt F8.o10 5 = some (some 53, .move (.tmp 52), none)) rfl rfl (fun w' hS => val_move rfl) ?_
            refine yS (by kernel_rfl : opAt F8.o10 6 = some (some 54, .fieldAddr 50 (.tmp 7) 0, (some (5, false)))) rfl rfl (fun w' hS => val_fieldAddr (off := 0) (by kernel_rfl) rfl) ?_
            refine nS (by kernel_rfl : opAt F8.o10 7 = some (some 55, .load 3 (.tmp 54), (some (5, false)))) rfl rfl trivial (val_loadOwn hbx.at_ (by kernel_rfl) rfl rfl) ?_
            refine yS (by kernel_rfl : opAt F8.o10 8 = some (some 56, .fieldAddr 50 (.tmp 8) 0, (some (5, false)))) rfl rfl (fun w' hS => val_fieldAddr (off := 0) (by kernel_rfl) rfl) ?_
            refine nS (by kernel_rfl : opAt F8.o10 9 = some (some 57, .load 3 (.tmp 56), (some (5, false)))) rfl rfl trivial (val_loadOwn hby.at_ (by kernel_rfl) rfl rfl) ?_
            refine yS (by kernel_rfl : opAt F8.o10 10 = some (some 58, .binOp .eql 3 (.tmp 55) (.tmp 57) 3, (some (5, false)))) rfl rfl (fun w' hS => val_T (val_eql rfl rfl) hA) ?_
            refine yS (by kernel_rfl : opAt F8.o10 11 = some (some 59, .move (.tmp 58), (some (5, false)))) rfl rfl (fun w' hS => val_move rfl) ?_
            refine yS (by kernel_rfl : opAt F8.o10 12 = some (some 60, .fieldAddr 50 (.tmp 7) 1, (some (11, true)))) rfl rfl (fun w' hS => val_fieldAddr (off := 1) (by kernel_rfl) rfl) ?_
            refine nS (by kernel_rfl : opAt F8.o10 13 = some (some 61, .load 3 (.tmp 60), (some (11, true)))) rfl rfl trivial (val_loadOwn hbx.at_ (by kernel_rfl) rfl rfl) ?_
            refine yS (by kernel_rfl : opAt F8.o10 14 = some (some 62, .fieldAddr 50 (.tmp 8) 1, (some (11, true)))) rfl rfl (fun w' hS => val_fieldAddr (off := 1) (by kernel_rfl) rfl) ?_
            refine nS (by kernel_rfl : opAt F8.o10 15 = some (some 63, .load 3 (.tmp 62), (some (11, true)))) rfl rfl trivial (val_loadOwn hby.at_ (by kernel_rfl) rfl rfl) ?_
            refine yS (by kernel_rfl : opAt F8.o10 16 = some (some 64, .binOp .geq 3 (.tmp 61) (.tmp 63) 3, (some (11, true)))) rfl rfl (fun w' hS => val_F (val_geq rfl rfl) (by omega)) ?_
            refine yS (by kernel_rfl : opAt F8.o10 17 = some (some 65, .pick (.tmp 59) (.tmp 64) (.const (.bool false)), (some (5, false)))) rfl rfl (fun w' hS => val_pick_t rfl rfl) ?_
            refine yS (by kernel_rfl : opAt F8.o10 18 = some (some 66, .pick (.tmp 53) (.const (.bool true)) (.tmp 65), none)) rfl rfl (fun w' hS => val_pick_f rfl rfl) ?_
            exact Sch.nil (hcut _ _ _ (Stp.refl _ _ _) rfl (rfl) (sub_skip rfl (sub_skip rfl (sub_skip rfl (sub_skip rfl (sub_skip rfl (sub_skip rfl (sub_skip rfl (sub_skip rfl (sub_skip rfl (sub_skip rfl (sub_skip rfl (sub_skip rfl (sub_skip rfl (sub_skip rfl (sub_skip rfl (sub_skip rfl (sub_skip rfl (sub_skip rfl (sub_skip rfl (Sub.refl _)))))))))))))))))))))
          · skip
            refine run_plain (id := 10) (ops := F8.o10) [(0, true), (1, false), (2, true), (3, false), (4, true), (5, true), (6, true), (7, false), (8, true), (9, false), (10, true), (11, true), (12, true), (13, false), (14, true), (15, false), (16, true), (17, true), (18, true)] (by kernel_rfl) (by kernel_rfl) ?_
            refine yS (by kernel_rfl : opAt F8.o10 0 = some (some 48, .fieldAddr 50 (.tmp 7) 0, none)) rfl rfl (fun w' hS => val_fieldAddr (off := 0) (by kernel_rfl) rfl) ?_
            refine nS (by kernel_rfl : opAt F8.o10 1 = some (some 49, .load 3 (.tmp 48), none)) rfl rfl trivial (val_loadOwn hbx.at_ (by kernel_rfl) rfl rfl) ?_
            refine yS (by kernel_rfl : opAt F8.o10 2 = some (some 50, .fieldAddr 50 (.tmp 8) 0, none)) rfl rfl (fun w' hS => val_fieldAddr (off := 0) (by kernel_rfl) rfl) ?_
            refine nS (by kernel_rfl : opAt F8.o10 3 = some (some 51, .load 3 (.tmp 50), none)) rfl rfl trivial (val_loadOwn hby.at_ (by kernel_rfl) rfl rfl) ?_
            refine yS (by kernel_rfl : opAt F8.o10 4 = some (some 52, .binOp .gtr 3 (.tmp 49) (.tmp 51) 3, none)) rfl rfl (fun w' hS => val_F (val_gtr rfl rfl) (by omega)) ?_
            refine yS (by kernel_rfl : opAt F8.o10 5 = some (some 53, .move (.tmp 52), none)) rfl rfl (fun w' hS => val_move rfl) ?_
            refine yS (by kernel_rfl : opAt F8.o10 6 = some (some 54, .fieldAddr 50 (.tmp 7) 0, (some (5, false)))) rfl rfl (fun w' hS => val_fieldAddr (off := 0) (by kernel_rfl) rfl) ?_
            refine nS (by kernel_rfl : opAt F8.o10 7 = some (some 55, .load 3 (.tmp 54), (some (5, false)))) rfl rfl trivial (val_loadOwn hbx.at_ (by kernel_rfl) rfl rfl) ?_
            refine yS (by kernel_rfl : opAt F8.o10 8 = some (some 56, .fieldAddr 50 (.tmp 8) 0, (some (5, false)))) rfl rfl (fun w' hS => val_fieldAddr (off := 0) (by kernel_rfl) rfl) ?_
            refine nS (by kernel_rfl : opAt F8.o10 9 = some (some 57, .load 3 (.tmp 56), (some (5, false)))) rfl rfl trivial (val_loadOwn hby.at_ (by kernel_rfl) rfl rfl) ?_
            refine yS (by kernel_rfl : opAt F8.o10 10 = some (some 58, .binOp .eql 3 (.tmp 55) (.tmp 57) 3, (some (5, false)))) rfl rfl (fun w' hS => val_F (val_eql rfl rfl) hA) ?_
            refine yS (by kernel_rfl : opAt F8.o10 11 = some (some 59, .move (.tmp 58), (some (5, false)))) rfl rfl (fun w' hS => val_move rfl) ?_
            refine pS (by kernel_rfl : opAt F8.o10 12 = some (some 60, .fieldAddr 50 (.tmp 7) 1, (some (11, true)))) rfl rfl ?_
            refine pW (by kernel_rfl : opAt F8.o10 13 = some (some 61, .load 3 (.tmp 60), (some (11, true)))) rfl rfl trivial ?_
            refine pS (by kernel_rfl : opAt F8.o10 14 = some (some 62, .fieldAddr 50 (.tmp 8) 1, (some (11, true)))) rfl rfl ?_
            refine pW (by kernel_rfl : opAt F8.o10 15 = some (some 63, .load 3 (.tmp 62), (some (11, true)))) rfl rfl trivial ?_
            refine pS (by kernel_rfl : opAt F8.o10 16 = some (some 64, .binOp .geq 3 (.tmp 61) (.tmp 63) 3, (some (11, true)))) rfl rfl ?_
            refine yS (by kernel_rfl : opAt F8.o10 17 = some (some 65, .pick (.tmp 59) (.tmp 64) (.const (.bool false)), (some (5, false)))) rfl rfl (fun w' hS => val_pick_f rfl rfl) ?_
            refine yS (by kernel_rfl : opAt F8.o10 18 = some (some 66, .pick (.tmp 53) (.const (.bool true)) (.tmp 65), none)) rfl rfl (fun w' hS => val_pick_f rfl rfl) ?_
            exact Sch.nil (hcut _ _ _ (Stp.refl _ _ _) rfl (rfl) (sub_skip rfl (sub_skip rfl (sub_skip rfl (sub_skip rfl (sub_skip rfl (sub_skip rfl (sub_skip rfl (sub_skip rfl (sub_skip rfl (sub_skip rfl (sub_skip rfl (sub_skip rfl (sub_skip rfl (sub_skip rfl (sub_skip rfl (sub_skip rfl (sub_skip rfl (sub_skip rfl (sub_skip rfl (Sub.refl _)))))))))))))))))))))
        intro w19 hs
        replace hF := hF.st hs
        replace hT := hT.trans hs (by simp)
        replace hd := hd.st hs (by first | decide | (simp <;> omega)) (by first | decide | (simp <;> omega))
        replace hk := hk.st hs (by first | decide | (simp <;> omega))
        replace ha := ha.st hs (by first | decide | (simp <;> omega))
        replace h42 := h42.st hs (by first | decide | (simp <;> omega))
        replace g43 := g43.st hs (by first | decide | (simp <;> omega))
        replace h46 := h46.st hs (by first | decide | (simp <;> omega))
        replace g47 := g47.st hs (by first | decide | (simp <;> omega))
        replace hby := hby.st hs (by first | decide | (simp <;> omega))
        replace hbx := hbx.st hs (by first | decide | (simp <;> omega))
        refine run_cond (x := F8.c34) (y := F8.c37) (o := .tmp 66) (b := false) (by kernel_rfl) rfl (fun h => by cases h) (fun _ => ?_)
        refine run_skip (by kernel_rfl) ?_
        refine run_inBlock ?_
        refine run_plain (id := 8) (ops := F8.o8) [(0, true), (1, true), (2, true)] (by kernel_rfl) (by kernel_rfl) ?_
        refine yS (by kernel_rfl : opAt F8.o8 0 = some (some 37, .move (.tmp 6), none)) rfl rfl (fun w' hS => val_move rfl) ?_
        refine yS (by kernel_rfl : opAt F8.o8 1 = some (some 38, .binOp .add 3 (.tmp 37) (.const (.int .i64 1)) 3, none)) rfl rfl (fun w' hS => val_addi rfl rfl (by omega) (by omega)) ?_
        refine yS (by kernel_rfl : opAt F8.o8 2 = some (some 6, .assign (.tmp 38), none)) rfl rfl (fun w' hS => val_assign rfl) ?_
        refine Sch.nil ?_
        refine kp (sub_cons 3 rfl rfl (sub_cons 4 rfl rfl (sub_cons 5 rfl rfl (sub_cons 6 rfl (eq_int (by simp)) (sub_nil _))))) (next1 (i + 1, Cw16) _ ⟨(by first | omega | (simp only; omega)), (by first | omega | (simp only; omega)), hF, hT, hd, hk, ha⟩ (by first | omega | (simp only; omega)))
    · skip
      refine run_exit (id := 0) (by kernel_rfl) rfl ?_
      refine run_seq (x := F8.c40) (y := F8.c41) (by kernel_rfl) ?_
      refine run_plain (id := 12) (ops := F8.o12) [(0, true)] (by kernel_rfl) (by kernel_rfl) ?_
      refine yS (by kernel_rfl : opAt F8.o12 0 = some (some 9, .assign (.const (.int .i64 0)), none)) rfl rfl (fun w' hS => val_assign rfl) ?_
      refine Sch.nil ?_
      refine run_seq (x := F8.c42) (y := F8.c100) (by kernel_rfl) ?_
      refine run_seq (x := F8.c43) (y := F8.c44) (by kernel_rfl) ?_
      refine run_plain (id := 13) (ops := F8.o13) [(0, true), (1, true), (2, true)] (by kernel_rfl) (by kernel_rfl) ?_
      refine yS (by kernel_rfl : opAt F8.o13 0 = some (some 67, .move (.tmp 4), none)) rfl rfl (fun w' hS => val_move rfl) ?_
      refine yS (by kernel_rfl : opAt F8.o13 1 = some (some 68, .call { callee := .builtin .len, args := #[(.tmp 67)], argTypes := #[23] }, none)) rfl rfl (fun w' hS => hk.lenV rfl Try.underlying23 w' ) ?_
      refine yS (by kernel_rfl : opAt F8.o13 2 = some (some 69, .move (.const (.int .i64 0)), none)) rfl rfl (fun w' hS => val_move rfl) ?_
      refine Sch.nil ?_
      refine run_block (x := F8.c45) (id := 2) (by kernel_rfl) ?_
      
      refine run_loop (ι := Nat × (Nat → Nat)) (I := fun x w => x.1 ≤ ks.length ∧ Lim w x.2 ∧ Stp [2, 3, 4, 5, 6, 7, 8, 9] w₀ (col1 C) w x.2 ∧ DeckIs w x.2 3 bd ∧ RV w (Mc x.2) ks vk ∧ RV w (Mc x.2) at_ vat) (e := fun x => [(3, .pointer (some ⟨bd, 0, none⟩)), (4, vk), (5, vat), (9, .int .i64 ((compsS (ks.take x.1)).length : Nat)), (67, vk), (68, .int .i64 ks.length), (69, .int .i64 x.1)]) (m := fun x => ks.length - x.1) (x₀ := (0, C1)) (body := F8.c46) (by kernel_rfl) (sub_cons 3 rfl rfl (sub_cons 4 rfl rfl (sub_cons 5 rfl rfl (sub_cons 9 rfl rfl (sub_cons 67 rfl rfl (sub_cons 68 rfl rfl (sub_cons 69 rfl rfl (sub_nil _)))))))) ?_ ?_
      · exact ⟨Nat.zero_le _, hF, hT, hd, hk, ha⟩
      intro ⟨q, C1⟩ w20 hI next
      obtain ⟨hq, hF, hT, hd, hk, ha⟩ := hI
      try simp only at hq hF hT hd hk ha
      have next2 := next
      clear next
      show Run _ _ _ _ [(3, .pointer (some ⟨bd, 0, none⟩)), (4, vk), (5, vat), (9, .int .i64 ((compsS (ks.take q)).length : Nat)), (67, vk), (68, .int .i64 ks.length), (69, .int .i64 q)] _ _
      refine run_seq (x := F8.c47) (y := F8.c48) (by kernel_rfl) ?_
      refine run_plain (id := 14) (ops := F8.o14) [(0, true)] (by kernel_rfl) (by kernel_rfl) ?_
      refine yS (by kernel_rfl : opAt F8.o14 0 = some (some 70, .binOp .lss 3 (.tmp 69) (.tmp 68) 3, none)) rfl rfl (fun w' hS => val_lss rfl rfl) ?_
      refine Sch.nil ?_
      refine run_seq (x := F8.c49) (y := F8.c52) (by kernel_rfl) ?_
      refine run_if (x := F8.c50) (y := F8.c51) (o := .tmp 70) (by kernel_rfl) rfl (fun h70 => ?_) (fun h70 => ?_)
      · skip
        have hql : q < ks.length := by omega
        have hct := compsS_take hql
        have hc1 := hcl (q + 1)
        rw [hct, List.length_append] at hc1
        refine run_skip (by kernel_rfl) ?_
        refine run_seq (x := F8.c53) (y := F8.c99) (by kernel_rfl) ?_
        refine run_block (x := F8.c54) (id := 3) (by kernel_rfl) ?_
        refine run_seq (x := F8.c55) (y := F8.c56) (by kernel_rfl) ?_
        refine run_plain (id := 15) (ops := F8.o15) [(0, true), (1, false), (2, false), (3, false)] (by kernel_rfl) (by kernel_rfl) ?_
        refine iS (e := 28) (by kernel_rfl : opAt F8.o15 0 = some (some 71, .indexAddr 23 (.tmp 67) (.tmp 69), none)) rfl rfl hk rfl (by kernel_rfl) rfl (by omega) (by omega) ?_
        intro b71 o71 h71
        try simp only [Int.toNat_natCast] at h71
        refine lNA (by kernel_rfl : opAt F8.o15 1 = some (some 72, .load 28 (.tmp 71), none)) rfl rfl trivial h71 (by kernel_rfl) (by kernel_rfl) rfl rfl ?_
        intro v72 g72
        obtain ⟨u72, rfl, gu72⟩ := rv_key' g72
        refine aS (by kernel_rfl : opAt F8.o15 2 = some (some 11, .alloc 28, none)) rfl rfl (a_alloc (cs := [.slice none 0 0]) hF 4 (by kernel_rfl)) ?_
        rintro _ w21 ⟨Cw21, bw21, rfl, hs, hkb, hF⟩
        refine ⟨trivial, ?_⟩
        replace hT := hT.trans hs (by simp)
        replace hd := hd.st hs (by first | decide | (simp <;> omega)) (by first | decide | (simp <;> omega))
        replace hk := hk.st hs (by first | decide | (simp <;> omega))
        replace ha := ha.st hs (by first | decide | (simp <;> omega))
        replace h71 := h71.st hs (by first | decide | (simp <;> omega))
        replace gu72 := gu72.st hs (by first | decide | (simp <;> omega))
        refine aN (by kernel_rfl : opAt F8.o15 3 = some (none, .store 28 (.tmp 11) (.tmp 72), none)) rfl (a_storeAll (vs := [u72]) (n := 1) rfl rfl (by kernel_rfl) rfl rfl (by intro u hu; simp only [List.mem_cons, List.not_mem_nil, or_false] at hu; subst hu; exact (gu72.one rfl).2) hkb rfl) ?_
        rintro _ w22 ⟨rfl, hs, hkb⟩
        refine ⟨trivial, ?_⟩
        replace hF := hF.st hs
        replace hT := hT.trans hs (by simp)
        replace hd := hd.st hs (by first | decide | (simp <;> omega)) (by first | decide | (simp <;> omega))
        replace hk := hk.st hs (by first | decide | (simp <;> omega))
        replace ha := ha.st hs (by first | decide | (simp <;> omega))
        replace h71 := h71.st hs (by first | decide | (simp <;> omega))
        replace gu72 := gu72.st hs (by first | decide | (simp <;> omega))
        refine Sch.nil ?_
        refine run_seq (x := F8.c57) (y := F8.c58) (by kernel_rfl) ?_
        refine run_plain (id := 16) (ops := F8.o16) [(0, true), (1, false), (2, true), (3, true)] (by kernel_rfl) (by kernel_rfl) ?_
        refine yS (by kernel_rfl : opAt F8.o16 0 = some (some 73, .fieldAddr 28 (.tmp 11) 0, none)) rfl rfl (fun w' hS => val_fieldAddr (off := 0) (by kernel_rfl) rfl) ?_
        refine nS (by kernel_rfl : opAt F8.o16 1 = some (some 74, .load 26 (.tmp 73), none)) rfl rfl trivial (val_loadOwn hkb.at_ (by kernel_rfl) rfl rfl) ?_
        refine yS (by kernel_rfl : opAt F8.o16 2 = some (some 75, .call { callee := .builtin .len, args := #[(.tmp 74)], argTypes := #[26] }, none)) rfl rfl (fun w' hS => gu72.lenV rfl Try.underlying26 w' ) ?_
        refine yS (by kernel_rfl : opAt F8.o16 3 = some (some 76, .move (.const (.int .i64 0)), none)) rfl rfl (fun w' hS => val_move rfl) ?_
        refine Sch.nil ?_
        refine run_block (x := F8.c59) (id := 4) (by kernel_rfl) ?_
        
        refine run_loop (ι := Nat × (Nat → Nat)) (I := fun x w => x.1 ≤ ks[q].comps.length ∧ Lim w x.2 ∧ Stp [2, 3, 4, 5, 6, 7, 8, 9] w₀ (col1 C) w x.2 ∧ DeckIs w x.2 3 bd ∧ RV w (Mc x.2) ks vk ∧ RV w (Mc x.2) at_ vat ∧ RV w (Mc x.2) ks[q].comps u72) (e := fun x => [(3, .pointer (some ⟨bd, 0, none⟩)), (4, vk), (5, vat), (9, .int .i64 ((compsS (ks.take q)).length + x.1 : Nat)), (67, vk), (68, .int .i64 ks.length), (69, .int .i64 q), (74, u72), (75, .int .i64 ks[q].comps.length), (76, .int .i64 x.1)]) (m := fun x => ks[q].comps.length - x.1) (x₀ := (0, Cw21)) (body := F8.c60) (by kernel_rfl) (sub_cons 3 rfl rfl (sub_cons 4 rfl rfl (sub_cons 5 rfl rfl (sub_cons 9 rfl rfl (sub_cons 67 rfl rfl (sub_cons 68 rfl rfl (sub_cons 69 rfl rfl (sub_cons 74 rfl rfl (sub_cons 75 rfl rfl (sub_cons 76 rfl rfl (sub_nil _))))))))))) ?_ ?_
        · exact ⟨Nat.zero_le _, hF, hT, hd, hk, ha, gu72⟩
        intro ⟨j, C1⟩ w23 hI next
        obtain ⟨hj, hF, hT, hd, hk, ha, gu72⟩ := hI
        try simp only at hj hF hT hd hk ha gu72
        have next3 := next
        clear next
        show Run _ _ _ _ [(3, .pointer (some ⟨bd, 0, none⟩)), (4, vk), (5, vat), (9, .int .i64 ((compsS (ks.take q)).length + j : Nat)), (67, vk), (68, .int .i64 ks.length), (69, .int .i64 q), (74, u72), (75, .int .i64 ks[q].comps.length), (76, .int .i64 j)] _ _
        refine run_seq (x := F8.c61) (y := F8.c62) (by kernel_rfl) ?_
        refine run_plain (id := 17) (ops := F8.o17) [(0, true)] (by kernel_rfl) (by kernel_rfl) ?_
        refine yS (by kernel_rfl : opAt F8.o17 0 = some (some 77, .binOp .lss 3 (.tmp 76) (.tmp 75) 3, none)) rfl rfl (fun w' hS => val_lss rfl rfl) ?_
        refine Sch.nil ?_
        refine run_seq (x := F8.c63) (y := F8.c66) (by kernel_rfl) ?_
        refine run_if (x := F8.c64) (y := F8.c65) (o := .tmp 77) (by kernel_rfl) rfl (fun h77 => ?_) (fun h77 => ?_)
        · skip
          have hjl : j < ks[q].comps.length := by omega
          obtain ⟨c, hc⟩ : ∃ c, c = ks[q].comps[j] := ⟨_, rfl⟩
          have hany := any_eq_mem (hmem _ (List.getElem_mem hql) _ (List.getElem_mem hjl))
          rw [← hc] at hany
          refine run_skip (by kernel_rfl) ?_
          refine run_seq (x := F8.c67) (y := F8.c98) (by kernel_rfl) ?_
          refine run_block (x := F8.c68) (id := 5) (by kernel_rfl) ?_
          refine run_seq (x := F8.c69) (y := F8.c70) (by kernel_rfl) ?_
          refine run_plain (id := 18) (ops := F8.o18) [(0, true), (1, false), (2, false), (3, false)] (by kernel_rfl) (by kernel_rfl) ?_
          refine iS (e := 50) (by kernel_rfl : opAt F8.o18 0 = some (some 78, .indexAddr 26 (.tmp 74) (.tmp 76), none)) rfl rfl gu72 rfl (by kernel_rfl) rfl (by omega) (by omega) ?_
          intro b78 o78 h78
          try simp only [Int.toNat_natCast] at h78
          refine lNA (by kernel_rfl : opAt F8.o18 1 = some (some 79, .load 50 (.tmp 78), none)) rfl rfl trivial h78 (by kernel_rfl) (by kernel_rfl) rfl rfl ?_
          intro v79 g79
          obtain rfl := rv_couple.1 g79
          rw [← hc]
          refine aS (by kernel_rfl : opAt F8.o18 2 = some (some 13, .alloc 50, none)) rfl rfl (a_alloc (cs := [.int .i64 0, .int .i64 0]) hF 5 (by kernel_rfl)) ?_
          rintro _ w24 ⟨Cw24, bw24, rfl, hs, hcb, hF⟩
          refine ⟨trivial, ?_⟩
          replace hT := hT.trans hs (by simp)
          replace hd := hd.st hs (by first | decide | (simp <;> omega)) (by first | decide | (simp <;> omega))
          replace hk := hk.st hs (by first | decide | (simp <;> omega))
          replace ha := ha.st hs (by first | decide | (simp <;> omega))
          replace gu72 := gu72.st hs (by first | decide | (simp <;> omega))
          replace h78 := h78.st hs (by first | decide | (simp <;> omega))
          refine aN (by kernel_rfl : opAt F8.o18 3 = some (none, .store 50 (.tmp 13) (.tmp 79), none)) rfl (a_storeAll (vs := [.int .i64 (c).a, .int .i64 (c).b]) (n := 2) rfl rfl (by kernel_rfl) rfl rfl (by intro u hu; simp only [List.mem_cons, List.not_mem_nil, or_false] at hu; rcases hu with rfl | rfl <;> rfl) hcb rfl) ?_
          rintro _ w25 ⟨rfl, hs, hcb⟩
          refine ⟨trivial, ?_⟩
          replace hF := hF.st hs
          replace hT := hT.trans hs (by simp)
          replace hd := hd.st hs (by first | decide | (simp <;> omega)) (by first | decide | (simp <;> omega))
          replace hk := hk.st hs (by first | decide | (simp <;> omega))
          replace ha := ha.st hs (by first | decide | (simp <;> omega))
          replace gu72 := gu72.st hs (by first | decide | (simp <;> omega))
          replace h78 := h78.st hs (by first | decide | (simp <;> omega))
          refine Sch.nil ?_
          refine run_seq (x := F8.c71) (y := F8.c72) (by kernel_rfl) ?_
          refine run_plain (id := 19) (ops := F8.o19) [(0, true)] (by kernel_rfl) (by kernel_rfl) ?_
          refine yS (by kernel_rfl : opAt F8.o19 0 = some (some 14, .assign (.const (.bool false)), none)) rfl rfl (fun w' hS => val_assign rfl) ?_
          refine Sch.nil ?_
          refine run_seq (x := F8.c73) (y := F8.c89) (by kernel_rfl) ?_
          refine run_seq (x := F8.c74) (y := F8.c75) (by kernel_rfl) ?_
          refine run_plain (id := 20) (ops := F8.o20) [(0, true), (1, true), (2, true)] (by kernel_rfl) (by kernel_rfl) ?_
          refine yS (by kernel_rfl : opAt F8.o20 0 = some (some 80, .move (.tmp 5), none)) rfl rfl (fun w' hS => val_move rfl) ?_
          refine yS (by kernel_rfl : opAt F8.o20 1 = some (some 81, .call { callee := .builtin .len, args := #[(.tmp 80)], argTypes := #[26] }, none)) rfl rfl (fun w' hS => ha.lenV rfl Try.underlying26 w' ) ?_
          refine yS (by kernel_rfl : opAt F8.o20 2 = some (some 82, .move (.const (.int .i64 0)), none)) rfl rfl (fun w' hS => val_move rfl) ?_
          refine Sch.nil ?_
          refine run_block (x := F8.c76) (id := 6) (by kernel_rfl) ?_
          
          refine run_loop (ι := Nat × (Nat → Nat)) (I := fun x w => x.1 ≤ at_.length ∧ Lim w x.2 ∧ Stp [2, 3, 4, 5, 6, 7, 8, 9] w₀ (col1 C) w x.2 ∧ DeckIs w x.2 3 bd ∧ RV w (Mc x.2) ks vk ∧ RV w (Mc x.2) at_ vat ∧ RV w (Mc x.2) ks[q].comps u72 ∧ OwnB w x.2 5 bw24 (.cells [.int .i64 c.a, .int .i64 c.b].toArray 50)) (e := fun x => [(3, .pointer (some ⟨bd, 0, none⟩)), (4, vk), (5, vat), (9, .int .i64 ((compsS (ks.take q)).length + j : Nat)), (13, .pointer (some ⟨bw24, 0, none⟩)), (14, .bool ((at_.take x.1).any fun a => decide (a = c))), (67, vk), (68, .int .i64 ks.length), (69, .int .i64 q), (74, u72), (75, .int .i64 ks[q].comps.length), (76, .int .i64 j), (80, vat), (81, .int .i64 at_.length), (82, .int .i64 x.1)]) (m := fun x => at_.length - x.1) (x₀ := (0, Cw24)) (body := F8.c77) (by kernel_rfl) (sub_cons 3 rfl rfl (sub_cons 4 rfl rfl (sub_cons 5 rfl rfl (sub_cons 9 rfl rfl (sub_cons 13 rfl rfl (sub_cons 14 rfl rfl (sub_cons 67 rfl rfl (sub_cons 68 rfl rfl (sub_cons 69 rfl rfl (sub_cons 74 rfl rfl (sub_cons 75 rfl rfl (sub_cons 76 rfl rfl (sub_cons 80 rfl rfl (sub_cons 81 rfl rfl (sub_cons 82 rfl rfl (sub_nil _)))))))))))))))) ?_ ?_
          · exact ⟨Nat.zero_le _, hF, hT, hd, hk, ha, gu72, hcb⟩
          intro ⟨p, C1⟩ w26 hI next
          obtain ⟨hp, hF, hT, hd, hk, ha, gu72, hcb⟩ := hI
          try simp only at hp hF hT hd hk ha gu72 hcb
          have next4 := next
          clear next
          show Run _ _ _ _ [(3, .pointer (some ⟨bd, 0, none⟩)), (4, vk), (5, vat), (9, .int .i64 ((compsS (ks.take q)).length + j : Nat)), (13, .pointer (some ⟨bw24, 0, none⟩)), (14, .bool ((at_.take p).any fun a => decide (a = c))), (67, vk), (68, .int .i64 ks.length), (69, .int .i64 q), (74, u72), (75, .int .i64 ks[q].comps.length), (76, .int .i64 j), (80, vat), (81, .int .i64 at_.length), (82, .int .i64 p)] _ _
          refine run_seq (x := F8.c78) (y := F8.c79) (by kernel_rfl) ?_
          refine run_plain (id := 21) (ops := F8.o21) [(0, true)] (by kernel_rfl) (by kernel_rfl) ?_
          refine yS (by kernel_rfl : opAt F8.o21 0 = some (some 83, .binOp .lss 3 (.tmp 82) (.tmp 81) 3, none)) rfl rfl (fun w' hS => val_lss rfl rfl) ?_
          refine Sch.nil ?_
          refine run_seq (x := F8.c80) (y := F8.c83) (by kernel_rfl) ?_
          refine run_if (x := F8.c81) (y := F8.c82) (o := .tmp 83) (by kernel_rfl) rfl (fun h83 => ?_) (fun h83 => ?_)
          · skip
            have hpl : p < at_.length := by omega
            have hat2 := any_take2 (fun a => decide (a = c)) at_ hpl
            refine run_skip (by kernel_rfl) ?_
            refine run_seq (x := F8.c84) (y := F8.c88) (by kernel_rfl) ?_
            refine run_block (x := F8.c85) (id := 7) (by kernel_rfl) ?_
            refine run_seq (x := F8.c86) (y := F8.c87) (by kernel_rfl) ?_
            refine run_plain (id := 22) (ops := F8.o22) [(0, true), (1, false), (2, false), (3, false)] (by kernel_rfl) (by kernel_rfl) ?_
            refine iS (e := 50) (by kernel_rfl : opAt F8.o22 0 = some (some 84, .indexAddr 26 (.tmp 80) (.tmp 82), none)) rfl rfl ha rfl (by kernel_rfl) rfl (by omega) (by omega) ?_
            intro b84 o84 h84
            try simp only [Int.toNat_natCast] at h84
            refine lNA (by kernel_rfl : opAt F8.o22 1 = some (some 85, .load 50 (.tmp 84), none)) rfl rfl trivial h84 (by kernel_rfl) (by kernel_rfl) rfl rfl ?_
            intro v85 g85
            obtain rfl := rv_couple.1 g85
            refine aS (by kernel_rfl : opAt F8.o22 2 = some (some 16, .alloc 50, none)) rfl rfl (a_alloc (cs := [.int .i64 0, .int .i64 0]) hF 6 (by kernel_rfl)) ?_
            rintro _ w27 ⟨Cw27, bw27, rfl, hs, hz, hF⟩
            refine ⟨trivial, ?_⟩
            replace hT := hT.trans hs (by simp)
            replace hd := hd.st hs (by first | decide | (simp <;> omega)) (by first | decide | (simp <;> omega))
            replace hk := hk.st hs (by first | decide | (simp <;> omega))
            replace ha := ha.st hs (by first | decide | (simp <;> omega))
            replace gu72 := gu72.st hs (by first | decide | (simp <;> omega))
            replace hcb := hcb.st hs (by first | decide | (simp <;> omega))
            replace h84 := h84.st hs (by first | decide | (simp <;> omega))
            refine aN (by kernel_rfl : opAt F8.o22 3 = some (none, .store 50 (.tmp 16) (.tmp 85), none)) rfl (a_storeAll (vs := [.int .i64 (at_[p]).a, .int .i64 (at_[p]).b]) (n := 2) rfl rfl (by kernel_rfl) rfl rfl (by intro u hu; simp only [List.mem_cons, List.not_mem_nil, or_false] at hu; rcases hu with rfl | rfl <;> rfl) hz rfl) ?_
            rintro _ w28 ⟨rfl, hs, hz⟩
            refine ⟨trivial, ?_⟩
            replace hF := hF.st hs
            replace hT := hT.trans hs (by simp)
            replace hd := hd.st hs (by first | decide | (simp <;> omega)) (by first | decide | (simp <;> omega))
            replace hk := hk.st hs (by first | decide | (simp <;> omega))
            replace ha := ha.st hs (by first | decide | (simp <;> omega))
            replace gu72 := gu72.st hs (by first | decide | (simp <;> omega))
            replace hcb := hcb.st hs (by first | decide | (simp <;> omega))
            replace h84 := h84.st hs (by first | decide | (simp <;> omega))
            refine Sch.nil ?_
            rcases Bool.eq_false_or_eq_true ((at_.take p).any fun a => decide (a = c)) with hfd | hfd
            · skip
              rw [hfd]
              refine run_plain (id := 23) (ops := F8.o23) [(0, true), (1, true), (2, false), (3, false), (4, true), (5, true), (6, true)] (by kernel_rfl) (by kernel_rfl) ?_
              refine yS (by kernel_rfl : opAt F8.o23 0 = some (some 86, .move (.tmp 14), none)) rfl rfl (fun w' hS => val_move rfl) ?_
              refine yS (by kernel_rfl : opAt F8.o23 1 = some (some 87, .move (.tmp 86), none)) rfl rfl (fun w' hS => val_move rfl) ?_
              refine pW (by kernel_rfl : opAt F8.o23 2 = some (some 88, .load 50 (.tmp 16), (some (1, false)))) rfl rfl trivial ?_
              refine pW (by kernel_rfl : opAt F8.o23 3 = some (some 89, .load 50 (.tmp 13), (some (1, false)))) rfl rfl trivial ?_
              refine pS (by kernel_rfl : opAt F8.o23 4 = some (some 90, .binOp .eql 50 (.tmp 88) (.tmp 89) 50, (some (1, false)))) rfl rfl ?_
              refine yS (by kernel_rfl : opAt F8.o23 5 = some (some 91, .pick (.tmp 87) (.const (.bool true)) (.tmp 90), none)) rfl rfl (fun w' hS => val_pick_t rfl rfl) ?_
              refine yS (by kernel_rfl : opAt F8.o23 6 = some (some 14, .assign (.tmp 91), none)) rfl rfl (fun w' hS => val_assign rfl) ?_
              refine Sch.nil ?_
              refine run_inBlock ?_
              refine run_plain (id := 24) (ops := F8.o24) [(0, true), (1, true)] (by kernel_rfl) (by kernel_rfl) ?_
              refine yS (by kernel_rfl : opAt F8.o24 0 = some (some 92, .binOp .add 3 (.tmp 82) (.const (.int .i64 1)) 3, none)) rfl rfl (fun w' hS => val_addi rfl rfl (by omega) (by omega)) ?_
              refine yS (by kernel_rfl : opAt F8.o24 1 = some (some 82, .move (.tmp 92), none)) rfl rfl (fun w' hS => val_move rfl) ?_
              refine Sch.nil ?_
              refine kp (sub_cons 3 rfl rfl (sub_cons 4 rfl rfl (sub_cons 5 rfl rfl (sub_cons 9 rfl rfl (sub_cons 13 rfl rfl (sub_cons 14 rfl (eq_bool (by simp only; rw [hat2, hfd]; rfl)) (sub_cons 67 rfl rfl (sub_cons 68 rfl rfl (sub_cons 69 rfl rfl (sub_cons 74 rfl rfl (sub_cons 75 rfl rfl (sub_cons 76 rfl rfl (sub_cons 80 rfl rfl (sub_cons 81 rfl rfl (sub_cons 82 rfl (eq_int (by simp)) (sub_nil _)))))))))))))))) (next4 (p + 1, Cw27) _ ⟨(by first | omega | (simp only; omega)), hF, hT, hd, hk, ha, gu72, hcb⟩ (by first | omega | (simp only; omega)))
            · skip
              rw [hfd]
              by_cases hB : at_[p] = c
              · skip
                refine run_plain (id := 23) (ops := F8.o23) [(0, true), (1, true), (2, false), (3, false), (4, true), (5, true), (6, true)] (by kernel_rfl) (by kernel_rfl) ?_
                refine yS (by kernel_rfl : opAt F8.o23 0 = some (some 86, .move (.tmp 14), none)) rfl rfl (fun w' hS => val_move rfl) ?_
                refine yS (by kernel_rfl : opAt F8.o23 1 = some (some 87, .move (.tmp 86), none)) rfl rfl (fun w' hS => val_move rfl) ?_
                refine nS (by kernel_rfl : opAt F8.o23 2 = some (some 88, .load 50 (.tmp 16), (some (1, false)))) rfl rfl trivial (val_loadOwnAgg (n := 2) hz.at_ (by kernel_rfl) (by kernel_rfl) rfl rfl rfl) ?_
                refine nS (by kernel_rfl : opAt F8.o23 3 = some (some 89, .load 50 (.tmp 13), (some (1, false)))) rfl rfl trivial (val_loadOwnAgg (n := 2) hcb.at_ (by kernel_rfl) (by kernel_rfl) rfl rfl rfl) ?_
                refine yS (by kernel_rfl : opAt F8.o23 4 = some (some 90, .binOp .eql 50 (.tmp 88) (.tmp 89) 50, (some (1, false)))) rfl rfl (fun w' hS => val_T (val_eqC (a := at_[p]) (b := c) Try.underlying50 (by decide) (by decide) (by kernel_rfl) Try.underlying3 rfl rfl) hB) ?_
                refine yS (by kernel_rfl : opAt F8.o23 5 = some (some 91, .pick (.tmp 87) (.const (.bool true)) (.tmp 90), none)) rfl rfl (fun w' hS => val_pick_f rfl rfl) ?_
                refine yS (by kernel_rfl : opAt F8.o23 6 = some (some 14, .assign (.tmp 91), none)) rfl rfl (fun w' hS => val_assign rfl) ?_
                refine Sch.nil ?_
                refine run_inBlock ?_
                refine run_plain (id := 24) (ops := F8.o24) [(0, true), (1, true)] (by kernel_rfl) (by kernel_rfl) ?_
                refine yS (by kernel_rfl : opAt F8.o24 0 = some (some 92, .binOp .add 3 (.tmp 82) (.const (.int .i64 1)) 3, none)) rfl rfl (fun w' hS => val_addi rfl rfl (by omega) (by omega)) ?_
                refine yS (by kernel_rfl : opAt F8.o24 1 = some (some 82, .move (.tmp 92), none)) rfl rfl (fun w' hS => val_move rfl) ?_
                refine Sch.nil ?_
                refine kp (sub_cons 3 rfl rfl (sub_cons 4 rfl rfl (sub_cons 5 rfl rfl (sub_cons 9 rfl rfl (sub_cons 13 rfl rfl (sub_cons 14 rfl (eq_bool (by simp only; rw [hat2, hfd, decide_eq_true hB]; rfl)) (sub_cons 67 rfl rfl (sub_cons 68 rfl rfl (sub_cons 69 rfl rfl (sub_cons 74 rfl rfl (sub_cons 75 rfl rfl (sub_cons 76 rfl rfl (sub_cons 80 rfl rfl (sub_cons 81 rfl rfl (sub_cons 82 rfl (eq_int (by simp)) (sub_nil _)))))))))))))))) (next4 (p + 1, Cw27) _ ⟨(by first | omega | (simp only; omega)), hF, hT, hd, hk, ha, gu72, hcb⟩ (by first | omega | (simp only; omega)))
              · skip
                refine run_plain (id := 23) (ops := F8.o23) [(0, true), (1, true), (2, false), (3, false), (4, true), (5, true), (6, true)] (by kernel_rfl) (by kernel_rfl) ?_
                refine yS (by kernel_rfl : opAt F8.o23 0 = some (some 86, .move (.tmp 14), none)) rfl rfl (fun w' hS => val_move rfl) ?_
                refine yS (by kernel_rfl : opAt F8.o23 1 = some (some 87, .move (.tmp 86), none)) rfl rfl (fun w' hS => val_move rfl) ?_
                refine nS (by kernel_rfl : opAt F8.o23 2 = some (some 88, .load 50 (.tmp 16), (some (1, false)))) rfl rfl trivial (val_loadOwnAgg (n := 2) hz.at_ (by kernel_rfl) (by kernel_rfl) rfl rfl rfl) ?_
                refine nS (by kernel_rfl : opAt F8.o23 3 = some (some 89, .load 50 (.tmp 13), (some (1, false)))) rfl rfl trivial (val_loadOwnAgg (n := 2) hcb.at_ (by kernel_rfl) (by kernel_rfl) rfl rfl rfl) ?_
                refine yS (by kernel_rfl : opAt F8.o23 4 = some (some 90, .binOp .eql 50 (.tmp 88) (.tmp 89) 50, (some (1, false)))) rfl rfl (fun w' hS => val_F (val_eqC (a := at_[p]) (b := c) Try.underlying50 (by decide) (by decide) (by kernel_rfl) Try.underlying3 rfl rfl) hB) ?_
                refine yS (by kernel_rfl : opAt F8.o23 5 = some (some 91, .pick (.tmp 87) (.const (.bool true)) (.tmp 90), none)) rfl rfl (fun w' hS => val_pick_f rfl rfl) ?_
                refine yS (by kernel_rfl : opAt F8.o23 6 = some (some 14, .assign (.tmp 91), none)) rfl rfl (fun w' hS => val_assign rfl) ?_
                refine Sch.nil ?_
                refine run_inBlock ?_
                refine run_plain (id := 24) (ops := F8.o24) [(0, true), (1, true)] (by kernel_rfl) (by kernel_rfl) ?_
                refine yS (by kernel_rfl : opAt F8.o24 0 = some (some 92, .binOp .add 3 (.tmp 82) (.const (.int .i64 1)) 3, none)) rfl rfl (fun w' hS => val_addi rfl rfl (by omega) (by omega)) ?_
                refine yS (by kernel_rfl : opAt F8.o24 1 = some (some 82, .move (.tmp 92), none)) rfl rfl (fun w' hS => val_move rfl) ?_
                refine Sch.nil ?_
                refine kp (sub_cons 3 rfl rfl (sub_cons 4 rfl rfl (sub_cons 5 rfl rfl (sub_cons 9 rfl rfl (sub_cons 13 rfl rfl (sub_cons 14 rfl (eq_bool (by simp only; rw [hat2, hfd, decide_eq_false hB]; rfl)) (sub_cons 67 rfl rfl (sub_cons 68 rfl rfl (sub_cons 69 rfl rfl (sub_cons 74 rfl rfl (sub_cons 75 rfl rfl (sub_cons 76 rfl rfl (sub_cons 80 rfl rfl (sub_cons 81 rfl rfl (sub_cons 82 rfl (eq_int (by simp)) (sub_nil _)))))))))))))))) (next4 (p + 1, Cw27) _ ⟨(by first | omega | (simp only; omega)), hF, hT, hd, hk, ha, gu72, hcb⟩ (by first | omega | (simp only; omega)))
          · skip
            obtain rfl : p = at_.length := by omega
            rw [List.take_length, hany]
            refine run_exit (id := 6) (by kernel_rfl) rfl ?_
            refine run_seq (x := F8.c90) (y := F8.c97) (by kernel_rfl) ?_
            refine run_seq (x := F8.c91) (y := F8.c92) (by kernel_rfl) ?_
            refine run_plain (id := 25) (ops := F8.o25) [(0, true), (1, true)] (by kernel_rfl) (by kernel_rfl) ?_
            refine yS (by kernel_rfl : opAt F8.o25 0 = some (some 93, .move (.tmp 14), none)) rfl rfl (fun w' hS => val_move rfl) ?_
            refine yS (by kernel_rfl : opAt F8.o25 1 = some (some 94, .unOp .not 4 (.tmp 93), none)) rfl rfl (fun w' hS => val_not rfl) ?_
            refine Sch.nil ?_
            refine run_cond (x := F8.c93) (y := F8.c96) (o := .tmp 94) (b := false) (by kernel_rfl) rfl (fun h => by cases h) (fun _ => ?_)
            refine run_skip (by kernel_rfl) ?_
            refine run_plain (id := 27) (ops := F8.o27) [(0, true), (1, true), (2, true)] (by kernel_rfl) (by kernel_rfl) ?_
            refine yS (by kernel_rfl : opAt F8.o27 0 = some (some 95, .move (.tmp 9), none)) rfl rfl (fun w' hS => val_move rfl) ?_
            refine yS (by kernel_rfl : opAt F8.o27 1 = some (some 96, .binOp .add 3 (.tmp 95) (.const (.int .i64 1)) 3, none)) rfl rfl (fun w' hS => val_addi rfl rfl (by omega) (by omega)) ?_
            refine yS (by kernel_rfl : opAt F8.o27 2 = some (some 9, .assign (.tmp 96), none)) rfl rfl (fun w' hS => val_assign rfl) ?_
            refine Sch.nil ?_
            refine run_inBlock ?_
            refine run_plain (id := 28) (ops := F8.o28) [(0, true), (1, true)] (by kernel_rfl) (by kernel_rfl) ?_
            refine yS (by kernel_rfl : opAt F8.o28 0 = some (some 97, .binOp .add 3 (.tmp 76) (.const (.int .i64 1)) 3, none)) rfl rfl (fun w' hS => val_addi rfl rfl (by omega) (by omega)) ?_
            refine yS (by kernel_rfl : opAt F8.o28 1 = some (some 76, .move (.tmp 97), none)) rfl rfl (fun w' hS => val_move rfl) ?_
            refine Sch.nil ?_
            refine kp (sub_cons 3 rfl rfl (sub_cons 4 rfl rfl (sub_cons 5 rfl rfl (sub_cons 9 rfl (eq_int (by simp only; omega)) (sub_cons 67 rfl rfl (sub_cons 68 rfl rfl (sub_cons 69 rfl rfl (sub_cons 74 rfl rfl (sub_cons 75 rfl rfl (sub_cons 76 rfl (eq_int (by simp)) (sub_nil _))))))))))) (next3 (j + 1, C1) _ ⟨(by first | omega | (simp only; omega)), hF, hT, hd, hk, ha, gu72⟩ (by first | omega | (simp only; omega)))
        · skip
          obtain rfl : j = ks[q].comps.length := by omega
          rw [← List.length_append, ← hct]
          refine run_exit (id := 4) (by kernel_rfl) rfl ?_
          refine run_inBlock ?_
          refine run_plain (id := 29) (ops := F8.o29) [(0, true), (1, true)] (by kernel_rfl) (by kernel_rfl) ?_
          refine yS (by kernel_rfl : opAt F8.o29 0 = some (some 98, .binOp .add 3 (.tmp 69) (.const (.int .i64 1)) 3, none)) rfl rfl (fun w' hS => val_addi rfl rfl (by omega) (by omega)) ?_
          refine yS (by kernel_rfl : opAt F8.o29 1 = some (some 69, .move (.tmp 98), none)) rfl rfl (fun w' hS => val_move rfl) ?_
          refine Sch.nil ?_
          refine kp (sub_cons 3 rfl rfl (sub_cons 4 rfl rfl (sub_cons 5 rfl rfl (sub_cons 9 rfl rfl (sub_cons 67 rfl rfl (sub_cons 68 rfl rfl (sub_cons 69 rfl (eq_int (by simp)) (sub_nil _)))))))) (next2 (q + 1, C1) _ ⟨(by first | omega | (simp only; omega)), hF, hT, hd, hk, ha⟩ (by first | omega | (simp only; omega)))
      · skip
        obtain rfl : q = ks.length := by omega
        rw [List.take_length]
        refine run_exit (id := 2) (by kernel_rfl) rfl ?_
        refine run_seq (x := F8.c101) (y := F8.c102) (by kernel_rfl) ?_
        refine run_plain (id := 30) (ops := F8.o30) [(0, true), (1, true), (2, true), (3, false), (4, true), (5, true), (6, true), (7, false), (8, false), (9, true), (10, true), (11, true), (12, false), (13, false), (14, true)] (by kernel_rfl) (by kernel_rfl) ?_
        refine yS (by kernel_rfl : opAt F8.o30 0 = some (some 100, .move (.tmp 4), none)) rfl rfl (fun w' hS => val_move rfl) ?_
        refine yS (by kernel_rfl : opAt F8.o30 1 = some (some 101, .move (.tmp 3), none)) rfl rfl (fun w' hS => val_move rfl) ?_
        refine yS (by kernel_rfl : opAt F8.o30 2 = some (some 102, .move (.tmp 4), none)) rfl rfl (fun w' hS => val_move rfl) ?_
        rw [hat] at hatl
        refine cS (by kernel_rfl : opAt F8.o30 3 = some (some 103, .call { callee := .value (.func 16), args := #[(.tmp 101), (.tmp 102)], argTypes := #[29, 23] }, none)) rfl rfl (ent Try.call16 rfl) (rates_ok hF (by decide) hd hk hsm) ?_
        rintro vr w29 ⟨rs, hs, hr, hd, hrl, hro⟩
        refine ⟨trivial, ?_⟩
        replace hF := hF.st hs
        replace hT := hT.trans hs (by simp)
        replace hk := hk.st hs (by first | decide | (simp <;> omega))
        replace ha := ha.st hs (by first | decide | (simp <;> omega))
        have hz : checkP ks rs = 0 := checkP_ok (by omega) (by omega) hrl hro
        refine yS (by kernel_rfl : opAt F8.o30 4 = some (some 104, .move (.tmp 3), none)) rfl rfl (fun w' hS => val_move rfl) ?_
        refine yS (by kernel_rfl : opAt F8.o30 5 = some (some 105, .move (.tmp 4), none)) rfl rfl (fun w' hS => val_move rfl) ?_
        refine yS (by kernel_rfl : opAt F8.o30 6 = some (some 106, .call { callee := .builtin .len, args := #[(.tmp 105)], argTypes := #[23] }, none)) rfl rfl (fun w' hS => hk.lenV rfl Try.underlying23 w' ) ?_
        refine cS (by kernel_rfl : opAt F8.o30 7 = some (some 107, .call { callee := .value (.func 22), args := #[(.tmp 104), (.tmp 106)], argTypes := #[29, 3] }, none)) rfl rfl (ent Try.call22 rfl) (numbers_ok (n := ks.length) hF (by decide) hd (by omega)) ?_
        rintro vq w30 ⟨qs, hs, hq, hd, hql, hqb⟩
        refine ⟨trivial, ?_⟩
        replace hF := hF.st hs
        replace hT := hT.trans hs (by simp)
        replace hk := hk.st hs (by first | decide | (simp <;> omega))
        replace ha := ha.st hs (by first | decide | (simp <;> omega))
        replace hr := hr.st hs (by first | decide | (simp <;> omega))
        have h32 : 2 ^ ks.length ≤ 32 := Nat.pow_le_pow_right (n := 2) (by decide) (show ks.length ≤ 5 by omega)
        obtain ⟨m0, hm0, hml, hq0, hqb0, hbest⟩ := choose_dealt (bg := 0) hz hql (by omega) (by decide) hqb
        refine cS (by kernel_rfl : opAt F8.o30 8 = some (some 108, .call { callee := .value (.func 23), args := #[(.tmp 100), (.tmp 103), (.tmp 107), (.const (.int .i64 0))], argTypes := #[23, 22, 22, 3] }, none)) rfl rfl (ent Try.call23 rfl) (choose_ok hF hk hr hq hsm) ?_
        rintro vw31 w31 ⟨up, rfl, hs, hup⟩
        refine ⟨trivial, ?_⟩
        replace hF := hF.st hs
        replace hT := hT.trans hs (by simp)
        replace hd := hd.st hs (by first | decide | (simp <;> omega)) (by first | decide | (simp <;> omega))
        replace hk := hk.st hs (by first | decide | (simp <;> omega))
        replace ha := ha.st hs (by first | decide | (simp <;> omega))
        replace hr := hr.st hs (by first | decide | (simp <;> omega))
        replace hq := hq.st hs (by first | decide | (simp <;> omega))
        rw [hm0] at hup
        rw [hm0]
        refine yS (by kernel_rfl : opAt F8.o30 9 = some (some 99, .move (.tmp 108), none)) rfl rfl (fun w' hS => val_move rfl) ?_
        refine yS (by kernel_rfl : opAt F8.o30 10 = some (some 109, .extract (.tmp 99) 0, none)) rfl rfl (fun w' hS => val_extract rfl rfl) ?_
        refine yS (by kernel_rfl : opAt F8.o30 11 = some (some 110, .extract (.tmp 99) 1, none)) rfl rfl (fun w' hS => val_extract rfl rfl) ?_
        refine aS (by kernel_rfl : opAt F8.o30 12 = some (some 17, .alloc 44, none)) rfl rfl (a_alloc (cs := [.slice none 0 0, .int .i64 0, .int .i64 0]) hF 7 (by kernel_rfl)) ?_
        rintro _ w32 ⟨Cw32, bw32, rfl, hs, hpp, hF⟩
        refine ⟨trivial, ?_⟩
        replace hT := hT.trans hs (by simp)
        replace hd := hd.st hs (by first | decide | (simp <;> omega)) (by first | decide | (simp <;> omega))
        replace hk := hk.st hs (by first | decide | (simp <;> omega))
        replace ha := ha.st hs (by first | decide | (simp <;> omega))
        replace hr := hr.st hs (by first | decide | (simp <;> omega))
        replace hq := hq.st hs (by first | decide | (simp <;> omega))
        replace hup := hup.st hs (by first | decide | (simp <;> omega))
        refine aN (by kernel_rfl : opAt F8.o30 13 = some (none, .store 44 (.tmp 17) (.tmp 109), none)) rfl (a_storeAll (vs := [up, .int .i64 (qS qs m0), .int .i64 (fS ks rs m0)]) (n := 3) rfl rfl (by kernel_rfl) rfl rfl (by intro u hu; simp only [List.mem_cons, List.not_mem_nil, or_false] at hu; rcases hu with rfl | rfl | rfl <;> first | rfl | exact (hup.one rfl).2) hpp rfl) ?_
        rintro _ w33 ⟨rfl, hs, hpp⟩
        refine ⟨trivial, ?_⟩
        replace hF := hF.st hs
        replace hT := hT.trans hs (by simp)
        replace hd := hd.st hs (by first | decide | (simp <;> omega)) (by first | decide | (simp <;> omega))
        replace hk := hk.st hs (by first | decide | (simp <;> omega))
        replace ha := ha.st hs (by first | decide | (simp <;> omega))
        replace hr := hr.st hs (by first | decide | (simp <;> omega))
        replace hq := hq.st hs (by first | decide | (simp <;> omega))
        replace hup := hup.st hs (by first | decide | (simp <;> omega))
        refine yS (by kernel_rfl : opAt F8.o30 14 = some (some 18, .assign (.tmp 110), none)) rfl rfl (fun w' hS => val_assign rfl) ?_
        refine Sch.nil ?_
        refine run_seq (x := F8.c103) (y := F8.c104) (by kernel_rfl) ?_
        refine run_plain (id := 31) (ops := F8.o31) [(0, true), (1, true), (2, true), (3, true), (4, true), (5, true), (6, true), (7, true), (8, true), (9, true), (10, false), (11, true), (12, true), (13, true)] (by kernel_rfl) (by kernel_rfl) ?_
        refine yS (by kernel_rfl : opAt F8.o31 0 = some (some 111, .move (.tmp 5), none)) rfl rfl (fun w' hS => val_move rfl) ?_
        refine yS (by kernel_rfl : opAt F8.o31 1 = some (some 112, .call { callee := .builtin .len, args := #[(.tmp 111)], argTypes := #[26] }, none)) rfl rfl (fun w' hS => ha.lenV rfl Try.underlying26 w' ) ?_
        refine yS (by kernel_rfl : opAt F8.o31 2 = some (some 113, .move (.tmp 9), none)) rfl rfl (fun w' hS => val_move rfl) ?_
        refine yS (by kernel_rfl : opAt F8.o31 3 = some (some 114, .binOp .leq 3 (.tmp 112) (.tmp 113) 3, none)) rfl rfl (fun w' hS => val_T (val_leq rfl rfl) (by omega)) ?_
        refine yS (by kernel_rfl : opAt F8.o31 4 = some (some 115, .move (.tmp 114), none)) rfl rfl (fun w' hS => val_move rfl) ?_
        refine yS (by kernel_rfl : opAt F8.o31 5 = some (some 116, .move (.tmp 18), (some (4, true)))) rfl rfl (fun w' hS => val_move rfl) ?_
        refine yS (by kernel_rfl : opAt F8.o31 6 = some (some 117, .binOp .eql 37 (.tmp 116) (.const (.int .i64 0)) 37, (some (4, true)))) rfl rfl (fun w' hS => val_T (val_eql rfl rfl) rfl) ?_
        refine yS (by kernel_rfl : opAt F8.o31 7 = some (some 118, .pick (.tmp 115) (.tmp 117) (.const (.bool false)), none)) rfl rfl (fun w' hS => val_pick_t rfl rfl) ?_
        refine yS (by kernel_rfl : opAt F8.o31 8 = some (some 119, .move (.tmp 118), none)) rfl rfl (fun w' hS => val_move rfl) ?_
        refine yS (by kernel_rfl : opAt F8.o31 9 = some (some 120, .fieldAddr 44 (.tmp 17) 1, (some (8, true)))) rfl rfl (fun w' hS => val_fieldAddr (off := 1) (by kernel_rfl) rfl) ?_
        refine nS (by kernel_rfl : opAt F8.o31 10 = some (some 121, .load 3 (.tmp 120), (some (8, true)))) rfl rfl trivial (val_loadOwn hpp.at_ (by kernel_rfl) rfl rfl) ?_
        refine yS (by kernel_rfl : opAt F8.o31 11 = some (some 122, .binOp .eql 3 (.tmp 121) (.const (.int .i64 0)) 3, (some (8, true)))) rfl rfl (fun w' hS => val_T (val_eql rfl rfl) (by omega)) ?_
        refine yS (by kernel_rfl : opAt F8.o31 12 = some (some 123, .pick (.tmp 119) (.tmp 122) (.const (.bool false)), none)) rfl rfl (fun w' hS => val_pick_t rfl rfl) ?_
        refine yS (by kernel_rfl : opAt F8.o31 13 = some (some 2, .assign (.tmp 123), none)) rfl rfl (fun w' hS => val_assign rfl) ?_
        refine Sch.nil ?_
        refine run_ret1 (by kernel_rfl) Try.func8 Try.results8 rfl ?_
        exact ⟨rfl, hT.out1 (by decide)⟩
namespace F8B
noncomputable def c0 : Code := bodyOf Try.f8
noncomputable def c1 : Code := cl c0
noncomputable def o0 : Array Oper := rops c1
noncomputable def c2 : Code := cr c0
noncomputable def c3 : Code := cl c2
noncomputable def c4 : Code := cl c3
noncomputable def o1 : Array Oper := rops c4
noncomputable def c5 : Code := cr c3
noncomputable def c6 : Code := cl c5
noncomputable def c7 : Code := cl c6
noncomputable def o2 : Array Oper := rops c7
noncomputable def c8 : Code := cr c6
noncomputable def c9 : Code := cr c5
noncomputable def c10 : Code := cr c2
noncomputable def c11 : Code := cl c10
noncomputable def o3 : Array Oper := rops c11
noncomputable def c12 : Code := cr c10
noncomputable def c13 : Code := cl c12
noncomputable def o4 : Array Oper := rops c13
noncomputable def c14 : Code := cr c12
noncomputable def c15 : Code := cl c14
noncomputable def o5 : Array Oper := rops c15
noncomputable def c16 : Code := cr c14
noncomputable def c17 : Code := cl c16
noncomputable def c18 : Code := cl c17
noncomputable def o6 : Array Oper := rops c18
noncomputable def c19 : Code := cr c17
noncomputable def c20 : Code := cl c19
noncomputable def c21 : Code := cl c20
noncomputable def c22 : Code := cl c21
noncomputable def c23 : Code := cl c22
noncomputable def o7 : Array Oper := rops c23
noncomputable def c24 : Code := cr c22
noncomputable def c25 : Code := cl c24
noncomputable def c26 : Code := cr c24
noncomputable def c27 : Code := cr c21
noncomputable def c28 : Code := cl c27
noncomputable def c29 : Code := cl c28
noncomputable def c30 : Code := cl c29
noncomputable def o9 : Array Oper := rops c30
noncomputable def c31 : Code := cr c29
noncomputable def c32 : Code := cl c31
noncomputable def o10 : Array Oper := rops c32
noncomputable def c33 : Code := cr c31
noncomputable def c34 : Code := cl c33
noncomputable def c35 : Code := cl c34
noncomputable def o11 : Array Oper := rops c35
noncomputable def c36 : Code := cr c34
noncomputable def c37 : Code := cr c33
noncomputable def c38 : Code := cr c27
noncomputable def o8 : Array Oper := rops c38
noncomputable def c39 : Code := cr c16
noncomputable def c40 : Code := cl c39
noncomputable def o12 : Array Oper := rops c40
noncomputable def c41 : Code := cr c39
noncomputable def c42 : Code := cl c41
noncomputable def c43 : Code := cl c42
noncomputable def o13 : Array Oper := rops c43
noncomputable def c44 : Code := cr c42
noncomputable def c45 : Code := cl c44
noncomputable def c46 : Code := cl c45
noncomputable def c47 : Code := cl c46
noncomputable def o14 : Array Oper := rops c47
noncomputable def c48 : Code := cr c46
noncomputable def c49 : Code := cl c48
noncomputable def c50 : Code := cl c49
noncomputable def c51 : Code := cr c49
noncomputable def c52 : Code := cr c48
noncomputable def c53 : Code := cl c52
noncomputable def c54 : Code := cl c53
noncomputable def c55 : Code := cl c54
noncomputable def o15 : Array Oper := rops c55
noncomputable def c56 : Code := cr c54
noncomputable def c57 : Code := cl c56
noncomputable def o16 : Array Oper := rops c57
noncomputable def c58 : Code := cr c56
noncomputable def c59 : Code := cl c58
noncomputable def c60 : Code := cl c59
noncomputable def c61 : Code := cl c60
noncomputable def o17 : Array Oper := rops c61
noncomputable def c62 : Code := cr c60
noncomputable def c63 : Code := cl c62
noncomputable def c64 : Code := cl c63
noncomputable def c65 : Code := cr c63
noncomputable def c66 : Code := cr c62
noncomputable def c67 : Code := cl c66
noncomputable def c68 : Code := cl c67
noncomputable def c69 : Code := cl c68
noncomputable def o18 : Array Oper := rops c69
noncomputable def c70 : Code := cr c68
noncomputable def c71 : Code := cl c70
noncomputable def o19 : Array Oper := rops c71
noncomputable def c72 : Code := cr c70
noncomputable def c73 : Code := cl c72
noncomputable def c74 : Code := cl c73
noncomputable def o20 : Array Oper := rops c74
noncomputable def c75 : Code := cr c73
noncomputable def c76 : Code := cl c75
noncomputable def c77 : Code := cl c76
noncomputable def c78 : Code := cl c77
noncomputable def o21 : Array Oper := rops c78
noncomputable def c79 : Code := cr c77
noncomputable def c80 : Code := cl c79
noncomputable def c81 : Code := cl c80
noncomputable def c82 : Code := cr c80
noncomputable def c83 : Code := cr c79
noncomputable def c84 : Code := cl c83
noncomputable def c85 : Code := cl c84
noncomputable def c86 : Code := cl c85
noncomputable def o22 : Array Oper := rops c86
noncomputable def c87 : Code := cr c85
noncomputable def o23 : Array Oper := rops c87
noncomputable def c88 : Code := cr c83
noncomputable def o24 : Array Oper := rops c88
noncomputable def c89 : Code := cr c72
noncomputable def c90 : Code := cl c89
noncomputable def c91 : Code := cl c90
noncomputable def o25 : Array Oper := rops c91
noncomputable def c92 : Code := cr c90
noncomputable def c93 : Code := cl c92
noncomputable def c94 : Code := cl c93
noncomputable def o26 : Array Oper := rops c94
noncomputable def c95 : Code := cr c93
noncomputable def c96 : Code := cr c92
noncomputable def c97 : Code := cr c89
noncomputable def o27 : Array Oper := rops c97
noncomputable def c98 : Code := cr c66
noncomputable def o28 : Array Oper := rops c98
noncomputable def c99 : Code := cr c52
noncomputable def o29 : Array Oper := rops c99
noncomputable def c100 : Code := cr c41
noncomputable def c101 : Code := cl c100
noncomputable def o30 : Array Oper := rops c101
noncomputable def c102 : Code := cr c100
noncomputable def c103 : Code := cl c102
noncomputable def o31 : Array Oper := rops c103
noncomputable def c104 : Code := cr c102
end F8B
/-- .. where more is handed than it looks at. -/
theorem plannerOrder_big {w₀ : World} {C : Nat → Nat} {p : Option Addr} {n c : Nat} (hF : Lim w₀ C) (hn : 400 < n) : Calls Try.prog 8 #[.slice p n c] w₀ (Ret fun v w' => v = .bool true ∧ Stp [] w₀ C w' C) := by
  have hF0 := hF
  have hT := Stp.refl [2, 3, 4, 5, 6, 7, 8, 9] w₀ (col1 C)
  replace hF := hF.col1
  refine calls_start (c := F8B.c0) (N := 124) [.slice p n c] Try.func8 (by kernel_rfl) (by kernel_rfl) (by kernel_rfl) ?_
  show Run _ _ _ _ [(0, .slice p n c)] _ _
  refine run_seq (x := F8B.c1) (y := F8B.c2) (by kernel_rfl) ?_
  refine run_plain (id := 0) (ops := F8B.o0) [(0, true)] (by kernel_rfl) (by kernel_rfl) ?_
  refine yS (by kernel_rfl : opAt F8B.o0 0 = some (some 2, .assign (.const (.bool false)), none)) rfl rfl (fun w' hS => val_assign rfl) ?_
  refine Sch.nil ?_
  refine run_seq (x := F8B.c3) (y := F8B.c10) (by kernel_rfl) ?_
  refine run_seq (x := F8B.c4) (y := F8B.c5) (by kernel_rfl) ?_
  refine run_plain (id := 1) (ops := F8B.o1) [(0, false), (1, true), (2, true), (3, true), (4, false), (5, true), (6, true)] (by kernel_rfl) (by kernel_rfl) ?_
  refine cS (by kernel_rfl : opAt F8B.o1 0 = some (some 19, .call { callee := .value (.func 9), args := #[], argTypes := #[] }, none)) rfl rfl (ent Try.call9 rfl) (awake_ok hF) ?_
  rintro vw1 w1 ⟨rfl, hs⟩
  refine ⟨trivial, ?_⟩
  replace hF := hF.st hs
  replace hT := hT.trans hs (by simp)
  refine yS (by kernel_rfl : opAt F8B.o1 1 = some (some 20, .unOp .not 4 (.tmp 19), none)) rfl rfl (fun w' hS => val_not rfl) ?_
  refine yS (by kernel_rfl : opAt F8B.o1 2 = some (some 21, .move (.tmp 20), none)) rfl rfl (fun w' hS => val_move rfl) ?_
  refine yS (by kernel_rfl : opAt F8B.o1 3 = some (some 22, .move (.tmp 0), (some (2, false)))) rfl rfl (fun w' hS => val_move rfl) ?_
  refine cS (by kernel_rfl : opAt F8B.o1 4 = some (some 23, .call { callee := .value (.func 10), args := #[(.tmp 22)], argTypes := #[22] }, (some (2, false)))) rfl rfl (ent Try.call10 rfl) (few_ok _ _ _ _) ?_
  rintro vw2 w2 ⟨rfl, rfl⟩
  refine ⟨trivial, ?_⟩
  rw [decide_eq_false (show ¬ (n : Int) ≤ 400 by omega)]
  refine yS (by kernel_rfl : opAt F8B.o1 5 = some (some 24, .unOp .not 4 (.tmp 23), (some (2, false)))) rfl rfl (fun w' hS => val_not rfl) ?_
  refine yS (by kernel_rfl : opAt F8B.o1 6 = some (some 25, .pick (.tmp 21) (.const (.bool true)) (.tmp 24), none)) rfl rfl (fun w' hS => val_pick_f rfl rfl) ?_
  refine Sch.nil ?_
  refine run_cond (x := F8B.c6) (y := F8B.c9) (o := .tmp 25) (b := true) (by kernel_rfl) rfl (fun _ => ?_) (fun h => by cases h)
  refine run_seq (x := F8B.c7) (y := F8B.c8) (by kernel_rfl) ?_
  refine run_plain (id := 2) (ops := F8B.o2) [(0, false), (1, true)] (by kernel_rfl) (by kernel_rfl) ?_
  refine cS (by kernel_rfl : opAt F8B.o2 0 = some (some 26, .call { callee := .value (.func 9), args := #[], argTypes := #[] }, none)) rfl rfl (ent Try.call9 rfl) (awake_ok hF) ?_
  rintro vw3 w3 ⟨rfl, hs⟩
  refine ⟨trivial, ?_⟩
  replace hF := hF.st hs
  replace hT := hT.trans hs (by simp)
  refine yS (by kernel_rfl : opAt F8B.o2 1 = some (some 2, .assign (.tmp 26), none)) rfl rfl (fun w' hS => val_assign rfl) ?_
  refine Sch.nil ?_
  refine run_ret1 (by kernel_rfl) Try.func8 Try.results8 rfl ?_
  exact ⟨rfl, hT.out1 (by decide)⟩
end Go.Proofs.Ytpmokjccfaakfaa

