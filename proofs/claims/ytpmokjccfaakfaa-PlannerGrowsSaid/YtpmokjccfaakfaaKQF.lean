/- Steps through functions of the program. -/
import Derived.Test.YtpmokjccfaakfaaKQE
set_option linter.unusedVariables false
set_option linter.unusedSimpArgs false
set_option maxRecDepth 100000
set_option maxHeartbeats 400000
namespace Go.Proofs.Ytpmokjccfaakfaa
open Go.K Go.K.Rep

namespace F4
noncomputable def c0 : Code := bodyOf Try.f4
noncomputable def c1 : Code := cl c0
noncomputable def o0 : Array Oper := rops c1
noncomputable def c2 : Code := cr c0
noncomputable def c3 : Code := cl c2
noncomputable def c4 : Code := cl c3
noncomputable def o1 : Array Oper := rops c4
noncomputable def c5 : Code := cr c3
noncomputable def c6 : Code := cl c5
noncomputable def c7 : Code := cl c6
noncomputable def o2 : Array Oper := rops c7
noncomputable def c8 : Code := cr c6
noncomputable def c9 : Code := cr c5
noncomputable def c10 : Code := cr c2
noncomputable def c11 : Code := cl c10
noncomputable def o3 : Array Oper := rops c11
noncomputable def c12 : Code := cr c10
noncomputable def c13 : Code := cl c12
noncomputable def o4 : Array Oper := rops c13
noncomputable def c14 : Code := cr c12
noncomputable def c15 : Code := cl c14
noncomputable def o5 : Array Oper := rops c15
noncomputable def c16 : Code := cr c14
noncomputable def c17 : Code := cl c16
noncomputable def o6 : Array Oper := rops c17
noncomputable def c18 : Code := cr c16
noncomputable def c19 : Code := cl c18
noncomputable def c20 : Code := cl c19
noncomputable def o7 : Array Oper := rops c20
noncomputable def c21 : Code := cr c19
noncomputable def c22 : Code := cl c21
noncomputable def c23 : Code := cl c22
noncomputable def c24 : Code := cl c23
noncomputable def o8 : Array Oper := rops c24
noncomputable def c25 : Code := cr c23
noncomputable def c26 : Code := cl c25
noncomputable def c27 : Code := cl c26
noncomputable def c28 : Code := cr c26
noncomputable def c29 : Code := cr c25
noncomputable def c30 : Code := cl c29
noncomputable def c31 : Code := cl c30
noncomputable def o9 : Array Oper := rops c31
noncomputable def c32 : Code := cr c29
noncomputable def o10 : Array Oper := rops c32
noncomputable def c33 : Code := cr c18
noncomputable def c34 : Code := cl c33
noncomputable def c35 : Code := cl c34
noncomputable def o11 : Array Oper := rops c35
noncomputable def c36 : Code := cr c34
noncomputable def c37 : Code := cl c36
noncomputable def c38 : Code := cl c37
noncomputable def c39 : Code := cl c38
noncomputable def c40 : Code := cl c39
noncomputable def o12 : Array Oper := rops c40
noncomputable def c41 : Code := cr c39
noncomputable def c42 : Code := cl c41
noncomputable def c43 : Code := cr c41
noncomputable def c44 : Code := cr c38
noncomputable def c45 : Code := cl c44
noncomputable def c46 : Code := cl c45
noncomputable def c47 : Code := cl c46
noncomputable def o14 : Array Oper := rops c47
noncomputable def c48 : Code := cr c46
noncomputable def c49 : Code := cl c48
noncomputable def c50 : Code := cl c49
noncomputable def o15 : Array Oper := rops c50
noncomputable def c51 : Code := cr c49
noncomputable def c52 : Code := cl c51
noncomputable def c53 : Code := cl c52
noncomputable def o16 : Array Oper := rops c53
noncomputable def c54 : Code := cr c52
noncomputable def c55 : Code := cr c51
noncomputable def c56 : Code := cr c48
noncomputable def c57 : Code := cl c56
noncomputable def o17 : Array Oper := rops c57
noncomputable def c58 : Code := cr c56
noncomputable def c59 : Code := cl c58
noncomputable def c60 : Code := cl c59
noncomputable def c61 : Code := cl c60
noncomputable def o18 : Array Oper := rops c61
noncomputable def c62 : Code := cr c60
noncomputable def c63 : Code := cl c62
noncomputable def c64 : Code := cl c63
noncomputable def c65 : Code := cr c63
noncomputable def c66 : Code := cr c62
noncomputable def c67 : Code := cl c66
noncomputable def c68 : Code := cl c67
noncomputable def c69 : Code := cl c68
noncomputable def o19 : Array Oper := rops c69
noncomputable def c70 : Code := cr c68
noncomputable def c71 : Code := cl c70
noncomputable def o20 : Array Oper := rops c71
noncomputable def c72 : Code := cr c70
noncomputable def c73 : Code := cl c72
noncomputable def o21 : Array Oper := rops c73
noncomputable def c74 : Code := cr c72
noncomputable def c75 : Code := cl c74
noncomputable def c76 : Code := cl c75
noncomputable def o22 : Array Oper := rops c76
noncomputable def c77 : Code := cr c75
noncomputable def c78 : Code := cr c74
noncomputable def c79 : Code := cr c66
noncomputable def o23 : Array Oper := rops c79
noncomputable def c80 : Code := cr c44
noncomputable def o13 : Array Oper := rops c80
noncomputable def c81 : Code := cr c33
noncomputable def c82 : Code := cl c81
noncomputable def o24 : Array Oper := rops c82
noncomputable def c83 : Code := cr c81
end F4
/-- The statement's function answers true. -/
theorem plannerGrows_ok {w₀ : World} {C : Nat → Nat} {l : List Int} {vl : Value} (hF : Lim w₀ C) (hl : RV w₀ (Mc C) l vl) : Calls Try.prog 4 #[vl] w₀ (Ret fun v w' => v = .bool true ∧ Stp [] w₀ C w' C) := by
  have hF0 := hF
  have hT := Stp.refl [2, 3, 4, 5, 6, 7, 8, 9] w₀ (col1 C)
  replace hF := hF.col1
  replace hl : RV w₀ (Mc (col1 C)) l vl := by rw [Mc_col1]; exact hl
  refine calls_start (c := F4.c0) (N := 92) [vl] Try.func4 (by kernel_rfl) (by kernel_rfl) (by kernel_rfl) ?_
  show Run _ _ _ _ [(0, vl)] _ _
  refine run_seq (x := F4.c1) (y := F4.c2) (by kernel_rfl) ?_
  refine run_plain (id := 0) (ops := F4.o0) [(0, true)] (by kernel_rfl) (by kernel_rfl) ?_
  refine yS (by kernel_rfl : opAt F4.o0 0 = some (some 2, .assign (.const (.bool false)), none)) rfl rfl (fun w' hS => val_assign rfl) ?_
  refine Sch.nil ?_
  refine run_seq (x := F4.c3) (y := F4.c10) (by kernel_rfl) ?_
  refine run_seq (x := F4.c4) (y := F4.c5) (by kernel_rfl) ?_
  refine run_plain (id := 1) (ops := F4.o1) [(0, false), (1, true), (2, true), (3, true), (4, false), (5, true), (6, true)] (by kernel_rfl) (by kernel_rfl) ?_
  refine cS (by kernel_rfl : opAt F4.o1 0 = some (some 13, .call { callee := .value (.func 9), args := #[], argTypes := #[] }, none)) rfl rfl (ent Try.call9 rfl) (awake_ok hF) ?_
  rintro vw1 w1 ⟨rfl, hs⟩
  refine ⟨trivial, ?_⟩
  replace hF := hF.st hs
  replace hT := hT.trans hs (by simp)
  replace hl := hl.st hs (by first | decide | (simp <;> omega))
  refine yS (by kernel_rfl : opAt F4.o1 1 = some (some 14, .unOp .not 4 (.tmp 13), none)) rfl rfl (fun w' hS => val_not rfl) ?_
  refine yS (by kernel_rfl : opAt F4.o1 2 = some (some 15, .move (.tmp 14), none)) rfl rfl (fun w' hS => val_move rfl) ?_
  refine yS (by kernel_rfl : opAt F4.o1 3 = some (some 16, .move (.tmp 0), (some (2, false)))) rfl rfl (fun w' hS => val_move rfl) ?_
  refine cS (by kernel_rfl : opAt F4.o1 4 = some (some 17, .call { callee := .value (.func 10), args := #[(.tmp 16)], argTypes := #[22] }, (some (2, false)))) rfl rfl (ent Try.call10 rfl) (few_any hl) ?_
  rintro vw2 w2 ⟨rfl, rfl⟩
  refine ⟨trivial, ?_⟩
  refine yS (by kernel_rfl : opAt F4.o1 5 = some (some 18, .unOp .not 4 (.tmp 17), (some (2, false)))) rfl rfl (fun w' hS => val_notd rfl) ?_
  refine yS (by kernel_rfl : opAt F4.o1 6 = some (some 19, .pick (.tmp 15) (.const (.bool true)) (.tmp 18), none)) rfl rfl (fun w' hS => val_pick_f rfl rfl) ?_
  refine Sch.nil ?_
  refine run_if (x := F4.c6) (y := F4.c9) (o := .tmp 19) (by kernel_rfl) rfl (fun h19 => ?_) (fun h19 => ?_)
  · skip
    refine run_seq (x := F4.c7) (y := F4.c8) (by kernel_rfl) ?_
    refine run_plain (id := 2) (ops := F4.o2) [(0, false), (1, true)] (by kernel_rfl) (by kernel_rfl) ?_
    refine cS (by kernel_rfl : opAt F4.o2 0 = some (some 20, .call { callee := .value (.func 9), args := #[], argTypes := #[] }, none)) rfl rfl (ent Try.call9 rfl) (awake_ok hF) ?_
    rintro vw3 w3 ⟨rfl, hs⟩
    refine ⟨trivial, ?_⟩
    replace hF := hF.st hs
    replace hT := hT.trans hs (by simp)
    replace hl := hl.st hs (by first | decide | (simp <;> omega))
    refine yS (by kernel_rfl : opAt F4.o2 1 = some (some 2, .assign (.tmp 20), none)) rfl rfl (fun w' hS => val_assign rfl) ?_
    refine Sch.nil ?_
    refine run_ret1 (by kernel_rfl) Try.func4 Try.results4 rfl ?_
    exact ⟨rfl, hT.out1 (by decide)⟩
  · skip
    refine run_skip (by kernel_rfl) ?_
    refine run_seq (x := F4.c11) (y := F4.c12) (by kernel_rfl) ?_
    refine run_plain (id := 3) (ops := F4.o3) [(0, true), (1, false), (2, true)] (by kernel_rfl) (by kernel_rfl) ?_
    refine yS (by kernel_rfl : opAt F4.o3 0 = some (some 21, .move (.tmp 0), none)) rfl rfl (fun w' hS => val_move rfl) ?_
    refine cS (by kernel_rfl : opAt F4.o3 1 = some (some 22, .call { callee := .value (.func 11), args := #[(.tmp 21)], argTypes := #[22] }, none)) rfl rfl (ent Try.call11 rfl) (new_any hF hl) ?_
    rintro vw4 w4 ⟨Cd, bd, rfl, hs, hF, hd⟩
    refine ⟨trivial, ?_⟩
    replace hT := hT.trans hs (by simp)
    replace hl := hl.st hs (by first | decide | (simp <;> omega))
    refine yS (by kernel_rfl : opAt F4.o3 2 = some (some 3, .assign (.tmp 22), none)) rfl rfl (fun w' hS => val_assign rfl) ?_
    refine Sch.nil ?_
    refine run_seq (x := F4.c13) (y := F4.c14) (by kernel_rfl) ?_
    refine run_plain (id := 4) (ops := F4.o4) [(0, true), (1, false), (2, true)] (by kernel_rfl) (by kernel_rfl) ?_
    refine yS (by kernel_rfl : opAt F4.o4 0 = some (some 23, .move (.tmp 3), none)) rfl rfl (fun w' hS => val_move rfl) ?_
    refine cS (by kernel_rfl : opAt F4.o4 1 = some (some 24, .call { callee := .value (.func 12), args := #[(.tmp 23), (.const (.int .i64 4))], argTypes := #[29, 3] }, none)) rfl rfl (ent Try.call12 rfl) (keys_ok (most := 4) hF (by decide) hd (by decide)) ?_
    rintro vk w5 ⟨ks, hs, hk, hd, hkl, hkk⟩
    refine ⟨trivial, ?_⟩
    replace hF := hF.st hs
    replace hT := hT.trans hs (by simp)
    replace hl := hl.st hs (by first | decide | (simp <;> omega))
    have hok : KeysOK ks := fun k hk => ⟨(hkk k hk).1, fun c hc => by have := (hkk k hk).2 c hc; omega⟩
    have hsm : KeysSm ks := hok.sm (by omega)
    have hatl : (atomsS ks).length ≤ 8 := atomsS_bound hok (n := 4) (fun k hk c hc => ((hkk k hk).2 c hc).2.1)
    refine yS (by kernel_rfl : opAt F4.o4 2 = some (some 4, .assign (.tmp 24), none)) rfl rfl (fun w' hS => val_assign rfl) ?_
    refine Sch.nil ?_
    refine run_seq (x := F4.c15) (y := F4.c16) (by kernel_rfl) ?_
    refine run_plain (id := 5) (ops := F4.o5) [(0, true), (1, true), (2, false), (3, true)] (by kernel_rfl) (by kernel_rfl) ?_
    refine yS (by kernel_rfl : opAt F4.o5 0 = some (some 25, .move (.tmp 3), none)) rfl rfl (fun w' hS => val_move rfl) ?_
    refine yS (by kernel_rfl : opAt F4.o5 1 = some (some 26, .move (.tmp 4), none)) rfl rfl (fun w' hS => val_move rfl) ?_
    refine cS (by kernel_rfl : opAt F4.o5 2 = some (some 27, .call { callee := .value (.func 16), args := #[(.tmp 25), (.tmp 26)], argTypes := #[29, 23] }, none)) rfl rfl (ent Try.call16 rfl) (rates_ok hF (by decide) hd hk hsm) ?_
    rintro vr w6 ⟨rs, hs, hr, hd, hrl, hro⟩
    refine ⟨trivial, ?_⟩
    replace hF := hF.st hs
    replace hT := hT.trans hs (by simp)
    replace hl := hl.st hs (by first | decide | (simp <;> omega))
    replace hk := hk.st hs (by first | decide | (simp <;> omega))
    have hz : checkP ks rs = 0 := checkP_ok (by omega) (by omega) hrl hro
    refine yS (by kernel_rfl : opAt F4.o5 3 = some (some 5, .assign (.tmp 27), none)) rfl rfl (fun w' hS => val_assign rfl) ?_
    refine Sch.nil ?_
    refine run_seq (x := F4.c17) (y := F4.c18) (by kernel_rfl) ?_
    refine run_plain (id := 6) (ops := F4.o6) [(0, true)] (by kernel_rfl) (by kernel_rfl) ?_
    refine yS (by kernel_rfl : opAt F4.o6 0 = some (some 6, .assign (.const (.int .i64 1)), none)) rfl rfl (fun w' hS => val_assign rfl) ?_
    refine Sch.nil ?_
    refine run_seq (x := F4.c19) (y := F4.c33) (by kernel_rfl) ?_
    refine run_seq (x := F4.c20) (y := F4.c21) (by kernel_rfl) ?_
    refine run_plain (id := 7) (ops := F4.o7) [(0, true), (1, true), (2, true)] (by kernel_rfl) (by kernel_rfl) ?_
    refine yS (by kernel_rfl : opAt F4.o7 0 = some (some 28, .move (.tmp 5), none)) rfl rfl (fun w' hS => val_move rfl) ?_
    obtain ⟨z, hz2, hz256⟩ : ∃ z : Nat, z = 2 ^ ks.length ∧ z ≤ 32 := ⟨_, rfl, Nat.pow_le_pow_right (n := 2) (by decide) (show ks.length ≤ 5 by omega)⟩
    have hp64 : ∀ q : Nat, q ≤ 8 → (64 : Int) ^ q ≤ 281474976710656 ∧ 0 < (64 : Int) ^ q := fun q hq => by
      have h1 : (64 : Nat) ^ q ≤ 64 ^ 8 := Nat.pow_le_pow_right (by decide) hq
      have h2 : (64 : Int) ^ q = ((64 ^ q : Nat) : Int) := by simp
      exact ⟨by rw [h2]; omega, pow64_pos q⟩
    refine yS (by kernel_rfl : opAt F4.o7 1 = some (some 29, .call { callee := .builtin .len, args := #[(.tmp 28)], argTypes := #[22] }, none)) rfl rfl (fun w' hS => hr.lenV rfl Try.underlying22 w' ) ?_
    refine yS (by kernel_rfl : opAt F4.o7 2 = some (some 30, .move (.const (.int .i64 0)), none)) rfl rfl (fun w' hS => val_move rfl) ?_
    refine Sch.nil ?_
    refine run_block (x := F4.c22) (id := 0) (by kernel_rfl) ?_
    
    refine run_loop (ι := Nat × (Nat → Nat)) (I := fun x w => x.1 ≤ rs.length ∧ Lim w x.2 ∧ Stp [2, 3, 4, 5, 6, 7, 8, 9] w₀ (col1 C) w x.2 ∧ RV w (Mc x.2) ks vk ∧ RV w (Mc x.2) rs vr) (e := fun x => [(4, vk), (5, vr), (6, .int .i64 ((64 : Int) ^ x.1)), (29, .int .i64 rs.length), (30, .int .i64 x.1)]) (m := fun x => rs.length - x.1) (x₀ := (0, Cd)) (body := F4.c23) (by kernel_rfl) (sub_cons 4 rfl rfl (sub_cons 5 rfl rfl (sub_cons 6 rfl rfl (sub_cons 29 rfl rfl (sub_cons 30 rfl rfl (sub_nil _)))))) ?_ ?_
    · exact ⟨Nat.zero_le _, hF, hT, hk, hr⟩
    intro ⟨q, C1⟩ w7 hI next
    obtain ⟨hq, hF, hT, hk, hr⟩ := hI
    try simp only at hq hF hT hk hr
    have next1 := next
    clear next
    show Run _ _ _ _ [(4, vk), (5, vr), (6, .int .i64 ((64 : Int) ^ q)), (29, .int .i64 rs.length), (30, .int .i64 q)] _ _
    have hpq := hp64 q (by omega)
    refine run_seq (x := F4.c24) (y := F4.c25) (by kernel_rfl) ?_
    refine run_plain (id := 8) (ops := F4.o8) [(0, true)] (by kernel_rfl) (by kernel_rfl) ?_
    refine yS (by kernel_rfl : opAt F4.o8 0 = some (some 31, .binOp .lss 3 (.tmp 30) (.tmp 29) 3, none)) rfl rfl (fun w' hS => val_lss rfl rfl) ?_
    refine Sch.nil ?_
    refine run_seq (x := F4.c26) (y := F4.c29) (by kernel_rfl) ?_
    refine run_if (x := F4.c27) (y := F4.c28) (o := .tmp 31) (by kernel_rfl) rfl (fun h31 => ?_) (fun h31 => ?_)
    · skip
      refine run_skip (by kernel_rfl) ?_
      refine run_seq (x := F4.c30) (y := F4.c32) (by kernel_rfl) ?_
      refine run_block (x := F4.c31) (id := 1) (by kernel_rfl) ?_
      refine run_plain (id := 9) (ops := F4.o9) [(0, true), (1, true), (2, true)] (by kernel_rfl) (by kernel_rfl) ?_
      refine yS (by kernel_rfl : opAt F4.o9 0 = some (some 32, .move (.tmp 6), none)) rfl rfl (fun w' hS => val_move rfl) ?_
      refine yS (by kernel_rfl : opAt F4.o9 1 = some (some 33, .binOp .mul 3 (.tmp 32) (.const (.int .i64 64)) 3, none)) rfl rfl (fun w' hS => val_muli rfl rfl (by omega) (by omega)) ?_
      refine yS (by kernel_rfl : opAt F4.o9 2 = some (some 6, .assign (.tmp 33), none)) rfl rfl (fun w' hS => val_assign rfl) ?_
      refine Sch.nil ?_
      refine run_inBlock ?_
      refine run_plain (id := 10) (ops := F4.o10) [(0, true), (1, true)] (by kernel_rfl) (by kernel_rfl) ?_
      refine yS (by kernel_rfl : opAt F4.o10 0 = some (some 34, .binOp .add 3 (.tmp 30) (.const (.int .i64 1)) 3, none)) rfl rfl (fun w' hS => val_addi rfl rfl (by omega) (by omega)) ?_
      refine yS (by kernel_rfl : opAt F4.o10 1 = some (some 30, .move (.tmp 34), none)) rfl rfl (fun w' hS => val_move rfl) ?_
      refine Sch.nil ?_
      refine kp (sub_cons 4 rfl rfl (sub_cons 5 rfl rfl (sub_cons 6 rfl (eq_int (by simp only; rw [Int.pow_succ])) (sub_cons 29 rfl rfl (sub_cons 30 rfl (eq_int (by simp)) (sub_nil _)))))) (next1 (q + 1, C1) _ ⟨(by first | omega | (simp only; omega)), hF, hT, hk, hr⟩ (by first | omega | (simp only; omega)))
    · skip
      obtain rfl : q = rs.length := by omega
      refine run_exit (id := 0) (by kernel_rfl) rfl ?_
      refine run_seq (x := F4.c34) (y := F4.c81) (by kernel_rfl) ?_
      refine run_seq (x := F4.c35) (y := F4.c36) (by kernel_rfl) ?_
      refine run_plain (id := 11) (ops := F4.o11) [(0, true)] (by kernel_rfl) (by kernel_rfl) ?_
      refine yS (by kernel_rfl : opAt F4.o11 0 = some (some 7, .assign (.const (.int .i64 0)), none)) rfl rfl (fun w' hS => val_assign rfl) ?_
      refine Sch.nil ?_
      refine run_block (x := F4.c37) (id := 2) (by kernel_rfl) ?_
      
      refine run_loop (ι := Nat × (Nat → Nat)) (I := fun x w => x.1 ≤ z ∧ Lim w x.2 ∧ Stp [2, 3, 4, 5, 6, 7, 8, 9] w₀ (col1 C) w x.2 ∧ RV w (Mc x.2) ks vk ∧ RV w (Mc x.2) rs vr) (e := fun x => [(4, vk), (5, vr), (6, .int .i64 ((64 : Int) ^ rs.length)), (7, .int .i64 x.1)]) (m := fun x => z - x.1) (x₀ := (0, C1)) (body := F4.c38) (by kernel_rfl) (sub_cons 4 rfl rfl (sub_cons 5 rfl rfl (sub_cons 6 rfl rfl (sub_cons 7 rfl rfl (sub_nil _))))) ?_ ?_
      · exact ⟨Nat.zero_le _, hF, hT, hk, hr⟩
      intro ⟨m, C1⟩ w8 hI next
      obtain ⟨hm, hF, hT, hk, hr⟩ := hI
      try simp only at hm hF hT hk hr
      have next2 := next
      clear next
      show Run _ _ _ _ [(4, vk), (5, vr), (6, .int .i64 ((64 : Int) ^ rs.length)), (7, .int .i64 m)] _ _
      refine run_seq (x := F4.c39) (y := F4.c44) (by kernel_rfl) ?_
      refine run_seq (x := F4.c40) (y := F4.c41) (by kernel_rfl) ?_
      refine run_plain (id := 12) (ops := F4.o12) [(0, true), (1, true), (2, true), (3, true), (4, true)] (by kernel_rfl) (by kernel_rfl) ?_
      refine yS (by kernel_rfl : opAt F4.o12 0 = some (some 35, .move (.tmp 7), none)) rfl rfl (fun w' hS => val_move rfl) ?_
      refine yS (by kernel_rfl : opAt F4.o12 1 = some (some 36, .move (.tmp 4), none)) rfl rfl (fun w' hS => val_move rfl) ?_
      refine yS (by kernel_rfl : opAt F4.o12 2 = some (some 37, .call { callee := .builtin .len, args := #[(.tmp 36)], argTypes := #[23] }, none)) rfl rfl (fun w' hS => hk.lenV rfl Try.underlying23 w' ) ?_
      refine yS (by kernel_rfl : opAt F4.o12 3 = some (some 38, .binOp .shl 3 (.const (.int .i64 1)) (.tmp 37) 3, none)) rfl rfl (fun w' hS => val_shlE (r := (z : Int)) rfl rfl (by omega) (by rw [hz2]; exact shl1N (by omega))) ?_
      refine yS (by kernel_rfl : opAt F4.o12 4 = some (some 39, .binOp .lss 3 (.tmp 35) (.tmp 38) 3, none)) rfl rfl (fun w' hS => val_lss rfl rfl) ?_
      refine Sch.nil ?_
      refine run_if (x := F4.c42) (y := F4.c43) (o := .tmp 39) (by kernel_rfl) rfl (fun h39 => ?_) (fun h39 => ?_)
      · skip
        have hmz : m < z := by omega
        have hx1 := missS_nonneg (sets := setsS ks) (mask := m) hro
        have hx2 := missS_le (sets := setsS ks) (mask := m) hro
        have hx0 : m = 0 → missS (setsS ks) rs m = 64 ^ rs.length := fun e => by rw [e]; exact missS_zero _ _
        refine run_skip (by kernel_rfl) ?_
        refine run_seq (x := F4.c45) (y := F4.c80) (by kernel_rfl) ?_
        refine run_block (x := F4.c46) (id := 3) (by kernel_rfl) ?_
        refine run_seq (x := F4.c47) (y := F4.c48) (by kernel_rfl) ?_
        refine run_plain (id := 14) (ops := F4.o14) [(0, true), (1, true), (2, true), (3, false), (4, true), (5, true), (6, true), (7, true), (8, true)] (by kernel_rfl) (by kernel_rfl) ?_
        refine yS (by kernel_rfl : opAt F4.o14 0 = some (some 43, .move (.tmp 4), none)) rfl rfl (fun w' hS => val_move rfl) ?_
        refine yS (by kernel_rfl : opAt F4.o14 1 = some (some 44, .move (.tmp 5), none)) rfl rfl (fun w' hS => val_move rfl) ?_
        refine yS (by kernel_rfl : opAt F4.o14 2 = some (some 45, .move (.tmp 7), none)) rfl rfl (fun w' hS => val_move rfl) ?_
        refine cS (by kernel_rfl : opAt F4.o14 3 = some (some 46, .call { callee := .value (.func 20), args := #[(.tmp 43), (.tmp 44), (.tmp 45)], argTypes := #[23, 22, 3] }, none)) rfl rfl (ent Try.call20 rfl) (missed_ok (mask := ((m : Nat) : Int)) hF hk hr hsm) ?_
        rintro vw9 w9 ⟨rfl, hs⟩
        refine ⟨trivial, ?_⟩
        replace hF := hF.st hs
        replace hT := hT.trans hs (by simp)
        replace hk := hk.st hs (by first | decide | (simp <;> omega))
        replace hr := hr.st hs (by first | decide | (simp <;> omega))
        rw [missE_ok hz (by rw [← hz2]; omega)]
        refine yS (by kernel_rfl : opAt F4.o14 4 = some (some 42, .move (.tmp 46), none)) rfl rfl (fun w' hS => val_move rfl) ?_
        refine yS (by kernel_rfl : opAt F4.o14 5 = some (some 47, .extract (.tmp 42) 0, none)) rfl rfl (fun w' hS => val_extract rfl rfl) ?_
        refine yS (by kernel_rfl : opAt F4.o14 6 = some (some 48, .extract (.tmp 42) 1, none)) rfl rfl (fun w' hS => val_extract rfl rfl) ?_
        refine yS (by kernel_rfl : opAt F4.o14 7 = some (some 8, .assign (.tmp 47), none)) rfl rfl (fun w' hS => val_assign rfl) ?_
        refine yS (by kernel_rfl : opAt F4.o14 8 = some (some 9, .assign (.tmp 48), none)) rfl rfl (fun w' hS => val_assign rfl) ?_
        refine Sch.nil ?_
        refine run_seq (x := F4.c49) (y := F4.c56) (by kernel_rfl) ?_
        refine run_seq (x := F4.c50) (y := F4.c51) (by kernel_rfl) ?_
        refine run_cut 68 (false) (C1) ?_ ?_
        · intro hcut
          by_cases hA : (m : Int) = 0
          · skip
            refine run_plain (id := 15) (ops := F4.o15) [(0, true), (1, true), (2, true), (3, true), (4, true), (5, true), (6, true), (7, true), (8, true), (9, true), (10, true), (11, true), (12, true), (13, true), (14, true), (15, true), (16, true), (17, true), (18, true), (19, true)] (by kernel_rfl) (by kernel_rfl) ?_
            refine yS (by kernel_rfl : opAt F4.o15 0 = some (some 49, .move (.tmp 9), none)) rfl rfl (fun w' hS => val_move rfl) ?_
            refine yS (by kernel_rfl : opAt F4.o15 1 = some (some 50, .binOp .neq 37 (.tmp 49) (.const (.int .i64 0)) 37, none)) rfl rfl (fun w' hS => val_F (val_neq rfl rfl) (by decide)) ?_
            refine yS (by kernel_rfl : opAt F4.o15 2 = some (some 51, .move (.tmp 50), none)) rfl rfl (fun w' hS => val_move rfl) ?_
            refine yS (by kernel_rfl : opAt F4.o15 3 = some (some 52, .move (.tmp 8), (some (2, false)))) rfl rfl (fun w' hS => val_move rfl) ?_
            refine yS (by kernel_rfl : opAt F4.o15 4 = some (some 53, .binOp .lss 3 (.tmp 52) (.const (.int .i64 0)) 3, (some (2, false)))) rfl rfl (fun w' hS => val_F (val_lss rfl rfl) (by omega)) ?_
            refine yS (by kernel_rfl : opAt F4.o15 5 = some (some 54, .pick (.tmp 51) (.const (.bool true)) (.tmp 53), none)) rfl rfl (fun w' hS => val_pick_f rfl rfl) ?_
            refine yS (by kernel_rfl : opAt F4.o15 6 = some (some 55, .move (.tmp 54), none)) rfl rfl (fun w' hS => val_move rfl) ?_
            refine yS (by kernel_rfl : opAt F4.o15 7 = some (some 56, .move (.tmp 8), (some (6, false)))) rfl rfl (fun w' hS => val_move rfl) ?_
            refine yS (by kernel_rfl : opAt F4.o15 8 = some (some 57, .move (.tmp 6), (some (6, false)))) rfl rfl (fun w' hS => val_move rfl) ?_
            refine yS (by kernel_rfl : opAt F4.o15 9 = some (some 58, .binOp .gtr 3 (.tmp 56) (.tmp 57) 3, (some (6, false)))) rfl rfl (fun w' hS => val_F (val_gtr rfl rfl) (by omega)) ?_
            refine yS (by kernel_rfl : opAt F4.o15 10 = some (some 59, .pick (.tmp 55) (.const (.bool true)) (.tmp 58), none)) rfl rfl (fun w' hS => val_pick_f rfl rfl) ?_
            refine yS (by kernel_rfl : opAt F4.o15 11 = some (some 60, .move (.tmp 59), none)) rfl rfl (fun w' hS => val_move rfl) ?_
            refine yS (by kernel_rfl : opAt F4.o15 12 = some (some 61, .move (.tmp 7), (some (11, false)))) rfl rfl (fun w' hS => val_move rfl) ?_
            refine yS (by kernel_rfl : opAt F4.o15 13 = some (some 62, .binOp .eql 3 (.tmp 61) (.const (.int .i64 0)) 3, (some (11, false)))) rfl rfl (fun w' hS => val_T (val_eql rfl rfl) hA) ?_
            refine yS (by kernel_rfl : opAt F4.o15 14 = some (some 63, .move (.tmp 62), (some (11, false)))) rfl rfl (fun w' hS => val_move rfl) ?_
            refine yS (by kernel_rfl : opAt F4.o15 15 = some (some 64, .move (.tmp 8), (some (14, true)))) rfl rfl (fun w' hS => val_move rfl) ?_
            refine yS (by kernel_rfl : opAt F4.o15 16 = some (some 65, .move (.tmp 6), (some (14, true)))) rfl rfl (fun w' hS => val_move rfl) ?_
            refine yS (by kernel_rfl : opAt F4.o15 17 = some (some 66, .binOp .neq 3 (.tmp 64) (.tmp 65) 3, (some (14, true)))) rfl rfl (fun w' hS => val_F (val_neq rfl rfl) (fun e => e (hx0 (by omega)))) ?_
            refine yS (by kernel_rfl : opAt F4.o15 18 = some (some 67, .pick (.tmp 63) (.tmp 66) (.const (.bool false)), (some (11, false)))) rfl rfl (fun w' hS => val_pick_t rfl rfl) ?_
            refine yS (by kernel_rfl : opAt F4.o15 19 = some (some 68, .pick (.tmp 60) (.const (.bool true)) (.tmp 67), none)) rfl rfl (fun w' hS => val_pick_f rfl rfl) ?_
            exact Sch.nil (hcut _ _ _ (Stp.refl _ _ _) rfl (rfl) (sub_skip rfl (sub_skip rfl (sub_skip rfl (sub_skip rfl (sub_skip rfl (sub_skip rfl (sub_skip rfl (sub_skip rfl (sub_skip rfl (sub_skip rfl (sub_skip rfl (sub_skip rfl (sub_skip rfl (sub_skip rfl (sub_skip rfl (sub_skip rfl (sub_skip rfl (sub_skip rfl (sub_skip rfl (sub_skip rfl (Sub.refl _))))))))))))))))))))))
          · skip
            refine run_plain (id := 15) (ops := F4.o15) [(0, true), (1, true), (2, true), (3, true), (4, true), (5, true), (6, true), (7, true), (8, true), (9, true), (10, true), (11, true), (12, true), (13, true), (14, true), (15, true), (16, true), (17, true), (18, true), (19, true)] (by kernel_rfl) (by kernel_rfl) ?_
            refine yS (by kernel_rfl : opAt F4.o15 0 = some (some 49, .move (.tmp 9), none)) rfl rfl (fun w' hS => val_move rfl) ?_
            refine yS (by kernel_rfl : opAt F4.o15 1 = some (some 50, .binOp .neq 37 (.tmp 49) (.const (.int .i64 0)) 37, none)) rfl rfl (fun w' hS => val_F (val_neq rfl rfl) (by decide)) ?_
            refine yS (by kernel_rfl : opAt F4.o15 2 = some (some 51, .move (.tmp 50), none)) rfl rfl (fun w' hS => val_move rfl) ?_
            refine yS (by kernel_rfl : opAt F4.o15 3 = some (some 52, .move (.tmp 8), (some (2, false)))) rfl rfl (fun w' hS => val_move rfl) ?_
            refine yS (by kernel_rfl : opAt F4.o15 4 = some (some 53, .binOp .lss 3 (.tmp 52) (.const (.int .i64 0)) 3, (some (2, false)))) rfl rfl (fun w' hS => val_F (val_lss rfl rfl) (by omega)) ?_
            refine yS (by kernel_rfl : opAt F4.o15 5 = some (some 54, .pick (.tmp 51) (.const (.bool true)) (.tmp 53), none)) rfl rfl (fun w' hS => val_pick_f rfl rfl) ?_
            refine yS (by kernel_rfl : opAt F4.o15 6 = some (some 55, .move (.tmp 54), none)) rfl rfl (fun w' hS => val_move rfl) ?_
            refine yS (by kernel_rfl : opAt F4.o15 7 = some (some 56, .move (.tmp 8), (some (6, false)))) rfl rfl (fun w' hS => val_move rfl) ?_
            refine yS (by kernel_rfl : opAt F4.o15 8 = some (some 57, .move (.tmp 6), (some (6, false)))) rfl rfl (fun w' hS => val_move rfl) ?_
            refine yS (by kernel_rfl : opAt F4.o15 9 = some (some 58, .binOp .gtr 3 (.tmp 56) (.tmp 57) 3, (some (6, false)))) rfl rfl (fun w' hS => val_F (val_gtr rfl rfl) (by omega)) ?_
            refine yS (by kernel_rfl : opAt F4.o15 10 = some (some 59, .pick (.tmp 55) (.const (.bool true)) (.tmp 58), none)) rfl rfl (fun w' hS => val_pick_f rfl rfl) ?_
            refine yS (by kernel_rfl : opAt F4.o15 11 = some (some 60, .move (.tmp 59), none)) rfl rfl (fun w' hS => val_move rfl) ?_
            refine yS (by kernel_rfl : opAt F4.o15 12 = some (some 61, .move (.tmp 7), (some (11, false)))) rfl rfl (fun w' hS => val_move rfl) ?_
            refine yS (by kernel_rfl : opAt F4.o15 13 = some (some 62, .binOp .eql 3 (.tmp 61) (.const (.int .i64 0)) 3, (some (11, false)))) rfl rfl (fun w' hS => val_F (val_eql rfl rfl) hA) ?_
            refine yS (by kernel_rfl : opAt F4.o15 14 = some (some 63, .move (.tmp 62), (some (11, false)))) rfl rfl (fun w' hS => val_move rfl) ?_
            refine pS (by kernel_rfl : opAt F4.o15 15 = some (some 64, .move (.tmp 8), (some (14, true)))) rfl rfl ?_
            refine pS (by kernel_rfl : opAt F4.o15 16 = some (some 65, .move (.tmp 6), (some (14, true)))) rfl rfl ?_
            refine pS (by kernel_rfl : opAt F4.o15 17 = some (some 66, .binOp .neq 3 (.tmp 64) (.tmp 65) 3, (some (14, true)))) rfl rfl ?_
            refine yS (by kernel_rfl : opAt F4.o15 18 = some (some 67, .pick (.tmp 63) (.tmp 66) (.const (.bool false)), (some (11, false)))) rfl rfl (fun w' hS => val_pick_f rfl rfl) ?_
            refine yS (by kernel_rfl : opAt F4.o15 19 = some (some 68, .pick (.tmp 60) (.const (.bool true)) (.tmp 67), none)) rfl rfl (fun w' hS => val_pick_f rfl rfl) ?_
            exact Sch.nil (hcut _ _ _ (Stp.refl _ _ _) rfl (rfl) (sub_skip rfl (sub_skip rfl (sub_skip rfl (sub_skip rfl (sub_skip rfl (sub_skip rfl (sub_skip rfl (sub_skip rfl (sub_skip rfl (sub_skip rfl (sub_skip rfl (sub_skip rfl (sub_skip rfl (sub_skip rfl (sub_skip rfl (sub_skip rfl (sub_skip rfl (sub_skip rfl (sub_skip rfl (sub_skip rfl (Sub.refl _))))))))))))))))))))))
        intro w10 hs
        replace hF := hF.st hs
        replace hT := hT.trans hs (by simp)
        replace hk := hk.st hs (by first | decide | (simp <;> omega))
        replace hr := hr.st hs (by first | decide | (simp <;> omega))
        refine run_cond (x := F4.c52) (y := F4.c55) (o := .tmp 68) (b := false) (by kernel_rfl) rfl (fun h => by cases h) (fun _ => ?_)
        refine run_skip (by kernel_rfl) ?_
        refine run_seq (x := F4.c57) (y := F4.c58) (by kernel_rfl) ?_
        refine run_plain (id := 17) (ops := F4.o17) [(0, true), (1, true), (2, true)] (by kernel_rfl) (by kernel_rfl) ?_
        refine yS (by kernel_rfl : opAt F4.o17 0 = some (some 69, .move (.tmp 4), none)) rfl rfl (fun w' hS => val_move rfl) ?_
        refine yS (by kernel_rfl : opAt F4.o17 1 = some (some 70, .call { callee := .builtin .len, args := #[(.tmp 69)], argTypes := #[23] }, none)) rfl rfl (fun w' hS => hk.lenV rfl Try.underlying23 w' ) ?_
        refine yS (by kernel_rfl : opAt F4.o17 2 = some (some 71, .move (.const (.int .i64 0)), none)) rfl rfl (fun w' hS => val_move rfl) ?_
        refine Sch.nil ?_
        refine run_block (x := F4.c59) (id := 4) (by kernel_rfl) ?_
        
        refine run_loop (ι := Nat × (Nat → Nat)) (I := fun x w => x.1 ≤ ks.length ∧ Lim w x.2 ∧ Stp [2, 3, 4, 5, 6, 7, 8, 9] w₀ (col1 C) w x.2 ∧ RV w (Mc x.2) ks vk ∧ RV w (Mc x.2) rs vr) (e := fun x => [(4, vk), (5, vr), (6, .int .i64 ((64 : Int) ^ rs.length)), (7, .int .i64 m), (8, .int .i64 (missS (setsS ks) rs m)), (70, .int .i64 ks.length), (71, .int .i64 x.1)]) (m := fun x => ks.length - x.1) (x₀ := (0, C1)) (body := F4.c60) (by kernel_rfl) (sub_cons 4 rfl rfl (sub_cons 5 rfl rfl (sub_cons 6 rfl rfl (sub_cons 7 rfl rfl (sub_cons 8 rfl rfl (sub_cons 70 rfl rfl (sub_cons 71 rfl rfl (sub_nil _)))))))) ?_ ?_
        · exact ⟨Nat.zero_le _, hF, hT, hk, hr⟩
        intro ⟨q, C1⟩ w11 hI next
        obtain ⟨hq, hF, hT, hk, hr⟩ := hI
        try simp only at hq hF hT hk hr
        have next3 := next
        clear next
        show Run _ _ _ _ [(4, vk), (5, vr), (6, .int .i64 ((64 : Int) ^ rs.length)), (7, .int .i64 m), (8, .int .i64 (missS (setsS ks) rs m)), (70, .int .i64 ks.length), (71, .int .i64 q)] _ _
        refine run_seq (x := F4.c61) (y := F4.c62) (by kernel_rfl) ?_
        refine run_plain (id := 18) (ops := F4.o18) [(0, true)] (by kernel_rfl) (by kernel_rfl) ?_
        refine yS (by kernel_rfl : opAt F4.o18 0 = some (some 72, .binOp .lss 3 (.tmp 71) (.tmp 70) 3, none)) rfl rfl (fun w' hS => val_lss rfl rfl) ?_
        refine Sch.nil ?_
        refine run_seq (x := F4.c63) (y := F4.c66) (by kernel_rfl) ?_
        refine run_if (x := F4.c64) (y := F4.c65) (o := .tmp 72) (by kernel_rfl) rfl (fun h72 => ?_) (fun h72 => ?_)
        · skip
          have hql : q < ks.length := by omega
          obtain ⟨pw, hpw⟩ : ∃ pw : Nat, pw = 2 ^ q := ⟨_, rfl⟩
          have hpz : pw < z := by rw [hpw, hz2]; exact Nat.pow_lt_pow_right (by decide) hql
          have hmo : m ||| pw < z := by rw [hz2]; exact Nat.or_lt_two_pow (by rw [← hz2]; exact hmz) (by rw [← hz2]; exact hpz)
          have hgr := missS_grow (sets := setsS ks) (mask := m) (b := pw) hro
          refine run_skip (by kernel_rfl) ?_
          refine run_seq (x := F4.c67) (y := F4.c79) (by kernel_rfl) ?_
          refine run_block (x := F4.c68) (id := 5) (by kernel_rfl) ?_
          refine run_seq (x := F4.c69) (y := F4.c70) (by kernel_rfl) ?_
          refine run_plain (id := 19) (ops := F4.o19) [(0, true), (1, true)] (by kernel_rfl) (by kernel_rfl) ?_
          refine yS (by kernel_rfl : opAt F4.o19 0 = some (some 73, .move (.tmp 71), none)) rfl rfl (fun w' hS => val_move rfl) ?_
          refine yS (by kernel_rfl : opAt F4.o19 1 = some (some 10, .assign (.tmp 73), none)) rfl rfl (fun w' hS => val_assign rfl) ?_
          refine Sch.nil ?_
          refine run_seq (x := F4.c71) (y := F4.c72) (by kernel_rfl) ?_
          refine run_plain (id := 20) (ops := F4.o20) [(0, true), (1, true), (2, true), (3, true), (4, true), (5, true), (6, false), (7, true), (8, true), (9, true), (10, true), (11, true)] (by kernel_rfl) (by kernel_rfl) ?_
          refine yS (by kernel_rfl : opAt F4.o20 0 = some (some 75, .move (.tmp 4), none)) rfl rfl (fun w' hS => val_move rfl) ?_
          refine yS (by kernel_rfl : opAt F4.o20 1 = some (some 76, .move (.tmp 5), none)) rfl rfl (fun w' hS => val_move rfl) ?_
          refine yS (by kernel_rfl : opAt F4.o20 2 = some (some 77, .move (.tmp 7), none)) rfl rfl (fun w' hS => val_move rfl) ?_
          refine yS (by kernel_rfl : opAt F4.o20 3 = some (some 78, .move (.tmp 10), none)) rfl rfl (fun w' hS => val_move rfl) ?_
          refine yS (by kernel_rfl : opAt F4.o20 4 = some (some 79, .binOp .shl 3 (.const (.int .i64 1)) (.tmp 78) 3, none)) rfl rfl (fun w' hS => val_shlE (r := (pw : Int)) rfl rfl (by omega) (by rw [hpw]; exact shl1N (by omega))) ?_
          refine yS (by kernel_rfl : opAt F4.o20 5 = some (some 80, .binOp .or 3 (.tmp 77) (.tmp 79) 3, none)) rfl rfl (fun w' hS => val_orE (r := ((m ||| pw : Nat) : Int)) rfl rfl (bits_or (by omega) (by omega))) ?_
          refine cS (by kernel_rfl : opAt F4.o20 6 = some (some 81, .call { callee := .value (.func 20), args := #[(.tmp 75), (.tmp 76), (.tmp 80)], argTypes := #[23, 22, 3] }, none)) rfl rfl (ent Try.call20 rfl) (missed_ok (mask := ((m ||| pw : Nat) : Int)) hF hk hr hsm) ?_
          rintro vw12 w12 ⟨rfl, hs⟩
          refine ⟨trivial, ?_⟩
          replace hF := hF.st hs
          replace hT := hT.trans hs (by simp)
          replace hk := hk.st hs (by first | decide | (simp <;> omega))
          replace hr := hr.st hs (by first | decide | (simp <;> omega))
          rw [missE_ok hz (by rw [← hz2]; omega)]
          refine yS (by kernel_rfl : opAt F4.o20 7 = some (some 74, .move (.tmp 81), none)) rfl rfl (fun w' hS => val_move rfl) ?_
          refine yS (by kernel_rfl : opAt F4.o20 8 = some (some 82, .extract (.tmp 74) 0, none)) rfl rfl (fun w' hS => val_extract rfl rfl) ?_
          refine yS (by kernel_rfl : opAt F4.o20 9 = some (some 83, .extract (.tmp 74) 1, none)) rfl rfl (fun w' hS => val_extract rfl rfl) ?_
          refine yS (by kernel_rfl : opAt F4.o20 10 = some (some 11, .assign (.tmp 82), none)) rfl rfl (fun w' hS => val_assign rfl) ?_
          refine yS (by kernel_rfl : opAt F4.o20 11 = some (some 12, .assign (.tmp 83), none)) rfl rfl (fun w' hS => val_assign rfl) ?_
          refine Sch.nil ?_
          refine run_seq (x := F4.c73) (y := F4.c74) (by kernel_rfl) ?_
          refine run_plain (id := 21) (ops := F4.o21) [(0, true), (1, true), (2, true), (3, true), (4, true), (5, true), (6, true)] (by kernel_rfl) (by kernel_rfl) ?_
          refine yS (by kernel_rfl : opAt F4.o21 0 = some (some 84, .move (.tmp 12), none)) rfl rfl (fun w' hS => val_move rfl) ?_
          refine yS (by kernel_rfl : opAt F4.o21 1 = some (some 85, .binOp .neq 37 (.tmp 84) (.const (.int .i64 0)) 37, none)) rfl rfl (fun w' hS => val_F (val_neq rfl rfl) (by decide)) ?_
          refine yS (by kernel_rfl : opAt F4.o21 2 = some (some 86, .move (.tmp 85), none)) rfl rfl (fun w' hS => val_move rfl) ?_
          refine yS (by kernel_rfl : opAt F4.o21 3 = some (some 87, .move (.tmp 11), (some (2, false)))) rfl rfl (fun w' hS => val_move rfl) ?_
          refine yS (by kernel_rfl : opAt F4.o21 4 = some (some 88, .move (.tmp 8), (some (2, false)))) rfl rfl (fun w' hS => val_move rfl) ?_
          refine yS (by kernel_rfl : opAt F4.o21 5 = some (some 89, .binOp .gtr 3 (.tmp 87) (.tmp 88) 3, (some (2, false)))) rfl rfl (fun w' hS => val_F (val_gtr rfl rfl) (by omega)) ?_
          refine yS (by kernel_rfl : opAt F4.o21 6 = some (some 90, .pick (.tmp 86) (.const (.bool true)) (.tmp 89), none)) rfl rfl (fun w' hS => val_pick_f rfl rfl) ?_
          refine Sch.nil ?_
          refine run_cond (x := F4.c75) (y := F4.c78) (o := .tmp 90) (b := false) (by kernel_rfl) rfl (fun h => by cases h) (fun _ => ?_)
          refine run_skip (by kernel_rfl) ?_
          refine run_inBlock ?_
          refine run_plain (id := 23) (ops := F4.o23) [(0, true), (1, true)] (by kernel_rfl) (by kernel_rfl) ?_
          refine yS (by kernel_rfl : opAt F4.o23 0 = some (some 91, .binOp .add 3 (.tmp 71) (.const (.int .i64 1)) 3, none)) rfl rfl (fun w' hS => val_addi rfl rfl (by omega) (by omega)) ?_
          refine yS (by kernel_rfl : opAt F4.o23 1 = some (some 71, .move (.tmp 91), none)) rfl rfl (fun w' hS => val_move rfl) ?_
          refine Sch.nil ?_
          refine kp (sub_cons 4 rfl rfl (sub_cons 5 rfl rfl (sub_cons 6 rfl rfl (sub_cons 7 rfl rfl (sub_cons 8 rfl rfl (sub_cons 70 rfl rfl (sub_cons 71 rfl (eq_int (by simp)) (sub_nil _)))))))) (next3 (q + 1, C1) _ ⟨(by first | omega | (simp only; omega)), hF, hT, hk, hr⟩ (by first | omega | (simp only; omega)))
        · skip
          refine run_exit (id := 4) (by kernel_rfl) rfl ?_
          refine run_inBlock ?_
          refine run_plain (id := 13) (ops := F4.o13) [(0, true), (1, true), (2, true)] (by kernel_rfl) (by kernel_rfl) ?_
          refine yS (by kernel_rfl : opAt F4.o13 0 = some (some 40, .move (.tmp 7), none)) rfl rfl (fun w' hS => val_move rfl) ?_
          refine yS (by kernel_rfl : opAt F4.o13 1 = some (some 41, .binOp .add 3 (.tmp 40) (.const (.int .i64 1)) 3, none)) rfl rfl (fun w' hS => val_addi rfl rfl (by omega) (by omega)) ?_
          refine yS (by kernel_rfl : opAt F4.o13 2 = some (some 7, .assign (.tmp 41), none)) rfl rfl (fun w' hS => val_assign rfl) ?_
          refine Sch.nil ?_
          refine kp (sub_cons 4 rfl rfl (sub_cons 5 rfl rfl (sub_cons 6 rfl rfl (sub_cons 7 rfl (eq_int (by simp)) (sub_nil _))))) (next2 (m + 1, C1) _ ⟨(by first | omega | (simp only; omega)), hF, hT, hk, hr⟩ (by first | omega | (simp only; omega)))
      · skip
        refine run_exit (id := 2) (by kernel_rfl) rfl ?_
        refine run_seq (x := F4.c82) (y := F4.c83) (by kernel_rfl) ?_
        refine run_plain (id := 24) (ops := F4.o24) [(0, true)] (by kernel_rfl) (by kernel_rfl) ?_
        refine yS (by kernel_rfl : opAt F4.o24 0 = some (some 2, .assign (.const (.bool true)), none)) rfl rfl (fun w' hS => val_assign rfl) ?_
        refine Sch.nil ?_
        refine run_ret1 (by kernel_rfl) Try.func4 Try.results4 rfl ?_
        exact ⟨rfl, hT.out1 (by decide)⟩
namespace F4B
noncomputable def c0 : Code := bodyOf Try.f4
noncomputable def c1 : Code := cl c0
noncomputable def o0 : Array Oper := rops c1
noncomputable def c2 : Code := cr c0
noncomputable def c3 : Code := cl c2
noncomputable def c4 : Code := cl c3
noncomputable def o1 : Array Oper := rops c4
noncomputable def c5 : Code := cr c3
noncomputable def c6 : Code := cl c5
noncomputable def c7 : Code := cl c6
noncomputable def o2 : Array Oper := rops c7
noncomputable def c8 : Code := cr c6
noncomputable def c9 : Code := cr c5
noncomputable def c10 : Code := cr c2
noncomputable def c11 : Code := cl c10
noncomputable def o3 : Array Oper := rops c11
noncomputable def c12 : Code := cr c10
noncomputable def c13 : Code := cl c12
noncomputable def o4 : Array Oper := rops c13
noncomputable def c14 : Code := cr c12
noncomputable def c15 : Code := cl c14
noncomputable def o5 : Array Oper := rops c15
noncomputable def c16 : Code := cr c14
noncomputable def c17 : Code := cl c16
noncomputable def o6 : Array Oper := rops c17
noncomputable def c18 : Code := cr c16
noncomputable def c19 : Code := cl c18
noncomputable def c20 : Code := cl c19
noncomputable def o7 : Array Oper := rops c20
noncomputable def c21 : Code := cr c19
noncomputable def c22 : Code := cl c21
noncomputable def c23 : Code := cl c22
noncomputable def c24 : Code := cl c23
noncomputable def o8 : Array Oper := rops c24
noncomputable def c25 : Code := cr c23
noncomputable def c26 : Code := cl c25
noncomputable def c27 : Code := cl c26
noncomputable def c28 : Code := cr c26
noncomputable def c29 : Code := cr c25
noncomputable def c30 : Code := cl c29
noncomputable def c31 : Code := cl c30
noncomputable def o9 : Array Oper := rops c31
noncomputable def c32 : Code := cr c29
noncomputable def o10 : Array Oper := rops c32
noncomputable def c33 : Code := cr c18
noncomputable def c34 : Code := cl c33
noncomputable def c35 : Code := cl c34
noncomputable def o11 : Array Oper := rops c35
noncomputable def c36 : Code := cr c34
noncomputable def c37 : Code := cl c36
noncomputable def c38 : Code := cl c37
noncomputable def c39 : Code := cl c38
noncomputable def c40 : Code := cl c39
noncomputable def o12 : Array Oper := rops c40
noncomputable def c41 : Code := cr c39
noncomputable def c42 : Code := cl c41
noncomputable def c43 : Code := cr c41
noncomputable def c44 : Code := cr c38
noncomputable def c45 : Code := cl c44
noncomputable def c46 : Code := cl c45
noncomputable def c47 : Code := cl c46
noncomputable def o14 : Array Oper := rops c47
noncomputable def c48 : Code := cr c46
noncomputable def c49 : Code := cl c48
noncomputable def c50 : Code := cl c49
noncomputable def o15 : Array Oper := rops c50
noncomputable def c51 : Code := cr c49
noncomputable def c52 : Code := cl c51
noncomputable def c53 : Code := cl c52
noncomputable def o16 : Array Oper := rops c53
noncomputable def c54 : Code := cr c52
noncomputable def c55 : Code := cr c51
noncomputable def c56 : Code := cr c48
noncomputable def c57 : Code := cl c56
noncomputable def o17 : Array Oper := rops c57
noncomputable def c58 : Code := cr c56
noncomputable def c59 : Code := cl c58
noncomputable def c60 : Code := cl c59
noncomputable def c61 : Code := cl c60
noncomputable def o18 : Array Oper := rops c61
noncomputable def c62 : Code := cr c60
noncomputable def c63 : Code := cl c62
noncomputable def c64 : Code := cl c63
noncomputable def c65 : Code := cr c63
noncomputable def c66 : Code := cr c62
noncomputable def c67 : Code := cl c66
noncomputable def c68 : Code := cl c67
noncomputable def c69 : Code := cl c68
noncomputable def o19 : Array Oper := rops c69
noncomputable def c70 : Code := cr c68
noncomputable def c71 : Code := cl c70
noncomputable def o20 : Array Oper := rops c71
noncomputable def c72 : Code := cr c70
noncomputable def c73 : Code := cl c72
noncomputable def o21 : Array Oper := rops c73
noncomputable def c74 : Code := cr c72
noncomputable def c75 : Code := cl c74
noncomputable def c76 : Code := cl c75
noncomputable def o22 : Array Oper := rops c76
noncomputable def c77 : Code := cr c75
noncomputable def c78 : Code := cr c74
noncomputable def c79 : Code := cr c66
noncomputable def o23 : Array Oper := rops c79
noncomputable def c80 : Code := cr c44
noncomputable def o13 : Array Oper := rops c80
noncomputable def c81 : Code := cr c33
noncomputable def c82 : Code := cl c81
noncomputable def o24 : Array Oper := rops c82
noncomputable def c83 : Code := cr c81
end F4B
/-- .. where more is handed than it looks at. -/
theorem plannerGrows_big {w₀ : World} {C : Nat → Nat} {p : Option Addr} {n c : Nat} (hF : Lim w₀ C) (hn : 400 < n) : Calls Try.prog 4 #[.slice p n c] w₀ (Ret fun v w' => v = .bool true ∧ Stp [] w₀ C w' C) := by
  have hF0 := hF
  have hT := Stp.refl [2, 3, 4, 5, 6, 7, 8, 9] w₀ (col1 C)
  replace hF := hF.col1
  refine calls_start (c := F4B.c0) (N := 92) [.slice p n c] Try.func4 (by kernel_rfl) (by kernel_rfl) (by kernel_rfl) ?_
  show Run _ _ _ _ [(0, .slice p n c)] _ _
  refine run_seq (x := F4B.c1) (y := F4B.c2) (by kernel_rfl) ?_
  refine run_plain (id := 0) (ops := F4B.o0) [(0, true)] (by kernel_rfl) (by kernel_rfl) ?_
  refine yS (by kernel_rfl : opAt F4B.o0 0 = some (some 2, .assign (.const (.bool false)), none)) rfl rfl (fun w' hS => val_assign rfl) ?_
  refine Sch.nil ?_
  refine run_seq (x := F4B.c3) (y := F4B.c10) (by kernel_rfl) ?_
  refine run_seq (x := F4B.c4) (y := F4B.c5) (by kernel_rfl) ?_
  refine run_plain (id := 1) (ops := F4B.o1) [(0, false), (1, true), (2, true), (3, true), (4, false), (5, true), (6, true)] (by kernel_rfl) (by kernel_rfl) ?_
  refine cS (by kernel_rfl : opAt F4B.o1 0 = some (some 13, .call { callee := .value (.func 9), args := #[], argTypes := #[] }, none)) rfl rfl (ent Try.call9 rfl) (awake_ok hF) ?_
  rintro vw1 w1 ⟨rfl, hs⟩
  refine ⟨trivial, ?_⟩
  replace hF := hF.st hs
  replace hT := hT.trans hs (by simp)
  refine yS (by kernel_rfl : opAt F4B.o1 1 = some (some 14, .unOp .not 4 (.tmp 13), none)) rfl rfl (fun w' hS => val_not rfl) ?_
  refine yS (by kernel_rfl : opAt F4B.o1 2 = some (some 15, .move (.tmp 14), none)) rfl rfl (fun w' hS => val_move rfl) ?_
  refine yS (by kernel_rfl : opAt F4B.o1 3 = some (some 16, .move (.tmp 0), (some (2, false)))) rfl rfl (fun w' hS => val_move rfl) ?_
  refine cS (by kernel_rfl : opAt F4B.o1 4 = some (some 17, .call { callee := .value (.func 10), args := #[(.tmp 16)], argTypes := #[22] }, (some (2, false)))) rfl rfl (ent Try.call10 rfl) (few_ok _ _ _ _) ?_
  rintro vw2 w2 ⟨rfl, rfl⟩
  refine ⟨trivial, ?_⟩
  rw [decide_eq_false (show ¬ (n : Int) ≤ 400 by omega)]
  refine yS (by kernel_rfl : opAt F4B.o1 5 = some (some 18, .unOp .not 4 (.tmp 17), (some (2, false)))) rfl rfl (fun w' hS => val_not rfl) ?_
  refine yS (by kernel_rfl : opAt F4B.o1 6 = some (some 19, .pick (.tmp 15) (.const (.bool true)) (.tmp 18), none)) rfl rfl (fun w' hS => val_pick_f rfl rfl) ?_
  refine Sch.nil ?_
  refine run_cond (x := F4B.c6) (y := F4B.c9) (o := .tmp 19) (b := true) (by kernel_rfl) rfl (fun _ => ?_) (fun h => by cases h)
  refine run_seq (x := F4B.c7) (y := F4B.c8) (by kernel_rfl) ?_
  refine run_plain (id := 2) (ops := F4B.o2) [(0, false), (1, true)] (by kernel_rfl) (by kernel_rfl) ?_
  refine cS (by kernel_rfl : opAt F4B.o2 0 = some (some 20, .call { callee := .value (.func 9), args := #[], argTypes := #[] }, none)) rfl rfl (ent Try.call9 rfl) (awake_ok hF) ?_
  rintro vw3 w3 ⟨rfl, hs⟩
  refine ⟨trivial, ?_⟩
  replace hF := hF.st hs
  replace hT := hT.trans hs (by simp)
  refine yS (by kernel_rfl : opAt F4B.o2 1 = some (some 2, .assign (.tmp 20), none)) rfl rfl (fun w' hS => val_assign rfl) ?_
  refine Sch.nil ?_
  refine run_ret1 (by kernel_rfl) Try.func4 Try.results4 rfl ?_
  exact ⟨rfl, hT.out1 (by decide)⟩
end Go.Proofs.Ytpmokjccfaakfaa

