/- Steps through functions of the program. -/
import Derived.Test.YtpmokjccfaakfaaKQE
import Derived.Test.YtpmokjccfaakfaaKPlan4
set_option linter.unusedVariables false
set_option linter.unusedSimpArgs false
set_option maxRecDepth 100000
set_option maxHeartbeats 400000
namespace Go.Proofs.Ytpmokjccfaakfaa
open Go.K Go.K.Rep

namespace F18
noncomputable def c0 : Code := bodyOf Try.f18
noncomputable def c1 : Code := cl c0
noncomputable def o0 : Array Oper := rops c1
noncomputable def c2 : Code := cr c0
noncomputable def c3 : Code := cl c2
noncomputable def c4 : Code := cl c3
noncomputable def o1 : Array Oper := rops c4
noncomputable def c5 : Code := cr c3
noncomputable def c6 : Code := cl c5
noncomputable def c7 : Code := cl c6
noncomputable def o2 : Array Oper := rops c7
noncomputable def c8 : Code := cr c6
noncomputable def c9 : Code := cr c5
noncomputable def c10 : Code := cr c2
noncomputable def c11 : Code := cl c10
noncomputable def o3 : Array Oper := rops c11
noncomputable def c12 : Code := cr c10
noncomputable def c13 : Code := cl c12
noncomputable def c14 : Code := cl c13
noncomputable def o4 : Array Oper := rops c14
noncomputable def c15 : Code := cr c13
noncomputable def c16 : Code := cl c15
noncomputable def c17 : Code := cl c16
noncomputable def o5 : Array Oper := rops c17
noncomputable def c18 : Code := cr c16
noncomputable def c19 : Code := cr c15
noncomputable def c20 : Code := cr c12
noncomputable def c21 : Code := cl c20
noncomputable def c22 : Code := cl c21
noncomputable def o6 : Array Oper := rops c22
noncomputable def c23 : Code := cr c21
noncomputable def c24 : Code := cl c23
noncomputable def c25 : Code := cl c24
noncomputable def o7 : Array Oper := rops c25
noncomputable def c26 : Code := cr c24
noncomputable def c27 : Code := cr c23
noncomputable def c28 : Code := cr c20
noncomputable def c29 : Code := cl c28
noncomputable def c30 : Code := cl c29
noncomputable def o8 : Array Oper := rops c30
noncomputable def c31 : Code := cr c29
noncomputable def c32 : Code := cl c31
noncomputable def c33 : Code := cl c32
noncomputable def c34 : Code := cl c33
noncomputable def c35 : Code := cl c34
noncomputable def o9 : Array Oper := rops c35
noncomputable def c36 : Code := cr c34
noncomputable def c37 : Code := cl c36
noncomputable def c38 : Code := cr c36
noncomputable def c39 : Code := cr c33
noncomputable def c40 : Code := cl c39
noncomputable def c41 : Code := cl c40
noncomputable def c42 : Code := cl c41
noncomputable def o11 : Array Oper := rops c42
noncomputable def c43 : Code := cr c41
noncomputable def c44 : Code := cl c43
noncomputable def c45 : Code := cl c44
noncomputable def o12 : Array Oper := rops c45
noncomputable def c46 : Code := cr c44
noncomputable def c47 : Code := cr c43
noncomputable def c48 : Code := cr c39
noncomputable def o10 : Array Oper := rops c48
noncomputable def c49 : Code := cr c28
noncomputable def c50 : Code := cl c49
noncomputable def o13 : Array Oper := rops c50
noncomputable def c51 : Code := cr c49
end F18
/-- The document's 'Check'. -/
theorem refCheck_ok {w₀ : World} {C : Nat → Nat} {ks : List Key} {rs : List Int} {vk vr : Value} (hF : Lim w₀ C) (hk : RV w₀ (Mc C) ks vk) (hr : RV w₀ (Mc C) rs vr) (hs0 : KeysSm ks) : Calls Try.prog 18 #[vk, vr] w₀ (Ret fun v w' => v = .int .i64 (checkP ks rs) ∧ Stp [] w₀ C w' C) := by
  have hF0 := hF
  have hT := Stp.refl [2, 3, 4, 5, 6, 7, 8, 9] w₀ (col1 C)
  replace hF := hF.col1
  replace hk : RV w₀ (Mc (col1 C)) ks vk := by rw [Mc_col1]; exact hk
  replace hr : RV w₀ (Mc (col1 C)) rs vr := by rw [Mc_col1]; exact hr
  refine calls_start (c := F18.c0) (N := 36) [vk, vr] Try.func18 (by kernel_rfl) (by kernel_rfl) (by kernel_rfl) ?_
  show Run _ _ _ _ [(0, vk), (1, vr)] _ _
  refine run_seq (x := F18.c1) (y := F18.c2) (by kernel_rfl) ?_
  refine run_plain (id := 0) (ops := F18.o0) [(0, true)] (by kernel_rfl) (by kernel_rfl) ?_
  refine yS (by kernel_rfl : opAt F18.o0 0 = some (some 4, .assign (.const (.int .i64 0)), none)) rfl rfl (fun w' hS => val_assign rfl) ?_
  refine Sch.nil ?_
  refine run_seq (x := F18.c3) (y := F18.c10) (by kernel_rfl) ?_
  refine run_seq (x := F18.c4) (y := F18.c5) (by kernel_rfl) ?_
  refine run_plain (id := 1) (ops := F18.o1) [(0, true), (1, true), (2, true)] (by kernel_rfl) (by kernel_rfl) ?_
  refine yS (by kernel_rfl : opAt F18.o1 0 = some (some 7, .move (.tmp 0), none)) rfl rfl (fun w' hS => val_move rfl) ?_
  refine yS (by kernel_rfl : opAt F18.o1 1 = some (some 8, .call { callee := .builtin .len, args := #[(.tmp 7)], argTypes := #[23] }, none)) rfl rfl (fun w' hS => hk.lenV rfl Try.underlying23 w' ) ?_
  refine yS (by kernel_rfl : opAt F18.o1 2 = some (some 9, .binOp .gtr 3 (.tmp 8) (.const (.int .i64 8)) 3, none)) rfl rfl (fun w' hS => val_gtr rfl rfl) ?_
  refine Sch.nil ?_
  refine run_if (x := F18.c6) (y := F18.c9) (o := .tmp 9) (by kernel_rfl) rfl (fun h9 => ?_) (fun h9 => ?_)
  · skip
    refine run_seq (x := F18.c7) (y := F18.c8) (by kernel_rfl) ?_
    refine run_plain (id := 2) (ops := F18.o2) [(0, true)] (by kernel_rfl) (by kernel_rfl) ?_
    refine yS (by kernel_rfl : opAt F18.o2 0 = some (some 4, .assign (.const (.int .i64 1)), none)) rfl rfl (fun w' hS => val_assign rfl) ?_
    refine Sch.nil ?_
    refine run_ret1 (by kernel_rfl) Try.func18 Try.results18 rfl ?_
    refine ⟨?_, hT.out1 (by decide)⟩
    unfold checkP
    rw [if_pos (by omega)]
  · skip
    refine run_skip (by kernel_rfl) ?_
    refine run_seq (x := F18.c11) (y := F18.c12) (by kernel_rfl) ?_
    refine run_plain (id := 3) (ops := F18.o3) [(0, true), (1, false), (2, true), (3, true)] (by kernel_rfl) (by kernel_rfl) ?_
    refine yS (by kernel_rfl : opAt F18.o3 0 = some (some 10, .move (.tmp 0), none)) rfl rfl (fun w' hS => val_move rfl) ?_
    refine cS (by kernel_rfl : opAt F18.o3 1 = some (some 11, .call { callee := .value (.func 15), args := #[(.tmp 10)], argTypes := #[23] }, none)) rfl rfl (ent Try.call15 rfl) (refAtoms_ok hF hk hs0) ?_
    rintro vw1 w1 ⟨hs, ha⟩
    refine ⟨trivial, ?_⟩
    replace hF := hF.st hs
    replace hT := hT.trans hs (by simp)
    replace hk := hk.st hs (by first | decide | (simp <;> omega))
    replace hr := hr.st hs (by first | decide | (simp <;> omega))
    have hal := atomsS_len hs0
    have hkl := hk.le
    have hrl := hr.le
    refine yS (by kernel_rfl : opAt F18.o3 2 = some (some 12, .call { callee := .builtin .len, args := #[(.tmp 11)], argTypes := #[26] }, none)) rfl rfl (fun w' hS => ha.lenV rfl Try.underlying26 w' ) ?_
    refine yS (by kernel_rfl : opAt F18.o3 3 = some (some 5, .assign (.tmp 12), none)) rfl rfl (fun w' hS => val_assign rfl) ?_
    refine Sch.nil ?_
    refine run_seq (x := F18.c13) (y := F18.c20) (by kernel_rfl) ?_
    refine run_seq (x := F18.c14) (y := F18.c15) (by kernel_rfl) ?_
    refine run_plain (id := 4) (ops := F18.o4) [(0, true), (1, true)] (by kernel_rfl) (by kernel_rfl) ?_
    refine yS (by kernel_rfl : opAt F18.o4 0 = some (some 13, .move (.tmp 5), none)) rfl rfl (fun w' hS => val_move rfl) ?_
    refine yS (by kernel_rfl : opAt F18.o4 1 = some (some 14, .binOp .gtr 3 (.tmp 13) (.const (.int .i64 10)) 3, none)) rfl rfl (fun w' hS => val_gtr rfl rfl) ?_
    refine Sch.nil ?_
    refine run_if (x := F18.c16) (y := F18.c19) (o := .tmp 14) (by kernel_rfl) rfl (fun h14 => ?_) (fun h14 => ?_)
    · skip
      refine run_seq (x := F18.c17) (y := F18.c18) (by kernel_rfl) ?_
      refine run_plain (id := 5) (ops := F18.o5) [(0, true)] (by kernel_rfl) (by kernel_rfl) ?_
      refine yS (by kernel_rfl : opAt F18.o5 0 = some (some 4, .assign (.const (.int .i64 1)), none)) rfl rfl (fun w' hS => val_assign rfl) ?_
      refine Sch.nil ?_
      refine run_ret1 (by kernel_rfl) Try.func18 Try.results18 rfl ?_
      refine ⟨?_, hT.out1 (by decide)⟩
      unfold checkP
      rw [if_pos (by omega)]
    · skip
      refine run_skip (by kernel_rfl) ?_
      refine run_seq (x := F18.c21) (y := F18.c28) (by kernel_rfl) ?_
      refine run_seq (x := F18.c22) (y := F18.c23) (by kernel_rfl) ?_
      refine run_plain (id := 6) (ops := F18.o6) [(0, true), (1, true), (2, true), (3, true)] (by kernel_rfl) (by kernel_rfl) ?_
      refine yS (by kernel_rfl : opAt F18.o6 0 = some (some 15, .move (.tmp 1), none)) rfl rfl (fun w' hS => val_move rfl) ?_
      refine yS (by kernel_rfl : opAt F18.o6 1 = some (some 16, .call { callee := .builtin .len, args := #[(.tmp 15)], argTypes := #[22] }, none)) rfl rfl (fun w' hS => hr.lenV rfl Try.underlying22 w' ) ?_
      refine yS (by kernel_rfl : opAt F18.o6 2 = some (some 17, .move (.tmp 5), none)) rfl rfl (fun w' hS => val_move rfl) ?_
      refine yS (by kernel_rfl : opAt F18.o6 3 = some (some 18, .binOp .neq 3 (.tmp 16) (.tmp 17) 3, none)) rfl rfl (fun w' hS => val_neq rfl rfl) ?_
      refine Sch.nil ?_
      refine run_if (x := F18.c24) (y := F18.c27) (o := .tmp 18) (by kernel_rfl) rfl (fun h18 => ?_) (fun h18 => ?_)
      · skip
        refine run_seq (x := F18.c25) (y := F18.c26) (by kernel_rfl) ?_
        refine run_plain (id := 7) (ops := F18.o7) [(0, true)] (by kernel_rfl) (by kernel_rfl) ?_
        refine yS (by kernel_rfl : opAt F18.o7 0 = some (some 4, .assign (.const (.int .i64 8)), none)) rfl rfl (fun w' hS => val_assign rfl) ?_
        refine Sch.nil ?_
        refine run_ret1 (by kernel_rfl) Try.func18 Try.results18 rfl ?_
        refine ⟨?_, hT.out1 (by decide)⟩
        unfold checkP
        rw [if_neg (by omega), if_pos (by omega)]
      · skip
        refine run_skip (by kernel_rfl) ?_
        refine run_seq (x := F18.c29) (y := F18.c49) (by kernel_rfl) ?_
        refine run_seq (x := F18.c30) (y := F18.c31) (by kernel_rfl) ?_
        refine run_plain (id := 8) (ops := F18.o8) [(0, true)] (by kernel_rfl) (by kernel_rfl) ?_
        refine yS (by kernel_rfl : opAt F18.o8 0 = some (some 6, .assign (.const (.int .i64 0)), none)) rfl rfl (fun w' hS => val_assign rfl) ?_
        refine Sch.nil ?_
        refine run_block (x := F18.c32) (id := 0) (by kernel_rfl) ?_
        
        refine run_loop (ι := Nat × (Nat → Nat)) (I := fun x w => x.1 ≤ rs.length ∧ (∀ p, p < x.1 → ∀ h : p < rs.length, badR rs[p] = false) ∧ Lim w x.2 ∧ Stp [2, 3, 4, 5, 6, 7, 8, 9] w₀ (col1 C) w x.2 ∧ RV w (Mc x.2) rs vr) (e := fun x => [(1, vr), (5, .int .i64 (atomsS ks).length), (6, .int .i64 x.1)]) (m := fun x => rs.length - x.1) (x₀ := (0, col1 C)) (body := F18.c33) (by kernel_rfl) (sub_cons 1 rfl rfl (sub_cons 5 rfl rfl (sub_cons 6 rfl rfl (sub_nil _)))) ?_ ?_
        · exact ⟨Nat.zero_le _, fun p hp => by simp at hp, hF, hT, hr⟩
        intro ⟨i, C1⟩ w2 hI next
        obtain ⟨hi, h0, hF, hT, hr⟩ := hI
        try simp only at hi h0 hF hT hr
        have next1 := next
        clear next
        show Run _ _ _ _ [(1, vr), (5, .int .i64 (atomsS ks).length), (6, .int .i64 i)] _ _
        refine run_seq (x := F18.c34) (y := F18.c39) (by kernel_rfl) ?_
        refine run_seq (x := F18.c35) (y := F18.c36) (by kernel_rfl) ?_
        refine run_plain (id := 9) (ops := F18.o9) [(0, true), (1, true), (2, true)] (by kernel_rfl) (by kernel_rfl) ?_
        refine yS (by kernel_rfl : opAt F18.o9 0 = some (some 19, .move (.tmp 6), none)) rfl rfl (fun w' hS => val_move rfl) ?_
        refine yS (by kernel_rfl : opAt F18.o9 1 = some (some 20, .move (.tmp 5), none)) rfl rfl (fun w' hS => val_move rfl) ?_
        refine yS (by kernel_rfl : opAt F18.o9 2 = some (some 21, .binOp .lss 3 (.tmp 19) (.tmp 20) 3, none)) rfl rfl (fun w' hS => val_lss rfl rfl) ?_
        refine Sch.nil ?_
        refine run_if (x := F18.c37) (y := F18.c38) (o := .tmp 21) (by kernel_rfl) rfl (fun h21 => ?_) (fun h21 => ?_)
        · skip
          have hil : i < rs.length := by omega
          refine run_skip (by kernel_rfl) ?_
          refine run_seq (x := F18.c40) (y := F18.c48) (by kernel_rfl) ?_
          refine run_block (x := F18.c41) (id := 1) (by kernel_rfl) ?_
          refine run_seq (x := F18.c42) (y := F18.c43) (by kernel_rfl) ?_
          refine run_cut 35 (badR rs[i]) (C1) ?_ ?_
          · intro hcut
            by_cases hA : rs[i] < 0
            · skip
              refine run_plain (id := 11) (ops := F18.o11) [(0, true), (1, true), (2, true), (3, false), (4, true), (5, true), (6, true), (7, true), (8, true), (9, false), (10, true), (11, true)] (by kernel_rfl) (by kernel_rfl) ?_
              refine yS (by kernel_rfl : opAt F18.o11 0 = some (some 24, .move (.tmp 1), none)) rfl rfl (fun w' hS => val_move rfl) ?_
              refine yS (by kernel_rfl : opAt F18.o11 1 = some (some 25, .move (.tmp 6), none)) rfl rfl (fun w' hS => val_move rfl) ?_
              refine iS (e := 3) (by kernel_rfl : opAt F18.o11 2 = some (some 26, .indexAddr 22 (.tmp 24) (.tmp 25), none)) rfl rfl hr rfl (by kernel_rfl) rfl (by omega) (by omega) ?_
              intro b26 o26 h26
              try simp only [Int.toNat_natCast] at h26
              refine lN (by kernel_rfl : opAt F18.o11 3 = some (some 27, .load 3 (.tmp 26), none)) rfl rfl trivial h26 (by kernel_rfl) rfl rfl ?_
              intro v27 g27
              obtain rfl := rv_int.1 g27
              refine yS (by kernel_rfl : opAt F18.o11 4 = some (some 28, .binOp .lss 3 (.tmp 27) (.const (.int .i64 0)) 3, none)) rfl rfl (fun w' hS => val_T (val_lss rfl rfl) hA) ?_
              refine yS (by kernel_rfl : opAt F18.o11 5 = some (some 29, .move (.tmp 28), none)) rfl rfl (fun w' hS => val_move rfl) ?_
              refine pS (by kernel_rfl : opAt F18.o11 6 = some (some 30, .move (.tmp 1), (some (5, false)))) rfl rfl ?_
              refine pS (by kernel_rfl : opAt F18.o11 7 = some (some 31, .move (.tmp 6), (some (5, false)))) rfl rfl ?_
              refine pS (by kernel_rfl : opAt F18.o11 8 = some (some 32, .indexAddr 22 (.tmp 30) (.tmp 31), (some (5, false)))) rfl rfl ?_
              refine pW (by kernel_rfl : opAt F18.o11 9 = some (some 33, .load 3 (.tmp 32), (some (5, false)))) rfl rfl trivial ?_
              refine pS (by kernel_rfl : opAt F18.o11 10 = some (some 34, .binOp .gtr 3 (.tmp 33) (.const (.int .i64 64)) 3, (some (5, false)))) rfl rfl ?_
              refine yS (by kernel_rfl : opAt F18.o11 11 = some (some 35, .pick (.tmp 29) (.const (.bool true)) (.tmp 34), none)) rfl rfl (fun w' hS => val_pick_t rfl rfl) ?_
              exact Sch.nil (hcut _ _ _ (Stp.refl _ _ _) rfl (by unfold badR; rw [decide_eq_true hA]; rfl) (sub_skip rfl (sub_skip rfl (sub_skip rfl (sub_skip rfl (sub_skip rfl (sub_skip rfl (sub_skip rfl (sub_skip rfl (sub_skip rfl (sub_skip rfl (sub_skip rfl (sub_skip rfl (Sub.refl _))))))))))))))
            · skip
              refine run_plain (id := 11) (ops := F18.o11) [(0, true), (1, true), (2, true), (3, false), (4, true), (5, true), (6, true), (7, true), (8, true), (9, false), (10, true), (11, true)] (by kernel_rfl) (by kernel_rfl) ?_
              refine yS (by kernel_rfl : opAt F18.o11 0 = some (some 24, .move (.tmp 1), none)) rfl rfl (fun w' hS => val_move rfl) ?_
              refine yS (by kernel_rfl : opAt F18.o11 1 = some (some 25, .move (.tmp 6), none)) rfl rfl (fun w' hS => val_move rfl) ?_
              refine iS (e := 3) (by kernel_rfl : opAt F18.o11 2 = some (some 26, .indexAddr 22 (.tmp 24) (.tmp 25), none)) rfl rfl hr rfl (by kernel_rfl) rfl (by omega) (by omega) ?_
              intro b26 o26 h26
              try simp only [Int.toNat_natCast] at h26
              refine lN (by kernel_rfl : opAt F18.o11 3 = some (some 27, .load 3 (.tmp 26), none)) rfl rfl trivial h26 (by kernel_rfl) rfl rfl ?_
              intro v27 g27
              obtain rfl := rv_int.1 g27
              refine yS (by kernel_rfl : opAt F18.o11 4 = some (some 28, .binOp .lss 3 (.tmp 27) (.const (.int .i64 0)) 3, none)) rfl rfl (fun w' hS => val_F (val_lss rfl rfl) hA) ?_
              refine yS (by kernel_rfl : opAt F18.o11 5 = some (some 29, .move (.tmp 28), none)) rfl rfl (fun w' hS => val_move rfl) ?_
              refine yS (by kernel_rfl : opAt F18.o11 6 = some (some 30, .move (.tmp 1), (some (5, false)))) rfl rfl (fun w' hS => val_move rfl) ?_
              refine yS (by kernel_rfl : opAt F18.o11 7 = some (some 31, .move (.tmp 6), (some (5, false)))) rfl rfl (fun w' hS => val_move rfl) ?_
              refine iS (e := 3) (by kernel_rfl : opAt F18.o11 8 = some (some 32, .indexAddr 22 (.tmp 30) (.tmp 31), (some (5, false)))) rfl rfl hr rfl (by kernel_rfl) rfl (by omega) (by omega) ?_
              intro b32 o32 h32
              try simp only [Int.toNat_natCast] at h32
              refine lN (by kernel_rfl : opAt F18.o11 9 = some (some 33, .load 3 (.tmp 32), (some (5, false)))) rfl rfl trivial h32 (by kernel_rfl) rfl rfl ?_
              intro v33 g33
              obtain rfl := rv_int.1 g33
              refine yS (by kernel_rfl : opAt F18.o11 10 = some (some 34, .binOp .gtr 3 (.tmp 33) (.const (.int .i64 64)) 3, (some (5, false)))) rfl rfl (fun w' hS => val_gtr rfl rfl) ?_
              refine yS (by kernel_rfl : opAt F18.o11 11 = some (some 35, .pick (.tmp 29) (.const (.bool true)) (.tmp 34), none)) rfl rfl (fun w' hS => val_pick_f rfl rfl) ?_
              exact Sch.nil (hcut _ _ _ (Stp.refl _ _ _) rfl (by unfold badR; rw [decide_eq_false hA]; rfl) (sub_skip rfl (sub_skip rfl (sub_skip rfl (sub_skip rfl (sub_skip rfl (sub_skip rfl (sub_skip rfl (sub_skip rfl (sub_skip rfl (sub_skip rfl (sub_skip rfl (sub_skip rfl (Sub.refl _))))))))))))))
          intro w3 hs
          replace hF := hF.st hs
          replace hT := hT.trans hs (by simp)
          replace hr := hr.st hs (by first | decide | (simp <;> omega))
          refine run_cond (x := F18.c44) (y := F18.c47) (o := .tmp 35) (by kernel_rfl) rfl (fun h35 => ?_) (fun h35 => ?_)
          · skip
            refine run_seq (x := F18.c45) (y := F18.c46) (by kernel_rfl) ?_
            refine run_plain (id := 12) (ops := F18.o12) [(0, true)] (by kernel_rfl) (by kernel_rfl) ?_
            refine yS (by kernel_rfl : opAt F18.o12 0 = some (some 4, .assign (.const (.int .i64 2)), none)) rfl rfl (fun w' hS => val_assign rfl) ?_
            refine Sch.nil ?_
            refine run_ret1 (by kernel_rfl) Try.func18 Try.results18 rfl ?_
            refine ⟨?_, hT.out1 (by decide)⟩
            unfold checkP
            rw [if_neg (by omega), if_neg (by omega), if_pos (List.any_eq_true.2 ⟨rs[i], List.getElem_mem hil, h35⟩)]
          · skip
            refine run_skip (by kernel_rfl) ?_
            refine run_inBlock ?_
            refine run_plain (id := 10) (ops := F18.o10) [(0, true), (1, true), (2, true)] (by kernel_rfl) (by kernel_rfl) ?_
            refine yS (by kernel_rfl : opAt F18.o10 0 = some (some 22, .move (.tmp 6), none)) rfl rfl (fun w' hS => val_move rfl) ?_
            refine yS (by kernel_rfl : opAt F18.o10 1 = some (some 23, .binOp .add 3 (.tmp 22) (.const (.int .i64 1)) 3, none)) rfl rfl (fun w' hS => val_addi rfl rfl (by omega) (by omega)) ?_
            refine yS (by kernel_rfl : opAt F18.o10 2 = some (some 6, .assign (.tmp 23), none)) rfl rfl (fun w' hS => val_assign rfl) ?_
            refine Sch.nil ?_
            refine kp (sub_cons 1 rfl rfl (sub_cons 5 rfl rfl (sub_cons 6 rfl (eq_int (by simp)) (sub_nil _)))) (next1 (i + 1, C1) _ ⟨(by first | omega | (simp only; omega)), (fun p hp h => by
                simp only at hp
                by_cases e : p = i
                · subst e; exact h35
                · exact h0 p (by omega) h), hF, hT, hr⟩ (by first | omega | (simp only; omega)))
        · skip
          have hil : i = rs.length := by omega
          refine run_exit (id := 0) (by kernel_rfl) rfl ?_
          refine run_seq (x := F18.c50) (y := F18.c51) (by kernel_rfl) ?_
          refine run_plain (id := 13) (ops := F18.o13) [(0, true)] (by kernel_rfl) (by kernel_rfl) ?_
          refine yS (by kernel_rfl : opAt F18.o13 0 = some (some 4, .assign (.const (.int .i64 0)), none)) rfl rfl (fun w' hS => val_assign rfl) ?_
          refine Sch.nil ?_
          refine run_ret1 (by kernel_rfl) Try.func18 Try.results18 rfl ?_
          refine ⟨?_, hT.out1 (by decide)⟩
          unfold checkP
          rw [if_neg (by omega), if_neg (by omega), if_neg (fun h => by
            obtain ⟨x, hx, hb⟩ := List.any_eq_true.1 h
            obtain ⟨p, hp, rfl⟩ := List.mem_iff_getElem.1 hx
            rw [h0 p (by omega) hp] at hb; cases hb)]
namespace F38
noncomputable def c0 : Code := bodyOf Try.f38
noncomputable def c1 : Code := cl c0
noncomputable def o0 : Array Oper := rops c1
noncomputable def c2 : Code := cr c0
noncomputable def c3 : Code := cl c2
noncomputable def c4 : Code := cl c3
noncomputable def o1 : Array Oper := rops c4
noncomputable def c5 : Code := cr c3
noncomputable def c6 : Code := cl c5
noncomputable def c7 : Code := cl c6
noncomputable def c8 : Code := cl c7
noncomputable def c9 : Code := cl c8
noncomputable def o2 : Array Oper := rops c9
noncomputable def c10 : Code := cr c8
noncomputable def c11 : Code := cl c10
noncomputable def c12 : Code := cr c10
noncomputable def c13 : Code := cr c7
noncomputable def c14 : Code := cl c13
noncomputable def c15 : Code := cl c14
noncomputable def c16 : Code := cl c15
noncomputable def c17 : Code := cl c16
noncomputable def o4 : Array Oper := rops c17
noncomputable def c18 : Code := cr c16
noncomputable def c19 : Code := cl c18
noncomputable def c20 : Code := cr c18
noncomputable def c21 : Code := cr c15
noncomputable def c22 : Code := cl c21
noncomputable def o5 : Array Oper := rops c22
noncomputable def c23 : Code := cr c21
noncomputable def c24 : Code := cl c23
noncomputable def c25 : Code := cl c24
noncomputable def c26 : Code := cl c25
noncomputable def c27 : Code := cl c26
noncomputable def o6 : Array Oper := rops c27
noncomputable def c28 : Code := cr c26
noncomputable def c29 : Code := cl c28
noncomputable def c30 : Code := cr c28
noncomputable def c31 : Code := cr c25
noncomputable def c32 : Code := cl c31
noncomputable def c33 : Code := cl c32
noncomputable def c34 : Code := cl c33
noncomputable def o8 : Array Oper := rops c34
noncomputable def c35 : Code := cr c33
noncomputable def c36 : Code := cl c35
noncomputable def c37 : Code := cl c36
noncomputable def o9 : Array Oper := rops c37
noncomputable def c38 : Code := cr c36
noncomputable def c39 : Code := cr c35
noncomputable def c40 : Code := cr c31
noncomputable def o7 : Array Oper := rops c40
noncomputable def c41 : Code := cr c13
noncomputable def o3 : Array Oper := rops c41
noncomputable def c42 : Code := cr c2
noncomputable def c43 : Code := cl c42
noncomputable def o10 : Array Oper := rops c43
noncomputable def c44 : Code := cr c42
end F38
theorem misses_ok {w₀ : World} {C : Nat → Nat} {comps at_ : List Couple} {u va : Value} {s : Nat} (hF : Lim w₀ C) (hu : RV w₀ (Mc C) comps u) (ha : RV w₀ (Mc C) at_ va) (h10 : at_.length ≤ 10) (hs0 : s < 1048576) : Calls Try.prog 38 #[.agg #[u], va, .int .i64 (s : Int)] w₀ (Ret fun v w' => v = .bool (missB comps at_ s) ∧ Stp [] w₀ C w' C) := by
  have hF0 := hF
  have hT := Stp.refl [2, 3, 4, 5, 6, 7, 8, 9] w₀ (col1 C)
  replace hF := hF.col1
  replace hu : RV w₀ (Mc (col1 C)) comps u := by rw [Mc_col1]; exact hu
  replace ha : RV w₀ (Mc (col1 C)) at_ va := by rw [Mc_col1]; exact ha
  refine calls_start (c := F38.c0) (N := 37) [.agg #[u], va, .int .i64 (s : Int)] Try.func38 (by kernel_rfl) (by kernel_rfl) (by kernel_rfl) ?_
  show Run _ _ _ _ [(0, .agg #[u]), (1, va), (2, .int .i64 (s : Int))] _ _
  refine run_seq (x := F38.c1) (y := F38.c2) (by kernel_rfl) ?_
  refine run_plain (id := 0) (ops := F38.o0) [(0, false), (1, true)] (by kernel_rfl) (by kernel_rfl) ?_
  refine aS (by kernel_rfl : opAt F38.o0 0 = some (some 3, .box 28 (.tmp 0), none)) rfl rfl (a_box (cs := [u]) hF 3 rfl rfl) ?_
  rintro _ w1 ⟨Cw1, bw1, rfl, hs, hx, hF⟩
  refine ⟨trivial, ?_⟩
  replace hT := hT.trans hs (by simp)
  replace hu := hu.st hs (by first | decide | (simp <;> omega))
  replace ha := ha.st hs (by first | decide | (simp <;> omega))
  refine yS (by kernel_rfl : opAt F38.o0 1 = some (some 6, .assign (.const (.bool false)), none)) rfl rfl (fun w' hS => val_assign rfl) ?_
  refine Sch.nil ?_
  refine run_seq (x := F38.c3) (y := F38.c42) (by kernel_rfl) ?_
  refine run_seq (x := F38.c4) (y := F38.c5) (by kernel_rfl) ?_
  refine run_plain (id := 1) (ops := F38.o1) [(0, true)] (by kernel_rfl) (by kernel_rfl) ?_
  refine yS (by kernel_rfl : opAt F38.o1 0 = some (some 7, .assign (.const (.int .i64 0)), none)) rfl rfl (fun w' hS => val_assign rfl) ?_
  refine Sch.nil ?_
  refine run_block (x := F38.c6) (id := 0) (by kernel_rfl) ?_
  
  refine run_loop (ι := Nat × (Nat → Nat)) (I := fun x w => x.1 ≤ at_.length ∧ (∀ p (hp : p < at_.length), p < x.1 → s.testBit p = true → ∀ q (hq : q < comps.length), comps[q] ≠ at_[p]) ∧ Lim w x.2 ∧ Stp [2, 3, 4, 5, 6, 7, 8, 9] w₀ (col1 C) w x.2 ∧ RV w (Mc x.2) at_ va ∧ RV w (Mc x.2) comps u ∧ OwnB w x.2 3 bw1 (.cells [u].toArray 28)) (e := fun x => [(1, va), (2, .int .i64 (s : Int)), (3, .pointer (some ⟨bw1, 0, none⟩)), (7, .int .i64 x.1)]) (m := fun x => at_.length - x.1) (x₀ := (0, Cw1)) (body := F38.c7) (by kernel_rfl) (sub_cons 1 rfl rfl (sub_cons 2 rfl rfl (sub_cons 3 rfl rfl (sub_cons 7 rfl rfl (sub_nil _))))) ?_ ?_
  · exact ⟨Nat.zero_le _, fun p hp hpi => by simp at hpi, hF, hT, ha, hu, hx⟩
  intro ⟨i, C1⟩ w2 hI next
  obtain ⟨hi, h0, hF, hT, ha, hu, hx⟩ := hI
  try simp only at hi h0 hF hT ha hu hx
  have next1 := next
  clear next
  show Run _ _ _ _ [(1, va), (2, .int .i64 (s : Int)), (3, .pointer (some ⟨bw1, 0, none⟩)), (7, .int .i64 i)] _ _
  refine run_seq (x := F38.c8) (y := F38.c13) (by kernel_rfl) ?_
  refine run_seq (x := F38.c9) (y := F38.c10) (by kernel_rfl) ?_
  refine run_plain (id := 2) (ops := F38.o2) [(0, true), (1, true), (2, true), (3, true)] (by kernel_rfl) (by kernel_rfl) ?_
  refine yS (by kernel_rfl : opAt F38.o2 0 = some (some 9, .move (.tmp 7), none)) rfl rfl (fun w' hS => val_move rfl) ?_
  refine yS (by kernel_rfl : opAt F38.o2 1 = some (some 10, .move (.tmp 1), none)) rfl rfl (fun w' hS => val_move rfl) ?_
  refine yS (by kernel_rfl : opAt F38.o2 2 = some (some 11, .call { callee := .builtin .len, args := #[(.tmp 10)], argTypes := #[26] }, none)) rfl rfl (fun w' hS => ha.lenV rfl Try.underlying26 w' ) ?_
  refine yS (by kernel_rfl : opAt F38.o2 3 = some (some 12, .binOp .lss 3 (.tmp 9) (.tmp 11) 3, none)) rfl rfl (fun w' hS => val_lss rfl rfl) ?_
  refine Sch.nil ?_
  refine run_if (x := F38.c11) (y := F38.c12) (o := .tmp 12) (by kernel_rfl) rfl (fun h12 => ?_) (fun h12 => ?_)
  · skip
    have hil : i < at_.length := by omega
    refine run_skip (by kernel_rfl) ?_
    refine run_seq (x := F38.c14) (y := F38.c41) (by kernel_rfl) ?_
    refine run_block (x := F38.c15) (id := 1) (by kernel_rfl) ?_
    refine run_seq (x := F38.c16) (y := F38.c21) (by kernel_rfl) ?_
    refine run_seq (x := F38.c17) (y := F38.c18) (by kernel_rfl) ?_
    refine run_plain (id := 4) (ops := F38.o4) [(0, true), (1, true), (2, true), (3, true), (4, true)] (by kernel_rfl) (by kernel_rfl) ?_
    refine yS (by kernel_rfl : opAt F38.o4 0 = some (some 15, .move (.tmp 2), none)) rfl rfl (fun w' hS => val_move rfl) ?_
    refine yS (by kernel_rfl : opAt F38.o4 1 = some (some 16, .move (.tmp 7), none)) rfl rfl (fun w' hS => val_move rfl) ?_
    refine yS (by kernel_rfl : opAt F38.o4 2 = some (some 17, .binOp .shr 3 (.tmp 15) (.tmp 16) 3, none)) rfl rfl (fun w' hS => val_shrE (r := ((s / 2 ^ i : Nat) : Int)) rfl rfl (by omega) (shrN (by omega))) ?_
    refine yS (by kernel_rfl : opAt F38.o4 3 = some (some 18, .binOp .and 3 (.tmp 17) (.const (.int .i64 1)) 3, none)) rfl rfl (fun w' hS => val_andE (r := ((s / 2 ^ i &&& 1 : Nat) : Int)) rfl rfl (bits_and (n := 1) (Nat.lt_of_le_of_lt (Nat.div_le_self _ _) (by omega)) (by decide))) ?_
    refine yS (by kernel_rfl : opAt F38.o4 4 = some (some 19, .binOp .eql 3 (.tmp 18) (.const (.int .i64 0)) 3, none)) rfl rfl (fun w' hS => val_eql rfl rfl) ?_
    refine Sch.nil ?_
    refine run_if (x := F38.c19) (y := F38.c20) (o := .tmp 19) (by kernel_rfl) rfl (fun h19 => ?_) (fun h19 => ?_)
    · skip
      have hbt : ¬ s.testBit i = true := fun e => by have := (bit_is s i).2 e; omega
      refine run_exit (id := 1) (by kernel_rfl) rfl ?_
      refine run_plain (id := 3) (ops := F38.o3) [(0, true), (1, true), (2, true)] (by kernel_rfl) (by kernel_rfl) ?_
      refine yS (by kernel_rfl : opAt F38.o3 0 = some (some 13, .move (.tmp 7), none)) rfl rfl (fun w' hS => val_move rfl) ?_
      refine yS (by kernel_rfl : opAt F38.o3 1 = some (some 14, .binOp .add 3 (.tmp 13) (.const (.int .i64 1)) 3, none)) rfl rfl (fun w' hS => val_addi rfl rfl (by omega) (by omega)) ?_
      refine yS (by kernel_rfl : opAt F38.o3 2 = some (some 7, .assign (.tmp 14), none)) rfl rfl (fun w' hS => val_assign rfl) ?_
      refine Sch.nil ?_
      refine kp (sub_cons 1 rfl rfl (sub_cons 2 rfl rfl (sub_cons 3 rfl rfl (sub_cons 7 rfl (eq_int (by simp)) (sub_nil _))))) (next1 (i + 1, C1) _ ⟨(by first | omega | (simp only; omega)), (fun p hp hpi hb => by
          simp only at hpi
          by_cases e : p = i
          · subst e; exact absurd hb hbt
          · exact h0 p hp (by omega) hb), hF, hT, ha, hu, hx⟩ (by first | omega | (simp only; omega)))
    · skip
      have hbt : s.testBit i = true := (bit_is s i).1 (by have := Nat.and_one_is_mod (s / 2 ^ i); omega)
      refine run_skip (by kernel_rfl) ?_
      refine run_seq (x := F38.c22) (y := F38.c23) (by kernel_rfl) ?_
      refine run_plain (id := 5) (ops := F38.o5) [(0, true)] (by kernel_rfl) (by kernel_rfl) ?_
      refine yS (by kernel_rfl : opAt F38.o5 0 = some (some 8, .assign (.const (.int .i64 0)), none)) rfl rfl (fun w' hS => val_assign rfl) ?_
      refine Sch.nil ?_
      refine run_block (x := F38.c24) (id := 2) (by kernel_rfl) ?_
      
      refine run_loop (ι := Nat × (Nat → Nat)) (I := fun x w => x.1 ≤ comps.length ∧ (∀ p (hp : p < comps.length), p < x.1 → comps[p] ≠ at_[i]) ∧ Lim w x.2 ∧ Stp [2, 3, 4, 5, 6, 7, 8, 9] w₀ (col1 C) w x.2 ∧ RV w (Mc x.2) at_ va ∧ RV w (Mc x.2) comps u ∧ OwnB w x.2 3 bw1 (.cells [u].toArray 28)) (e := fun x => [(1, va), (2, .int .i64 (s : Int)), (3, .pointer (some ⟨bw1, 0, none⟩)), (7, .int .i64 i), (8, .int .i64 x.1)]) (m := fun x => comps.length - x.1) (x₀ := (0, C1)) (body := F38.c25) (by kernel_rfl) (sub_cons 1 rfl rfl (sub_cons 2 rfl rfl (sub_cons 3 rfl rfl (sub_cons 7 rfl rfl (sub_cons 8 rfl rfl (sub_nil _)))))) ?_ ?_
      · exact ⟨Nat.zero_le _, fun p hp hpq => by simp at hpq, hF, hT, ha, hu, hx⟩
      intro ⟨q, C1⟩ w3 hI next
      obtain ⟨hq, h1, hF, hT, ha, hu, hx⟩ := hI
      try simp only at hq h1 hF hT ha hu hx
      have next2 := next
      clear next
      show Run _ _ _ _ [(1, va), (2, .int .i64 (s : Int)), (3, .pointer (some ⟨bw1, 0, none⟩)), (7, .int .i64 i), (8, .int .i64 q)] _ _
      have hcl := hu.le
      refine run_seq (x := F38.c26) (y := F38.c31) (by kernel_rfl) ?_
      refine run_seq (x := F38.c27) (y := F38.c28) (by kernel_rfl) ?_
      refine run_plain (id := 6) (ops := F38.o6) [(0, true), (1, true), (2, false), (3, true), (4, true)] (by kernel_rfl) (by kernel_rfl) ?_
      refine yS (by kernel_rfl : opAt F38.o6 0 = some (some 20, .move (.tmp 8), none)) rfl rfl (fun w' hS => val_move rfl) ?_
      refine yS (by kernel_rfl : opAt F38.o6 1 = some (some 21, .fieldAddr 28 (.tmp 3) 0, none)) rfl rfl (fun w' hS => val_fieldAddr (off := 0) (by kernel_rfl) rfl) ?_
      refine nS (by kernel_rfl : opAt F38.o6 2 = some (some 22, .load 26 (.tmp 21), none)) rfl rfl trivial (val_loadOwn hx.at_ (by kernel_rfl) rfl rfl) ?_
      refine yS (by kernel_rfl : opAt F38.o6 3 = some (some 23, .call { callee := .builtin .len, args := #[(.tmp 22)], argTypes := #[26] }, none)) rfl rfl (fun w' hS => hu.lenV rfl Try.underlying26 w' ) ?_
      refine yS (by kernel_rfl : opAt F38.o6 4 = some (some 24, .binOp .lss 3 (.tmp 20) (.tmp 23) 3, none)) rfl rfl (fun w' hS => val_lss rfl rfl) ?_
      refine Sch.nil ?_
      refine run_if (x := F38.c29) (y := F38.c30) (o := .tmp 24) (by kernel_rfl) rfl (fun h24 => ?_) (fun h24 => ?_)
      · skip
        have hql : q < comps.length := by omega
        refine run_skip (by kernel_rfl) ?_
        refine run_seq (x := F38.c32) (y := F38.c40) (by kernel_rfl) ?_
        refine run_block (x := F38.c33) (id := 3) (by kernel_rfl) ?_
        refine run_seq (x := F38.c34) (y := F38.c35) (by kernel_rfl) ?_
        refine run_draw (id := 8) (ops := F38.o8) [] (C1) [(0, true), (1, true), (2, true), (3, true), (4, true), (5, true), (6, true), (7, true), (8, true), (9, true)] Try_mixed (by kernel_rfl) (by kernel_rfl) (by kernel_rfl) ?_
        intro w4 hs
        replace hF := hF.st hs
        replace hT := hT.trans hs (by simp)
        replace ha := ha.st hs (by first | decide | (simp <;> omega))
        replace hu := hu.st hs (by first | decide | (simp <;> omega))
        replace hx := hx.st hs (by first | decide | (simp <;> omega))
        refine yS (by kernel_rfl : opAt F38.o8 0 = some (some 27, .fieldAddr 28 (.tmp 3) 0, none)) rfl rfl (fun w' hS => val_fieldAddr (off := 0) (by kernel_rfl) rfl) ?_
        refine yS (by kernel_rfl : opAt F38.o8 1 = some (some 28, .load 26 (.tmp 27), none)) rfl rfl (fun w' hS => val_loadOwn (hx.stay hS (by decide)) (by kernel_rfl) rfl rfl) ?_
        refine yS (by kernel_rfl : opAt F38.o8 2 = some (some 29, .move (.tmp 8), none)) rfl rfl (fun w' hS => val_move rfl) ?_
        refine iS (e := 50) (by kernel_rfl : opAt F38.o8 3 = some (some 30, .indexAddr 26 (.tmp 28) (.tmp 29), none)) rfl rfl hu rfl (by kernel_rfl) rfl (by omega) (by omega) ?_
        intro b30 o30 h30
        try simp only [Int.toNat_natCast] at h30
        refine lSA (by kernel_rfl : opAt F38.o8 4 = some (some 31, .load 50 (.tmp 30), none)) rfl rfl (fun w' hS => h30.stay hS (by decide)) h30 (by kernel_rfl) (by kernel_rfl) rfl rfl ?_
        intro v31 g31
        obtain rfl := rv_couple.1 g31
        refine yS (by kernel_rfl : opAt F38.o8 5 = some (some 32, .move (.tmp 1), none)) rfl rfl (fun w' hS => val_move rfl) ?_
        refine yS (by kernel_rfl : opAt F38.o8 6 = some (some 33, .move (.tmp 7), none)) rfl rfl (fun w' hS => val_move rfl) ?_
        refine iS (e := 50) (by kernel_rfl : opAt F38.o8 7 = some (some 34, .indexAddr 26 (.tmp 32) (.tmp 33), none)) rfl rfl ha rfl (by kernel_rfl) rfl (by omega) (by omega) ?_
        intro b34 o34 h34
        try simp only [Int.toNat_natCast] at h34
        refine lSA (by kernel_rfl : opAt F38.o8 8 = some (some 35, .load 50 (.tmp 34), none)) rfl rfl (fun w' hS => h34.stay hS (by decide)) h34 (by kernel_rfl) (by kernel_rfl) rfl rfl ?_
        intro v35 g35
        obtain rfl := rv_couple.1 g35
        refine yS (by kernel_rfl : opAt F38.o8 9 = some (some 36, .binOp .eql 50 (.tmp 31) (.tmp 35) 50, none)) rfl rfl (fun w' hS => val_eqC (a := comps[q]) (b := at_[i]) Try.underlying50 (by decide) (by decide) (by kernel_rfl) Try.underlying3 rfl rfl) ?_
        refine Sch.nil ?_
        refine run_if (x := F38.c36) (y := F38.c39) (o := .tmp 36) (by kernel_rfl) rfl (fun h36 => ?_) (fun h36 => ?_)
        · skip
          refine run_seq (x := F38.c37) (y := F38.c38) (by kernel_rfl) ?_
          refine run_plain (id := 9) (ops := F38.o9) [(0, true)] (by kernel_rfl) (by kernel_rfl) ?_
          refine yS (by kernel_rfl : opAt F38.o9 0 = some (some 6, .assign (.const (.bool true)), none)) rfl rfl (fun w' hS => val_assign rfl) ?_
          refine Sch.nil ?_
          refine run_ret1 (by kernel_rfl) Try.func38 Try.results38 rfl ?_
          exact ⟨by rw [missB_true hil hbt hql h36], hT.out1 (by decide)⟩
        · skip
          refine run_skip (by kernel_rfl) ?_
          refine run_inBlock ?_
          refine run_plain (id := 7) (ops := F38.o7) [(0, true), (1, true), (2, true)] (by kernel_rfl) (by kernel_rfl) ?_
          refine yS (by kernel_rfl : opAt F38.o7 0 = some (some 25, .move (.tmp 8), none)) rfl rfl (fun w' hS => val_move rfl) ?_
          refine yS (by kernel_rfl : opAt F38.o7 1 = some (some 26, .binOp .add 3 (.tmp 25) (.const (.int .i64 1)) 3, none)) rfl rfl (fun w' hS => val_addi rfl rfl (by omega) (by omega)) ?_
          refine yS (by kernel_rfl : opAt F38.o7 2 = some (some 8, .assign (.tmp 26), none)) rfl rfl (fun w' hS => val_assign rfl) ?_
          refine Sch.nil ?_
          refine kp (sub_cons 1 rfl rfl (sub_cons 2 rfl rfl (sub_cons 3 rfl rfl (sub_cons 7 rfl rfl (sub_cons 8 rfl (eq_int (by simp)) (sub_nil _)))))) (next2 (q + 1, C1) _ ⟨(by first | omega | (simp only; omega)), (fun p hp hpq => by
              simp only at hpq
              by_cases e : p = q
              · subst e; exact h36
              · exact h1 p hp (by omega)), hF, hT, ha, hu, hx⟩ (by first | omega | (simp only; omega)))
      · skip
        have hql : q = comps.length := by omega
        refine run_exit (id := 2) (by kernel_rfl) rfl ?_
        refine run_inBlock ?_
        refine run_plain (id := 3) (ops := F38.o3) [(0, true), (1, true), (2, true)] (by kernel_rfl) (by kernel_rfl) ?_
        refine yS (by kernel_rfl : opAt F38.o3 0 = some (some 13, .move (.tmp 7), none)) rfl rfl (fun w' hS => val_move rfl) ?_
        refine yS (by kernel_rfl : opAt F38.o3 1 = some (some 14, .binOp .add 3 (.tmp 13) (.const (.int .i64 1)) 3, none)) rfl rfl (fun w' hS => val_addi rfl rfl (by omega) (by omega)) ?_
        refine yS (by kernel_rfl : opAt F38.o3 2 = some (some 7, .assign (.tmp 14), none)) rfl rfl (fun w' hS => val_assign rfl) ?_
        refine Sch.nil ?_
        refine kp (sub_cons 1 rfl rfl (sub_cons 2 rfl rfl (sub_cons 3 rfl rfl (sub_cons 7 rfl (eq_int (by simp)) (sub_nil _))))) (next1 (i + 1, C1) _ ⟨(by first | omega | (simp only; omega)), (fun p hp hpi hb => by
            simp only at hpi
            by_cases e : p = i
            · subst e; exact fun z hz => h1 z hz (by omega)
            · exact h0 p hp (by omega) hb), hF, hT, ha, hu, hx⟩ (by first | omega | (simp only; omega)))
  · skip
    have hil : i = at_.length := by omega
    refine run_exit (id := 0) (by kernel_rfl) rfl ?_
    refine run_seq (x := F38.c43) (y := F38.c44) (by kernel_rfl) ?_
    refine run_plain (id := 10) (ops := F38.o10) [(0, true)] (by kernel_rfl) (by kernel_rfl) ?_
    refine yS (by kernel_rfl : opAt F38.o10 0 = some (some 6, .assign (.const (.bool false)), none)) rfl rfl (fun w' hS => val_assign rfl) ?_
    refine Sch.nil ?_
    refine run_ret1 (by kernel_rfl) Try.func38 Try.results38 rfl ?_
    exact ⟨by rw [missB_false (fun p hp hb => h0 p hp (by omega) hb)], hT.out1 (by decide)⟩
end Go.Proofs.Ytpmokjccfaakfaa

