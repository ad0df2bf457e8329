/- Steps through functions of the program. -/
import Derived.Test.YtfmdkdfhnkennaaKCF
import Derived.Test.YtfmdkdfhnkennaaKComp4
set_option linter.unusedVariables false
set_option linter.unusedSimpArgs false
set_option maxRecDepth 100000
set_option maxHeartbeats 400000
namespace Go.Proofs.Ytfmdkdfhnkennaa
open Go.K Go.K.Rep

namespace F37
noncomputable def c0 : Code := bodyOf Try.f37
noncomputable def c1 : Code := cl c0
noncomputable def o0 : Array Oper := rops c1
noncomputable def c2 : Code := cr c0
noncomputable def c3 : Code := cl c2
noncomputable def o1 : Array Oper := rops c3
noncomputable def c4 : Code := cr c2
noncomputable def c5 : Code := cl c4
noncomputable def c6 : Code := cl c5
noncomputable def c7 : Code := cl c6
noncomputable def c8 : Code := cl c7
noncomputable def c9 : Code := cl c8
noncomputable def o2 : Array Oper := rops c9
noncomputable def c10 : Code := cr c8
noncomputable def c11 : Code := cl c10
noncomputable def c12 : Code := cr c10
noncomputable def c13 : Code := cr c7
noncomputable def c14 : Code := cl c13
noncomputable def o3 : Array Oper := rops c14
noncomputable def c15 : Code := cr c4
noncomputable def c16 : Code := cl c15
noncomputable def c17 : Code := cl c16
noncomputable def o4 : Array Oper := rops c17
noncomputable def c18 : Code := cr c16
noncomputable def c19 : Code := cl c18
noncomputable def c20 : Code := cl c19
noncomputable def o5 : Array Oper := rops c20
noncomputable def c21 : Code := cr c19
noncomputable def c22 : Code := cr c18
noncomputable def c23 : Code := cr c15
noncomputable def c24 : Code := cl c23
noncomputable def o6 : Array Oper := rops c24
noncomputable def c25 : Code := cr c23
noncomputable def c26 : Code := cl c25
noncomputable def o7 : Array Oper := rops c26
noncomputable def c27 : Code := cr c25
end F37
theorem put_ok {w₀ : World} {C : Nat → Nat} {l : List Couple} {c : Couple} {vl : Value} (hF : Lim w₀ C) (hl : RV w₀ (Mc C) l vl) (hlen : l.length ≤ 1000000) : Calls Try.prog 37 #[vl, .agg #[.int .i64 c.a, .int .i64 c.b]] w₀ (Ret fun v w' => Stp [] w₀ C w' C ∧ RV w' (Mc C) (insC l c) v) := by
  have hF0 := hF
  have hT := Stp.refl [2, 3, 4, 5, 6, 7, 8, 9] w₀ (col1 C)
  replace hF := hF.col1
  replace hl : RV w₀ (Mc (col1 C)) l vl := by rw [Mc_col1]; exact hl
  refine calls_start (c := F37.c0) (N := 46) [vl, .agg #[.int .i64 c.a, .int .i64 c.b]] Try.func37 (by kernel_rfl) (by kernel_rfl) (by kernel_rfl) ?_
  show Run _ _ _ _ [(0, vl), (1, .agg #[.int .i64 c.a, .int .i64 c.b])] _ _
  refine run_seq (x := F37.c1) (y := F37.c2) (by kernel_rfl) ?_
  refine run_plain (id := 0) (ops := F37.o0) [(0, false), (1, true)] (by kernel_rfl) (by kernel_rfl) ?_
  refine aS (by kernel_rfl : opAt F37.o0 0 = some (some 3, .box 25 (.tmp 1), none)) rfl rfl (a_box (cs := encR c) hF 3 rfl rfl) ?_
  rintro _ w1 ⟨Cw1, bw1, rfl, hs, hx, hF⟩
  refine ⟨trivial, ?_⟩
  replace hT := hT.trans hs (by simp)
  replace hl := hl.st hs (by first | decide | (simp <;> omega))
  refine yS (by kernel_rfl : opAt F37.o0 1 = some (some 4, .assign (.const (.slice none 0 0)), none)) rfl rfl (fun w' hS => val_assign rfl) ?_
  refine Sch.nil ?_
  refine run_seq (x := F37.c3) (y := F37.c4) (by kernel_rfl) ?_
  refine run_plain (id := 1) (ops := F37.o1) [(0, true)] (by kernel_rfl) (by kernel_rfl) ?_
  refine yS (by kernel_rfl : opAt F37.o1 0 = some (some 5, .assign (.const (.int .i64 0)), none)) rfl rfl (fun w' hS => val_assign rfl) ?_
  refine Sch.nil ?_
  refine run_seq (x := F37.c5) (y := F37.c15) (by kernel_rfl) ?_
  refine run_block (x := F37.c6) (id := 0) (by kernel_rfl) ?_
  
  refine run_loop (ι := Nat × (Nat → Nat)) (I := fun x w => x.1 ≤ l.length ∧ (∀ i, i < x.1 → ∀ (hi : i < l.length), ltB l[i] c = true) ∧ Lim w x.2 ∧ Stp [2, 3, 4, 5, 6, 7, 8, 9] w₀ (col1 C) w x.2 ∧ RV w (Mc x.2) l vl ∧ OwnB w x.2 3 bw1 (.cells (encR c).toArray 25)) (e := fun x => [(0, vl), (3, .pointer (some ⟨bw1, 0, none⟩)), (4, .slice none 0 0), (5, .int .i64 x.1)]) (m := fun x => l.length - x.1) (x₀ := (0, Cw1)) (body := F37.c7) (by kernel_rfl) (sub_cons 0 rfl rfl (sub_cons 3 rfl rfl (sub_cons 4 rfl rfl (sub_cons 5 rfl rfl (sub_nil _))))) ?_ ?_
  · exact ⟨Nat.zero_le _, fun i hi => by simp at hi, hF, hT, hl, hx⟩
  intro ⟨k, C1⟩ w2 hI next
  obtain ⟨hk, h0, hF, hT, hl, hx⟩ := hI
  try simp only at hk h0 hF hT hl hx
  have next1 := next
  clear next
  show Run _ _ _ _ [(0, vl), (3, .pointer (some ⟨bw1, 0, none⟩)), (4, .slice none 0 0), (5, .int .i64 k)] _ _
  refine run_seq (x := F37.c8) (y := F37.c13) (by kernel_rfl) ?_
  refine run_seq (x := F37.c9) (y := F37.c10) (by kernel_rfl) ?_
  refine run_cut 18 ((if h : k < l.length then ltB l[k] c else false)) (C1) ?_ ?_
  · intro hcut
    by_cases hA : (k : Int) < l.length
    · skip
      refine run_draw (id := 2) (ops := F37.o2) [] (C1) [(0, true), (1, true), (2, true), (3, true), (4, true), (5, true), (6, true), (7, true), (8, true), (9, true), (10, false), (11, true)] Try_mixed (by kernel_rfl) (by kernel_rfl) (by kernel_rfl) ?_
      intro w3 hs
      replace hF := hF.st hs
      replace hT := hT.trans hs (by simp)
      replace hl := hl.st hs (by first | decide | (simp <;> omega))
      replace hx := hx.st hs (by first | decide | (simp <;> omega))
      have hcs := hs
      have hR := Stp.refl [] w3 (C1)
      refine yS (by kernel_rfl : opAt F37.o2 0 = some (some 7, .move (.tmp 5), none)) rfl rfl (fun w' hS => val_move rfl) ?_
      refine yS (by kernel_rfl : opAt F37.o2 1 = some (some 8, .move (.tmp 0), none)) rfl rfl (fun w' hS => val_move rfl) ?_
      refine yS (by kernel_rfl : opAt F37.o2 2 = some (some 9, .call { callee := .builtin .len, args := #[(.tmp 8)], argTypes := #[38] }, none)) rfl rfl (fun w' hS => hl.lenV rfl Try.underlying38 w' ) ?_
      refine yS (by kernel_rfl : opAt F37.o2 3 = some (some 10, .binOp .lss 3 (.tmp 7) (.tmp 9) 3, none)) rfl rfl (fun w' hS => val_T (val_lss rfl rfl) hA) ?_
      refine yS (by kernel_rfl : opAt F37.o2 4 = some (some 11, .move (.tmp 10), none)) rfl rfl (fun w' hS => val_move rfl) ?_
      refine yS (by kernel_rfl : opAt F37.o2 5 = some (some 12, .move (.tmp 0), (some (4, true)))) rfl rfl (fun w' hS => val_move rfl) ?_
      refine yS (by kernel_rfl : opAt F37.o2 6 = some (some 13, .move (.tmp 5), (some (4, true)))) rfl rfl (fun w' hS => val_move rfl) ?_
      refine iS (e := 25) (by kernel_rfl : opAt F37.o2 7 = some (some 14, .indexAddr 38 (.tmp 12) (.tmp 13), (some (4, true)))) rfl rfl hl rfl (by kernel_rfl) rfl (by omega) (by omega) ?_
      intro b14 o14 h14
      try simp only [Int.toNat_natCast] at h14
      refine lSA (by kernel_rfl : opAt F37.o2 8 = some (some 15, .load 25 (.tmp 14), (some (4, true)))) rfl rfl (fun w' hS => h14.stay hS (by decide)) h14 (by kernel_rfl) (by kernel_rfl) rfl rfl ?_
      intro v15 g15
      obtain rfl := rv_couple.1 g15
      refine yS (by kernel_rfl : opAt F37.o2 9 = some (some 16, .load 25 (.tmp 3), (some (4, true)))) rfl rfl (fun w' hS => val_loadOwnAgg (n := 2) (vs := encR c) (hx.stay hS (by decide)) (by kernel_rfl) (by kernel_rfl) rfl rfl rfl) ?_
      refine cS (by kernel_rfl : opAt F37.o2 10 = some (some 17, .call { callee := .value (.func 27), args := #[(.tmp 15), (.tmp 16)], argTypes := #[25, 25] }, (some (4, true)))) rfl rfl (ent Try.call27 rfl) (less30_ok (x := l[k]) (y := c) hF) ?_
      rintro vw4 w4 ⟨rfl, hs⟩
      refine ⟨(hR.trans hs (by simp)).ext, ?_⟩
      replace hF := hF.st hs
      replace hT := hT.trans hs (by simp)
      replace hl := hl.st hs (by first | decide | (simp <;> omega))
      replace hx := hx.st hs (by first | decide | (simp <;> omega))
      replace hcs := hcs.trans hs (by simp)
      replace hR := hR.trans hs (by simp)
      replace h14 := h14.st hs (by first | decide | (simp <;> omega))
      replace g15 := g15.st hs (by first | decide | (simp <;> omega))
      refine yS (by kernel_rfl : opAt F37.o2 11 = some (some 18, .pick (.tmp 11) (.tmp 17) (.const (.bool false)), none)) rfl rfl (fun w' hS => val_pick_t rfl rfl) ?_
      exact Sch.nil (hcut _ _ _ hcs rfl (by rw [dif_pos (by omega), ltB_ltP]) (sub_skip rfl (sub_skip rfl (sub_skip rfl (sub_skip rfl (sub_skip rfl (sub_skip rfl (sub_skip rfl (sub_skip rfl (sub_skip rfl (sub_skip rfl (sub_skip rfl (sub_skip rfl (Sub.refl _))))))))))))))
    · skip
      refine run_draw (id := 2) (ops := F37.o2) [] (C1) [(0, true), (1, true), (2, true), (3, true), (4, true), (5, true), (6, true), (7, true), (8, true), (9, true), (10, false), (11, true)] Try_mixed (by kernel_rfl) (by kernel_rfl) (by kernel_rfl) ?_
      intro w5 hs
      replace hF := hF.st hs
      replace hT := hT.trans hs (by simp)
      replace hl := hl.st hs (by first | decide | (simp <;> omega))
      replace hx := hx.st hs (by first | decide | (simp <;> omega))
      have hcs := hs
      have hR := Stp.refl [] w5 (C1)
      refine yS (by kernel_rfl : opAt F37.o2 0 = some (some 7, .move (.tmp 5), none)) rfl rfl (fun w' hS => val_move rfl) ?_
      refine yS (by kernel_rfl : opAt F37.o2 1 = some (some 8, .move (.tmp 0), none)) rfl rfl (fun w' hS => val_move rfl) ?_
      refine yS (by kernel_rfl : opAt F37.o2 2 = some (some 9, .call { callee := .builtin .len, args := #[(.tmp 8)], argTypes := #[38] }, none)) rfl rfl (fun w' hS => hl.lenV rfl Try.underlying38 w' ) ?_
      refine yS (by kernel_rfl : opAt F37.o2 3 = some (some 10, .binOp .lss 3 (.tmp 7) (.tmp 9) 3, none)) rfl rfl (fun w' hS => val_F (val_lss rfl rfl) hA) ?_
      refine yS (by kernel_rfl : opAt F37.o2 4 = some (some 11, .move (.tmp 10), none)) rfl rfl (fun w' hS => val_move rfl) ?_
      refine pS (by kernel_rfl : opAt F37.o2 5 = some (some 12, .move (.tmp 0), (some (4, true)))) rfl rfl ?_
      refine pS (by kernel_rfl : opAt F37.o2 6 = some (some 13, .move (.tmp 5), (some (4, true)))) rfl rfl ?_
      refine pS (by kernel_rfl : opAt F37.o2 7 = some (some 14, .indexAddr 38 (.tmp 12) (.tmp 13), (some (4, true)))) rfl rfl ?_
      refine pS (by kernel_rfl : opAt F37.o2 8 = some (some 15, .load 25 (.tmp 14), (some (4, true)))) rfl rfl ?_
      refine pS (by kernel_rfl : opAt F37.o2 9 = some (some 16, .load 25 (.tmp 3), (some (4, true)))) rfl rfl ?_
      refine pW (by kernel_rfl : opAt F37.o2 10 = some (some 17, .call { callee := .value (.func 27), args := #[(.tmp 15), (.tmp 16)], argTypes := #[25, 25] }, (some (4, true)))) rfl rfl hR.ext ?_
      refine yS (by kernel_rfl : opAt F37.o2 11 = some (some 18, .pick (.tmp 11) (.tmp 17) (.const (.bool false)), none)) rfl rfl (fun w' hS => val_pick_f rfl rfl) ?_
      exact Sch.nil (hcut _ _ _ hcs rfl (by rw [dif_neg (by omega)]) (sub_skip rfl (sub_skip rfl (sub_skip rfl (sub_skip rfl (sub_skip rfl (sub_skip rfl (sub_skip rfl (sub_skip rfl (sub_skip rfl (sub_skip rfl (sub_skip rfl (sub_skip rfl (Sub.refl _))))))))))))))
  intro w6 hs
  replace hF := hF.st hs
  replace hT := hT.trans hs (by simp)
  replace hl := hl.st hs (by first | decide | (simp <;> omega))
  replace hx := hx.st hs (by first | decide | (simp <;> omega))
  refine run_cond (x := F37.c11) (y := F37.c12) (o := .tmp 18) (by kernel_rfl) rfl (fun h18 => ?_) (fun h18 => ?_)
  · skip
    have hkl : k < l.length := by
      apply Classical.byContradiction; intro e; rw [dif_neg e] at h18; cases h18
    rw [dif_pos hkl] at h18
    refine run_skip (by kernel_rfl) ?_
    refine run_block (x := F37.c14) (id := 1) (by kernel_rfl) ?_
    refine run_plain (id := 3) (ops := F37.o3) [(0, true), (1, true), (2, true)] (by kernel_rfl) (by kernel_rfl) ?_
    refine yS (by kernel_rfl : opAt F37.o3 0 = some (some 19, .move (.tmp 5), none)) rfl rfl (fun w' hS => val_move rfl) ?_
    refine yS (by kernel_rfl : opAt F37.o3 1 = some (some 20, .binOp .add 3 (.tmp 19) (.const (.int .i64 1)) 3, none)) rfl rfl (fun w' hS => val_addi rfl rfl (by omega) (by omega)) ?_
    refine yS (by kernel_rfl : opAt F37.o3 2 = some (some 5, .assign (.tmp 20), none)) rfl rfl (fun w' hS => val_assign rfl) ?_
    refine Sch.nil ?_
    refine run_inBlock ?_
    refine kp (sub_cons 0 rfl rfl (sub_cons 3 rfl rfl (sub_cons 4 rfl rfl (sub_cons 5 rfl (eq_int (by simp)) (sub_nil _))))) (next1 (k + 1, C1) _ ⟨(by first | omega | (simp only; omega)), (fun i hi hl => by
        simp only at hi
        by_cases e : i = k
        · subst e; exact h18
        · exact h0 i (by omega) hl), hF, hT, hl, hx⟩ (by first | omega | (simp only; omega)))
  · skip
    have hins := insC_at (c := c) hk (fun i hi h => h0 i hi h) (fun h => by rw [dif_pos h] at h18; exact h18)
    refine run_exit (id := 0) (by kernel_rfl) rfl ?_
    refine run_seq (x := F37.c16) (y := F37.c23) (by kernel_rfl) ?_
    refine run_seq (x := F37.c17) (y := F37.c18) (by kernel_rfl) ?_
    refine run_cut 32 ((if h : k < l.length then decide (l[k] = c) else false)) (C1) ?_ ?_
    · intro hcut
      by_cases hA : (k : Int) < l.length
      · skip
        refine run_draw (id := 4) (ops := F37.o4) [] (C1) [(0, true), (1, true), (2, true), (3, true), (4, true), (5, true), (6, true), (7, true), (8, true), (9, true), (10, true), (11, true)] Try_mixed (by kernel_rfl) (by kernel_rfl) (by kernel_rfl) ?_
        intro w7 hs
        replace hF := hF.st hs
        replace hT := hT.trans hs (by simp)
        replace hl := hl.st hs (by first | decide | (simp <;> omega))
        replace hx := hx.st hs (by first | decide | (simp <;> omega))
        have hcs := hs
        refine yS (by kernel_rfl : opAt F37.o4 0 = some (some 21, .move (.tmp 5), none)) rfl rfl (fun w' hS => val_move rfl) ?_
        refine yS (by kernel_rfl : opAt F37.o4 1 = some (some 22, .move (.tmp 0), none)) rfl rfl (fun w' hS => val_move rfl) ?_
        refine yS (by kernel_rfl : opAt F37.o4 2 = some (some 23, .call { callee := .builtin .len, args := #[(.tmp 22)], argTypes := #[38] }, none)) rfl rfl (fun w' hS => hl.lenV rfl Try.underlying38 w' ) ?_
        refine yS (by kernel_rfl : opAt F37.o4 3 = some (some 24, .binOp .lss 3 (.tmp 21) (.tmp 23) 3, none)) rfl rfl (fun w' hS => val_T (val_lss rfl rfl) hA) ?_
        refine yS (by kernel_rfl : opAt F37.o4 4 = some (some 25, .move (.tmp 24), none)) rfl rfl (fun w' hS => val_move rfl) ?_
        refine yS (by kernel_rfl : opAt F37.o4 5 = some (some 26, .move (.tmp 0), (some (4, true)))) rfl rfl (fun w' hS => val_move rfl) ?_
        refine yS (by kernel_rfl : opAt F37.o4 6 = some (some 27, .move (.tmp 5), (some (4, true)))) rfl rfl (fun w' hS => val_move rfl) ?_
        refine iS (e := 25) (by kernel_rfl : opAt F37.o4 7 = some (some 28, .indexAddr 38 (.tmp 26) (.tmp 27), (some (4, true)))) rfl rfl hl rfl (by kernel_rfl) rfl (by omega) (by omega) ?_
        intro b28 o28 h28
        try simp only [Int.toNat_natCast] at h28
        refine lSA (by kernel_rfl : opAt F37.o4 8 = some (some 29, .load 25 (.tmp 28), (some (4, true)))) rfl rfl (fun w' hS => h28.stay hS (by decide)) h28 (by kernel_rfl) (by kernel_rfl) rfl rfl ?_
        intro v29 g29
        obtain rfl := rv_couple.1 g29
        refine yS (by kernel_rfl : opAt F37.o4 9 = some (some 30, .load 25 (.tmp 3), (some (4, true)))) rfl rfl (fun w' hS => val_loadOwnAgg (n := 2) (vs := encR c) (hx.stay hS (by decide)) (by kernel_rfl) (by kernel_rfl) rfl rfl rfl) ?_
        refine yS (by kernel_rfl : opAt F37.o4 10 = some (some 31, .binOp .eql 25 (.tmp 29) (.tmp 30) 25, (some (4, true)))) rfl rfl (fun w' hS => val_eqC (a := l[k]) (b := c) Try.underlying25 (by decide) (by decide) (by kernel_rfl) Try.underlying3 rfl rfl) ?_
        refine yS (by kernel_rfl : opAt F37.o4 11 = some (some 32, .pick (.tmp 25) (.tmp 31) (.const (.bool false)), none)) rfl rfl (fun w' hS => val_pick_t rfl rfl) ?_
        exact Sch.nil (hcut _ _ _ hcs rfl (by rw [dif_pos (by omega)]) (sub_skip rfl (sub_skip rfl (sub_skip rfl (sub_skip rfl (sub_skip rfl (sub_skip rfl (sub_skip rfl (sub_skip rfl (sub_skip rfl (sub_skip rfl (sub_skip rfl (sub_skip rfl (Sub.refl _))))))))))))))
      · skip
        refine run_draw (id := 4) (ops := F37.o4) [] (C1) [(0, true), (1, true), (2, true), (3, true), (4, true), (5, true), (6, true), (7, true), (8, true), (9, true), (10, true), (11, true)] Try_mixed (by kernel_rfl) (by kernel_rfl) (by kernel_rfl) ?_
        intro w8 hs
        replace hF := hF.st hs
        replace hT := hT.trans hs (by simp)
        replace hl := hl.st hs (by first | decide | (simp <;> omega))
        replace hx := hx.st hs (by first | decide | (simp <;> omega))
        have hcs := hs
        refine yS (by kernel_rfl : opAt F37.o4 0 = some (some 21, .move (.tmp 5), none)) rfl rfl (fun w' hS => val_move rfl) ?_
        refine yS (by kernel_rfl : opAt F37.o4 1 = some (some 22, .move (.tmp 0), none)) rfl rfl (fun w' hS => val_move rfl) ?_
        refine yS (by kernel_rfl : opAt F37.o4 2 = some (some 23, .call { callee := .builtin .len, args := #[(.tmp 22)], argTypes := #[38] }, none)) rfl rfl (fun w' hS => hl.lenV rfl Try.underlying38 w' ) ?_
        refine yS (by kernel_rfl : opAt F37.o4 3 = some (some 24, .binOp .lss 3 (.tmp 21) (.tmp 23) 3, none)) rfl rfl (fun w' hS => val_F (val_lss rfl rfl) hA) ?_
        refine yS (by kernel_rfl : opAt F37.o4 4 = some (some 25, .move (.tmp 24), none)) rfl rfl (fun w' hS => val_move rfl) ?_
        refine pS (by kernel_rfl : opAt F37.o4 5 = some (some 26, .move (.tmp 0), (some (4, true)))) rfl rfl ?_
        refine pS (by kernel_rfl : opAt F37.o4 6 = some (some 27, .move (.tmp 5), (some (4, true)))) rfl rfl ?_
        refine pS (by kernel_rfl : opAt F37.o4 7 = some (some 28, .indexAddr 38 (.tmp 26) (.tmp 27), (some (4, true)))) rfl rfl ?_
        refine pS (by kernel_rfl : opAt F37.o4 8 = some (some 29, .load 25 (.tmp 28), (some (4, true)))) rfl rfl ?_
        refine pS (by kernel_rfl : opAt F37.o4 9 = some (some 30, .load 25 (.tmp 3), (some (4, true)))) rfl rfl ?_
        refine pS (by kernel_rfl : opAt F37.o4 10 = some (some 31, .binOp .eql 25 (.tmp 29) (.tmp 30) 25, (some (4, true)))) rfl rfl ?_
        refine yS (by kernel_rfl : opAt F37.o4 11 = some (some 32, .pick (.tmp 25) (.tmp 31) (.const (.bool false)), none)) rfl rfl (fun w' hS => val_pick_f rfl rfl) ?_
        exact Sch.nil (hcut _ _ _ hcs rfl (by rw [dif_neg (by omega)]) (sub_skip rfl (sub_skip rfl (sub_skip rfl (sub_skip rfl (sub_skip rfl (sub_skip rfl (sub_skip rfl (sub_skip rfl (sub_skip rfl (sub_skip rfl (sub_skip rfl (sub_skip rfl (Sub.refl _))))))))))))))
    intro w9 hs
    replace hF := hF.st hs
    replace hT := hT.trans hs (by simp)
    replace hl := hl.st hs (by first | decide | (simp <;> omega))
    replace hx := hx.st hs (by first | decide | (simp <;> omega))
    refine run_cond (x := F37.c19) (y := F37.c22) (o := .tmp 32) (by kernel_rfl) rfl (fun h32 => ?_) (fun h32 => ?_)
    · skip
      have hkl : k < l.length := by
        apply Classical.byContradiction; intro e; rw [dif_neg e] at h32; cases h32
      rw [dif_pos hkl] at h32
      rw [dif_pos hkl, if_pos (of_decide_eq_true h32)] at hins
      refine run_seq (x := F37.c20) (y := F37.c21) (by kernel_rfl) ?_
      refine run_plain (id := 5) (ops := F37.o5) [(0, true), (1, true)] (by kernel_rfl) (by kernel_rfl) ?_
      refine yS (by kernel_rfl : opAt F37.o5 0 = some (some 33, .move (.tmp 0), none)) rfl rfl (fun w' hS => val_move rfl) ?_
      refine yS (by kernel_rfl : opAt F37.o5 1 = some (some 4, .assign (.tmp 33), none)) rfl rfl (fun w' hS => val_assign rfl) ?_
      refine Sch.nil ?_
      refine run_ret1 (by kernel_rfl) Try.func37 Try.results37 rfl ?_
      exact ⟨hT.out1 (by decide), by rw [hins]; exact hl.out hT hF0 (Mc_col1 C)⟩
    · skip
      have hin2 : insC l c = l.take k ++ c :: l.drop k := by
        rw [hins]
        by_cases hkl : k < l.length
        · rw [dif_pos hkl] at h32 ⊢; rw [if_neg (of_decide_eq_false h32)]
        · rw [dif_neg hkl, List.take_of_length_le (by omega), List.drop_of_length_le (by omega)]
      refine run_skip (by kernel_rfl) ?_
      refine run_seq (x := F37.c24) (y := F37.c25) (by kernel_rfl) ?_
      refine run_draw2 (id := 6) (ops := F37.o6) [5] (C1) [0, 1, 2, 4] 3 [(5, false), (6, false), (7, true)] 5 [(3, false), (6, false), (7, true)] Try_mixed (by kernel_rfl) (by kernel_rfl) (by kernel_rfl) ?_ ?_
      · skip
        intro w10 hs
        replace hF := hF.st hs
        replace hT := hT.trans hs (by simp)
        replace hl := hl.st hs (by first | decide | (simp <;> omega))
        replace hx := hx.st hs (by first | decide | (simp <;> omega))
        show Sch _ _ _ _ _ _ _ [(0, true), (1, true), (2, true), (4, true), (3, false), (5, false), (6, false), (7, true)] _ _
        have hR := Stp.refl [5] w10 (C1)
        refine yS (by kernel_rfl : opAt F37.o6 0 = some (some 34, .move (.tmp 0), none)) rfl rfl (fun w' hS => val_move rfl) ?_
        refine yS (by kernel_rfl : opAt F37.o6 1 = some (some 35, .move (.tmp 5), none)) rfl rfl (fun w' hS => val_move rfl) ?_
        refine sTR (e' := 25) (by kernel_rfl : opAt F37.o6 2 = some (some 36, .slice 38 (.tmp 34) none (some (.tmp 35)) none, none)) rfl rfl hl rfl (by kernel_rfl) rfl (by omega) (by omega) ?_
        intro v36 h36
        try simp only [Int.toNat_natCast] at h36
        refine yS (by kernel_rfl : opAt F37.o6 4 = some (some 38, .load 25 (.tmp 3), none)) rfl rfl (fun w' hS => val_loadOwnAgg (n := 2) (vs := encR c) (hx.stay hS (by decide)) (by kernel_rfl) (by kernel_rfl) rfl rfl rfl) ?_
        refine aS (by kernel_rfl : opAt F37.o6 3 = some (some 37, .call { callee := .builtin .append, args := #[(.const (.slice none 0 0)), (.tmp 36)], argTypes := #[38, 38] }, none)) rfl rfl (a_append (e := 25) (bytes := 16) hF (by decide) rfl rfl (by kernel_rfl) (by decide) (OwnL.nil (α := Couple) (j := 5)) h36 (by simp only [List.length_append, List.length_take, List.length_nil, List.length_drop, List.length_cons]; omega) (by simp only [List.length_append, List.length_take, List.length_nil, List.length_drop, List.length_cons]; omega)) ?_
        rintro v37 w11 ⟨Cw11, hs, hn, hF⟩
        refine ⟨(hR.trans hs (by simp)).ext, ?_⟩
        replace hT := hT.trans hs (by simp)
        replace hl := hl.st hs (by first | decide | (simp <;> omega))
        replace hx := hx.st hs (by first | decide | (simp <;> omega))
        replace hR := hR.trans hs (by simp)
        replace h36 := h36.st hs (by first | decide | (simp <;> omega))
        refine aS (by kernel_rfl : opAt F37.o6 5 = some (some 39, .buildSlice 38 1 #[(0, (.tmp 38))], none)) rfl rfl (a_buildSlice (ys := ([c] : List Couple)) (e := 25) (bytes := 16) hF (by kernel_rfl) rfl (by decide) (by decide) ⟨rfl, ⟨_, rfl, rv_couple.2 rfl⟩, trivial⟩) ?_
        rintro v39 w12 ⟨hs, g39, hF⟩
        refine ⟨(hR.trans hs (by simp)).ext, ?_⟩
        replace hT := hT.trans hs (by simp)
        replace hl := hl.st hs (by first | decide | (simp <;> omega))
        replace hx := hx.st hs (by first | decide | (simp <;> omega))
        replace hR := hR.trans hs (by simp)
        replace h36 := h36.st hs (by first | decide | (simp <;> omega))
        replace hn := hn.st hs (by first | decide | (simp <;> omega)) (by first | decide | (simp <;> omega))
        refine aS (by kernel_rfl : opAt F37.o6 6 = some (some 40, .call { callee := .builtin .append, args := #[(.tmp 37), (.tmp 39)], argTypes := #[38, 38] }, none)) rfl rfl (a_append (e := 25) (bytes := 16) hF (by decide) rfl rfl (by kernel_rfl) (by decide) hn g39 (by simp only [List.length_append, List.length_take, List.length_nil, List.length_drop, List.length_cons]; omega) (by simp only [List.length_append, List.length_take, List.length_nil, List.length_drop, List.length_cons]; omega)) ?_
        rintro v40 w13 ⟨Cw13, hs, hn, hF⟩
        refine ⟨(hR.trans hs (by simp)).ext, ?_⟩
        replace hT := hT.trans hs (by simp)
        replace hl := hl.st hs (by first | decide | (simp <;> omega))
        replace hx := hx.st hs (by first | decide | (simp <;> omega))
        replace hR := hR.trans hs (by simp)
        replace h36 := h36.st hs (by first | decide | (simp <;> omega))
        replace g39 := g39.st hs (by first | decide | (simp <;> omega))
        refine yS (by kernel_rfl : opAt F37.o6 7 = some (some 6, .assign (.tmp 40), none)) rfl rfl (fun w' hS => val_assign rfl) ?_
        refine Sch.nil ?_
        refine run_seq (x := F37.c26) (y := F37.c27) (by kernel_rfl) ?_
        refine run_plain (id := 7) (ops := F37.o7) [(0, true), (1, true), (2, true), (3, true), (4, false), (5, true)] (by kernel_rfl) (by kernel_rfl) ?_
        refine yS (by kernel_rfl : opAt F37.o7 0 = some (some 41, .move (.tmp 6), none)) rfl rfl (fun w' hS => val_move rfl) ?_
        refine yS (by kernel_rfl : opAt F37.o7 1 = some (some 42, .move (.tmp 0), none)) rfl rfl (fun w' hS => val_move rfl) ?_
        refine yS (by kernel_rfl : opAt F37.o7 2 = some (some 43, .move (.tmp 5), none)) rfl rfl (fun w' hS => val_move rfl) ?_
        refine sFR (e' := 25) (by kernel_rfl : opAt F37.o7 3 = some (some 44, .slice 38 (.tmp 42) (some (.tmp 43)) none none, none)) rfl rfl hl rfl (by kernel_rfl) rfl (by omega) (by omega) ?_
        intro v44 h44
        try simp only [Int.toNat_natCast] at h44
        refine aS (by kernel_rfl : opAt F37.o7 4 = some (some 45, .call { callee := .builtin .append, args := #[(.tmp 41), (.tmp 44)], argTypes := #[38, 38] }, none)) rfl rfl (a_append (e := 25) (bytes := 16) hF (by decide) rfl rfl (by kernel_rfl) (by decide) hn h44 (by simp only [List.length_append, List.length_take, List.length_nil, List.length_drop, List.length_cons]; omega) (by simp only [List.length_append, List.length_take, List.length_nil, List.length_drop, List.length_cons]; omega)) ?_
        rintro v45 w14 ⟨Cw14, hs, hn, hF⟩
        refine ⟨trivial, ?_⟩
        replace hT := hT.trans hs (by simp)
        replace hl := hl.st hs (by first | decide | (simp <;> omega))
        replace hx := hx.st hs (by first | decide | (simp <;> omega))
        replace h36 := h36.st hs (by first | decide | (simp <;> omega))
        replace g39 := g39.st hs (by first | decide | (simp <;> omega))
        replace h44 := h44.st hs (by first | decide | (simp <;> omega))
        refine yS (by kernel_rfl : opAt F37.o7 5 = some (some 4, .assign (.tmp 45), none)) rfl rfl (fun w' hS => val_assign rfl) ?_
        refine Sch.nil ?_
        refine run_ret1 (by kernel_rfl) Try.func37 Try.results37 rfl ?_
        have e : ([] ++ List.take k l ++ [c]) ++ List.drop k l = insC l c := by rw [hin2]; simp
        rw [e] at hn
        exact ⟨hT.out1 (by decide), hn.out hT hF0 (Mc_col1 C) (fun b _ => col1_lt C (by decide) b) (by have := insC_len c l; omega)⟩
      · skip
        intro w15 hs
        replace hF := hF.st hs
        replace hT := hT.trans hs (by simp)
        replace hl := hl.st hs (by first | decide | (simp <;> omega))
        replace hx := hx.st hs (by first | decide | (simp <;> omega))
        show Sch _ _ _ _ _ _ _ [(0, true), (1, true), (2, true), (4, true), (5, false), (3, false), (6, false), (7, true)] _ _
        have hR := Stp.refl [5] w15 (C1)
        refine yS (by kernel_rfl : opAt F37.o6 0 = some (some 34, .move (.tmp 0), none)) rfl rfl (fun w' hS => val_move rfl) ?_
        refine yS (by kernel_rfl : opAt F37.o6 1 = some (some 35, .move (.tmp 5), none)) rfl rfl (fun w' hS => val_move rfl) ?_
        refine sTR (e' := 25) (by kernel_rfl : opAt F37.o6 2 = some (some 36, .slice 38 (.tmp 34) none (some (.tmp 35)) none, none)) rfl rfl hl rfl (by kernel_rfl) rfl (by omega) (by omega) ?_
        intro v36 h36
        try simp only [Int.toNat_natCast] at h36
        refine yS (by kernel_rfl : opAt F37.o6 4 = some (some 38, .load 25 (.tmp 3), none)) rfl rfl (fun w' hS => val_loadOwnAgg (n := 2) (vs := encR c) (hx.stay hS (by decide)) (by kernel_rfl) (by kernel_rfl) rfl rfl rfl) ?_
        refine aS (by kernel_rfl : opAt F37.o6 5 = some (some 39, .buildSlice 38 1 #[(0, (.tmp 38))], none)) rfl rfl (a_buildSlice (ys := ([c] : List Couple)) (e := 25) (bytes := 16) hF (by kernel_rfl) rfl (by decide) (by decide) ⟨rfl, ⟨_, rfl, rv_couple.2 rfl⟩, trivial⟩) ?_
        rintro v39 w16 ⟨hs, g39, hF⟩
        refine ⟨(hR.trans hs (by simp)).ext, ?_⟩
        replace hT := hT.trans hs (by simp)
        replace hl := hl.st hs (by first | decide | (simp <;> omega))
        replace hx := hx.st hs (by first | decide | (simp <;> omega))
        replace hR := hR.trans hs (by simp)
        replace h36 := h36.st hs (by first | decide | (simp <;> omega))
        refine aS (by kernel_rfl : opAt F37.o6 3 = some (some 37, .call { callee := .builtin .append, args := #[(.const (.slice none 0 0)), (.tmp 36)], argTypes := #[38, 38] }, none)) rfl rfl (a_append (e := 25) (bytes := 16) hF (by decide) rfl rfl (by kernel_rfl) (by decide) (OwnL.nil (α := Couple) (j := 5)) h36 (by simp only [List.length_append, List.length_take, List.length_nil, List.length_drop, List.length_cons]; omega) (by simp only [List.length_append, List.length_take, List.length_nil, List.length_drop, List.length_cons]; omega)) ?_
        rintro v37 w17 ⟨Cw17, hs, hn, hF⟩
        refine ⟨(hR.trans hs (by simp)).ext, ?_⟩
        replace hT := hT.trans hs (by simp)
        replace hl := hl.st hs (by first | decide | (simp <;> omega))
        replace hx := hx.st hs (by first | decide | (simp <;> omega))
        replace hR := hR.trans hs (by simp)
        replace h36 := h36.st hs (by first | decide | (simp <;> omega))
        replace g39 := g39.st hs (by first | decide | (simp <;> omega))
        refine aS (by kernel_rfl : opAt F37.o6 6 = some (some 40, .call { callee := .builtin .append, args := #[(.tmp 37), (.tmp 39)], argTypes := #[38, 38] }, none)) rfl rfl (a_append (e := 25) (bytes := 16) hF (by decide) rfl rfl (by kernel_rfl) (by decide) hn g39 (by simp only [List.length_append, List.length_take, List.length_nil, List.length_drop, List.length_cons]; omega) (by simp only [List.length_append, List.length_take, List.length_nil, List.length_drop, List.length_cons]; omega)) ?_
        rintro v40 w18 ⟨Cw18, hs, hn, hF⟩
        refine ⟨(hR.trans hs (by simp)).ext, ?_⟩
        replace hT := hT.trans hs (by simp)
        replace hl := hl.st hs (by first | decide | (simp <;> omega))
        replace hx := hx.st hs (by first | decide | (simp <;> omega))
        replace hR := hR.trans hs (by simp)
        replace h36 := h36.st hs (by first | decide | (simp <;> omega))
        replace g39 := g39.st hs (by first | decide | (simp <;> omega))
        refine yS (by kernel_rfl : opAt F37.o6 7 = some (some 6, .assign (.tmp 40), none)) rfl rfl (fun w' hS => val_assign rfl) ?_
        refine Sch.nil ?_
        refine run_seq (x := F37.c26) (y := F37.c27) (by kernel_rfl) ?_
        refine run_plain (id := 7) (ops := F37.o7) [(0, true), (1, true), (2, true), (3, true), (4, false), (5, true)] (by kernel_rfl) (by kernel_rfl) ?_
        refine yS (by kernel_rfl : opAt F37.o7 0 = some (some 41, .move (.tmp 6), none)) rfl rfl (fun w' hS => val_move rfl) ?_
        refine yS (by kernel_rfl : opAt F37.o7 1 = some (some 42, .move (.tmp 0), none)) rfl rfl (fun w' hS => val_move rfl) ?_
        refine yS (by kernel_rfl : opAt F37.o7 2 = some (some 43, .move (.tmp 5), none)) rfl rfl (fun w' hS => val_move rfl) ?_
        refine sFR (e' := 25) (by kernel_rfl : opAt F37.o7 3 = some (some 44, .slice 38 (.tmp 42) (some (.tmp 43)) none none, none)) rfl rfl hl rfl (by kernel_rfl) rfl (by omega) (by omega) ?_
        intro v44 h44
        try simp only [Int.toNat_natCast] at h44
        refine aS (by kernel_rfl : opAt F37.o7 4 = some (some 45, .call { callee := .builtin .append, args := #[(.tmp 41), (.tmp 44)], argTypes := #[38, 38] }, none)) rfl rfl (a_append (e := 25) (bytes := 16) hF (by decide) rfl rfl (by kernel_rfl) (by decide) hn h44 (by simp only [List.length_append, List.length_take, List.length_nil, List.length_drop, List.length_cons]; omega) (by simp only [List.length_append, List.length_take, List.length_nil, List.length_drop, List.length_cons]; omega)) ?_
        rintro v45 w19 ⟨Cw19, hs, hn, hF⟩
        refine ⟨trivial, ?_⟩
        replace hT := hT.trans hs (by simp)
        replace hl := hl.st hs (by first | decide | (simp <;> omega))
        replace hx := hx.st hs (by first | decide | (simp <;> omega))
        replace h36 := h36.st hs (by first | decide | (simp <;> omega))
        replace g39 := g39.st hs (by first | decide | (simp <;> omega))
        replace h44 := h44.st hs (by first | decide | (simp <;> omega))
        refine yS (by kernel_rfl : opAt F37.o7 5 = some (some 4, .assign (.tmp 45), none)) rfl rfl (fun w' hS => val_assign rfl) ?_
        refine Sch.nil ?_
        refine run_ret1 (by kernel_rfl) Try.func37 Try.results37 rfl ?_
        have e : ([] ++ List.take k l ++ [c]) ++ List.drop k l = insC l c := by rw [hin2]; simp
        rw [e] at hn
        exact ⟨hT.out1 (by decide), hn.out hT hF0 (Mc_col1 C) (fun b _ => col1_lt C (by decide) b) (by have := insC_len c l; omega)⟩
namespace F18
noncomputable def c0 : Code := bodyOf Try.f18
noncomputable def c1 : Code := cl c0
noncomputable def o0 : Array Oper := rops c1
noncomputable def c2 : Code := cr c0
noncomputable def c3 : Code := cl c2
noncomputable def o1 : Array Oper := rops c3
noncomputable def c4 : Code := cr c2
noncomputable def c5 : Code := cl c4
noncomputable def c6 : Code := cl c5
noncomputable def o2 : Array Oper := rops c6
noncomputable def c7 : Code := cr c5
noncomputable def c8 : Code := cl c7
noncomputable def c9 : Code := cl c8
noncomputable def c10 : Code := cl c9
noncomputable def c11 : Code := cl c10
noncomputable def o3 : Array Oper := rops c11
noncomputable def c12 : Code := cr c10
noncomputable def c13 : Code := cl c12
noncomputable def c14 : Code := cr c12
noncomputable def c15 : Code := cr c9
noncomputable def c16 : Code := cl c15
noncomputable def c17 : Code := cl c16
noncomputable def o5 : Array Oper := rops c17
noncomputable def c18 : Code := cr c15
noncomputable def o4 : Array Oper := rops c18
noncomputable def c19 : Code := cr c4
noncomputable def c20 : Code := cl c19
noncomputable def o6 : Array Oper := rops c20
noncomputable def c21 : Code := cr c19
end F18
theorem refRefs_ok {w₀ : World} {C : Nat → Nat} {l : List Bond} {vl : Value} (hF : Lim w₀ C) (hl : RV w₀ (Mc C) l vl) (hlen : l.length ≤ 100000) : Calls Try.prog 18 #[vl] w₀ (Ret fun v w' => Stp [] w₀ C w' C ∧ RV w' (Mc C) (refsS l) v) := by
  have hF0 := hF
  have hT := Stp.refl [2, 3, 4, 5, 6, 7, 8, 9] w₀ (col1 C)
  replace hF := hF.col1
  replace hl : RV w₀ (Mc (col1 C)) l vl := by rw [Mc_col1]; exact hl
  refine calls_start (c := F18.c0) (N := 25) [vl] Try.func18 (by kernel_rfl) (by kernel_rfl) (by kernel_rfl) ?_
  show Run _ _ _ _ [(0, vl)] _ _
  refine run_seq (x := F18.c1) (y := F18.c2) (by kernel_rfl) ?_
  refine run_plain (id := 0) (ops := F18.o0) [(0, true)] (by kernel_rfl) (by kernel_rfl) ?_
  refine yS (by kernel_rfl : opAt F18.o0 0 = some (some 2, .assign (.const (.slice none 0 0)), none)) rfl rfl (fun w' hS => val_assign rfl) ?_
  refine Sch.nil ?_
  refine run_seq (x := F18.c3) (y := F18.c4) (by kernel_rfl) ?_
  refine run_plain (id := 1) (ops := F18.o1) [(0, true)] (by kernel_rfl) (by kernel_rfl) ?_
  refine yS (by kernel_rfl : opAt F18.o1 0 = some (some 3, .assign (.const (.slice none 0 0)), none)) rfl rfl (fun w' hS => val_assign rfl) ?_
  refine Sch.nil ?_
  refine run_seq (x := F18.c5) (y := F18.c19) (by kernel_rfl) ?_
  refine run_seq (x := F18.c6) (y := F18.c7) (by kernel_rfl) ?_
  refine run_plain (id := 2) (ops := F18.o2) [(0, true)] (by kernel_rfl) (by kernel_rfl) ?_
  refine yS (by kernel_rfl : opAt F18.o2 0 = some (some 4, .assign (.const (.int .i64 0)), none)) rfl rfl (fun w' hS => val_assign rfl) ?_
  refine Sch.nil ?_
  refine run_block (x := F18.c8) (id := 0) (by kernel_rfl) ?_
  
  refine run_loop (ι := Nat × Value × (Nat → Nat)) (I := fun x w => x.1 ≤ l.length ∧ Lim w x.2.2 ∧ Stp [2, 3, 4, 5, 6, 7, 8, 9] w₀ (col1 C) w x.2.2 ∧ RV w (Mc x.2.2) l vl ∧ RV w (Mc x.2.2) (refA (endsS (l.take x.1))) x.2.1) (e := fun x => [(0, vl), (3, x.2.1), (4, .int .i64 x.1)]) (m := fun x => l.length - x.1) (x₀ := (0, .slice none 0 0, col1 C)) (body := F18.c9) (by kernel_rfl) (sub_cons 0 rfl rfl (sub_cons 3 rfl rfl (sub_cons 4 rfl rfl (sub_nil _)))) ?_ ?_
  · exact ⟨Nat.zero_le _, hF, hT, hl, rv_nil⟩
  intro ⟨i, vo, C1⟩ w1 hI next
  obtain ⟨hi, hF, hT, hl, ho⟩ := hI
  try simp only at hi hF hT hl ho
  have next1 := next
  clear next
  show Run _ _ _ _ [(0, vl), (3, vo), (4, .int .i64 i)] _ _
  have hrl := refA_len (endsS (l.take i))
  rw [endsS_len, List.length_take] at hrl
  refine run_seq (x := F18.c10) (y := F18.c15) (by kernel_rfl) ?_
  refine run_seq (x := F18.c11) (y := F18.c12) (by kernel_rfl) ?_
  refine run_plain (id := 3) (ops := F18.o3) [(0, true), (1, true), (2, true), (3, true)] (by kernel_rfl) (by kernel_rfl) ?_
  refine yS (by kernel_rfl : opAt F18.o3 0 = some (some 5, .move (.tmp 4), none)) rfl rfl (fun w' hS => val_move rfl) ?_
  refine yS (by kernel_rfl : opAt F18.o3 1 = some (some 6, .move (.tmp 0), none)) rfl rfl (fun w' hS => val_move rfl) ?_
  refine yS (by kernel_rfl : opAt F18.o3 2 = some (some 7, .call { callee := .builtin .len, args := #[(.tmp 6)], argTypes := #[23] }, none)) rfl rfl (fun w' hS => hl.lenV rfl Try.underlying23 w' ) ?_
  refine yS (by kernel_rfl : opAt F18.o3 3 = some (some 8, .binOp .lss 3 (.tmp 5) (.tmp 7) 3, none)) rfl rfl (fun w' hS => val_lss rfl rfl) ?_
  refine Sch.nil ?_
  refine run_if (x := F18.c13) (y := F18.c14) (o := .tmp 8) (by kernel_rfl) rfl (fun h8 => ?_) (fun h8 => ?_)
  · skip
    have hil : i < l.length := by omega
    obtain ⟨os, hos⟩ : ∃ os, os = refA (endsS (l.take i)) := ⟨_, rfl⟩
    rw [← hos] at ho hrl
    have hil2 := insC_len l[i].A os
    refine run_skip (by kernel_rfl) ?_
    refine run_seq (x := F18.c16) (y := F18.c18) (by kernel_rfl) ?_
    refine run_block (x := F18.c17) (id := 1) (by kernel_rfl) ?_
    refine run_draw (id := 5) (ops := F18.o5) [] (C1) [(0, true), (1, true), (2, true), (3, true), (4, true), (5, true), (7, true), (8, true), (9, true), (10, true), (11, true), (6, false), (12, false), (13, true)] Try_mixed (by kernel_rfl) (by kernel_rfl) (by kernel_rfl) ?_
    intro w2 hs
    replace hF := hF.st hs
    replace hT := hT.trans hs (by simp)
    replace hl := hl.st hs (by first | decide | (simp <;> omega))
    replace ho := ho.st hs (by first | decide | (simp <;> omega))
    have hR := Stp.refl [] w2 (C1)
    refine yS (by kernel_rfl : opAt F18.o5 0 = some (some 11, .move (.tmp 3), none)) rfl rfl (fun w' hS => val_move rfl) ?_
    refine yS (by kernel_rfl : opAt F18.o5 1 = some (some 12, .move (.tmp 0), none)) rfl rfl (fun w' hS => val_move rfl) ?_
    refine yS (by kernel_rfl : opAt F18.o5 2 = some (some 13, .move (.tmp 4), none)) rfl rfl (fun w' hS => val_move rfl) ?_
    refine iS (e := 50) (by kernel_rfl : opAt F18.o5 3 = some (some 14, .indexAddr 23 (.tmp 12) (.tmp 13), none)) rfl rfl hl rfl (by kernel_rfl) rfl (by omega) (by omega) ?_
    intro b14 o14 h14
    try simp only [Int.toNat_natCast] at h14
    have h15 := RA.bA h14
    refine yS (by kernel_rfl : opAt F18.o5 4 = some (some 15, .fieldAddr 50 (.tmp 14) 0, none)) rfl rfl (fun w' hS => val_fieldAddr (off := 0) (by kernel_rfl) rfl) ?_
    refine lSA (by kernel_rfl : opAt F18.o5 5 = some (some 16, .load 25 (.tmp 15), none)) rfl rfl (fun w' hS => h15.stay hS (by decide)) h15 (by kernel_rfl) (by kernel_rfl) rfl rfl ?_
    intro v16 g16
    obtain rfl := rv_couple.1 g16
    refine yS (by kernel_rfl : opAt F18.o5 7 = some (some 18, .move (.tmp 0), none)) rfl rfl (fun w' hS => val_move rfl) ?_
    refine yS (by kernel_rfl : opAt F18.o5 8 = some (some 19, .move (.tmp 4), none)) rfl rfl (fun w' hS => val_move rfl) ?_
    refine iS (e := 50) (by kernel_rfl : opAt F18.o5 9 = some (some 20, .indexAddr 23 (.tmp 18) (.tmp 19), none)) rfl rfl hl rfl (by kernel_rfl) rfl (by omega) (by omega) ?_
    intro b20 o20 h20
    try simp only [Int.toNat_natCast] at h20
    have h21 := RA.bB h20
    refine yS (by kernel_rfl : opAt F18.o5 10 = some (some 21, .fieldAddr 50 (.tmp 20) 1, none)) rfl rfl (fun w' hS => val_fieldAddr (off := 2) (by kernel_rfl) rfl) ?_
    refine lSA (by kernel_rfl : opAt F18.o5 11 = some (some 22, .load 25 (.tmp 21), none)) rfl rfl (fun w' hS => h21.stay hS (by decide)) h21 (by kernel_rfl) (by kernel_rfl) rfl rfl ?_
    intro v22 g22
    obtain rfl := rv_couple.1 g22
    refine cS (by kernel_rfl : opAt F18.o5 6 = some (some 17, .call { callee := .value (.func 37), args := #[(.tmp 11), (.tmp 16)], argTypes := #[38, 25] }, none)) rfl rfl (ent Try.call37 rfl) (put_ok (c := l[i].A) hF ho (by omega)) ?_
    rintro vq1 w3 ⟨hs, hq1⟩
    refine ⟨(hR.trans hs (by simp)).ext, ?_⟩
    replace hF := hF.st hs
    replace hT := hT.trans hs (by simp)
    replace hl := hl.st hs (by first | decide | (simp <;> omega))
    replace ho := ho.st hs (by first | decide | (simp <;> omega))
    replace hR := hR.trans hs (by simp)
    replace h14 := h14.st hs (by first | decide | (simp <;> omega))
    replace h15 := h15.st hs (by first | decide | (simp <;> omega))
    replace g16 := g16.st hs (by first | decide | (simp <;> omega))
    replace h20 := h20.st hs (by first | decide | (simp <;> omega))
    replace h21 := h21.st hs (by first | decide | (simp <;> omega))
    replace g22 := g22.st hs (by first | decide | (simp <;> omega))
    refine cS (by kernel_rfl : opAt F18.o5 12 = some (some 23, .call { callee := .value (.func 37), args := #[(.tmp 17), (.tmp 22)], argTypes := #[38, 25] }, none)) rfl rfl (ent Try.call37 rfl) (put_ok (c := l[i].B) hF hq1 (by omega)) ?_
    rintro vq2 w4 ⟨hs, hq2⟩
    refine ⟨(hR.trans hs (by simp)).ext, ?_⟩
    replace hF := hF.st hs
    replace hT := hT.trans hs (by simp)
    replace hl := hl.st hs (by first | decide | (simp <;> omega))
    replace ho := ho.st hs (by first | decide | (simp <;> omega))
    replace hR := hR.trans hs (by simp)
    replace h14 := h14.st hs (by first | decide | (simp <;> omega))
    replace h15 := h15.st hs (by first | decide | (simp <;> omega))
    replace g16 := g16.st hs (by first | decide | (simp <;> omega))
    replace h20 := h20.st hs (by first | decide | (simp <;> omega))
    replace h21 := h21.st hs (by first | decide | (simp <;> omega))
    replace g22 := g22.st hs (by first | decide | (simp <;> omega))
    replace hq1 := hq1.st hs (by first | decide | (simp <;> omega))
    refine yS (by kernel_rfl : opAt F18.o5 13 = some (some 3, .assign (.tmp 23), none)) rfl rfl (fun w' hS => val_assign rfl) ?_
    refine Sch.nil ?_
    refine run_inBlock ?_
    refine run_plain (id := 4) (ops := F18.o4) [(0, true), (1, true), (2, true)] (by kernel_rfl) (by kernel_rfl) ?_
    refine yS (by kernel_rfl : opAt F18.o4 0 = some (some 9, .move (.tmp 4), none)) rfl rfl (fun w' hS => val_move rfl) ?_
    refine yS (by kernel_rfl : opAt F18.o4 1 = some (some 10, .binOp .add 3 (.tmp 9) (.const (.int .i64 1)) 3, none)) rfl rfl (fun w' hS => val_addi rfl rfl (by omega) (by omega)) ?_
    refine yS (by kernel_rfl : opAt F18.o4 2 = some (some 4, .assign (.tmp 10), none)) rfl rfl (fun w' hS => val_assign rfl) ?_
    refine Sch.nil ?_
    refine kp (sub_cons 0 rfl rfl (sub_cons 3 rfl rfl (sub_cons 4 rfl (eq_int (by simp)) (sub_nil _)))) (next1 (i + 1, vq2, C1) _ ⟨(by first | omega | (simp only; omega)), hF, hT, hl, (by simp only; rw [refA_take2 hil, ← hos]; exact hq2)⟩ (by first | omega | (simp only; omega)))
  · skip
    have hil : i = l.length := by omega
    subst hil
    rw [List.take_length, refA_ends] at ho
    refine run_exit (id := 0) (by kernel_rfl) rfl ?_
    refine run_seq (x := F18.c20) (y := F18.c21) (by kernel_rfl) ?_
    refine run_plain (id := 6) (ops := F18.o6) [(0, true), (1, true)] (by kernel_rfl) (by kernel_rfl) ?_
    refine yS (by kernel_rfl : opAt F18.o6 0 = some (some 24, .move (.tmp 3), none)) rfl rfl (fun w' hS => val_move rfl) ?_
    refine yS (by kernel_rfl : opAt F18.o6 1 = some (some 2, .assign (.tmp 24), none)) rfl rfl (fun w' hS => val_assign rfl) ?_
    refine Sch.nil ?_
    refine run_ret1 (by kernel_rfl) Try.func18 Try.results18 rfl ?_
    exact ⟨hT.out1 (by decide), ho.out hT hF0 (Mc_col1 C)⟩
end Go.Proofs.Ytfmdkdfhnkennaa

