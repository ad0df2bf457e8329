/- Steps through functions of the program. -/
import Derived.Test.YtgooehopkmbkfaaJU3
set_option linter.unusedVariables false
set_option linter.unusedSimpArgs false
set_option maxRecDepth 100000
set_option maxHeartbeats 4000000
namespace Go.Proofs.Ytgooehopkmbkfaa
open Go.K Go.K.Rep

namespace F53
noncomputable def c0 : Code := bodyOf Try.f53
noncomputable def c1 : Code := cl c0
noncomputable def o0 : Array Oper := rops c1
noncomputable def c2 : Code := cr c0
noncomputable def c3 : Code := cl c2
noncomputable def o1 : Array Oper := rops c3
noncomputable def c4 : Code := cr c2
noncomputable def c5 : Code := cl c4
noncomputable def o2 : Array Oper := rops c5
noncomputable def c6 : Code := cr c4
noncomputable def c7 : Code := cl c6
noncomputable def c8 : Code := cl c7
noncomputable def c9 : Code := cl c8
noncomputable def c10 : Code := cl c9
noncomputable def c11 : Code := cl c10
noncomputable def o3 : Array Oper := rops c11
noncomputable def c12 : Code := cr c10
noncomputable def c13 : Code := cl c12
noncomputable def c14 : Code := cr c12
noncomputable def c15 : Code := cr c9
noncomputable def c16 : Code := cl c15
noncomputable def c17 : Code := cl c16
noncomputable def o4 : Array Oper := rops c17
noncomputable def c18 : Code := cr c16
noncomputable def c19 : Code := cl c18
noncomputable def o5 : Array Oper := rops c19
noncomputable def c20 : Code := cr c18
noncomputable def c21 : Code := cl c20
noncomputable def o6 : Array Oper := rops c21
noncomputable def c22 : Code := cr c20
noncomputable def o7 : Array Oper := rops c22
noncomputable def c23 : Code := cr c6
noncomputable def c24 : Code := cl c23
noncomputable def o8 : Array Oper := rops c24
noncomputable def c25 : Code := cr c23
end F53
/-- 'slices.BinarySearchFunc' with 'compare'. -/
theorem bsearch_ok {w₀ : World} {C : Nat → Nat} {l : List K.Edge} {y : K.Edge} {vl : Value} (hF : Lim w₀ C) (hl : RV w₀ (Mc C) l vl) (hs0 : l.Pairwise ltE) (h62 : (l.length : Int) ≤ 4611686018427387904) :
    Calls Try.prog 53 #[vl, .agg #[.int .i64 y.a, .int .i64 y.b, .int .i64 y.w], .func (.func 31) #[] #[]] w₀ (Ret fun v w' => ∃ (k : Nat) (b : Bool), v = .tuple #[.int .i64 k, .bool b] ∧ Stp [] w₀ C w' C ∧ (b = true → ∃ hk : k < l.length, l[k].k = y.k) ∧ (b = false → ∀ x ∈ l, x.k ≠ y.k)) := by
  have hF0 := hF
  have hT := Stp.refl [2, 3, 4, 5, 6, 7, 8, 9] w₀ (col1 C)
  replace hF := hF.col1
  replace hl : RV w₀ (Mc (col1 C)) l vl := by rw [Mc_col1]; exact hl
  refine calls_start (c := F53.c0) (N := 49) [vl, .agg #[.int .i64 y.a, .int .i64 y.b, .int .i64 y.w], .func (.func 31) #[] #[]] Try.func53 (by kernel_rfl) (by kernel_rfl) (by kernel_rfl) ?_
  show Run _ _ _ _ [(0, vl), (1, .agg #[.int .i64 y.a, .int .i64 y.b, .int .i64 y.w]), (2, .func (.func 31) #[] #[])] _ _
  refine run_seq (x := F53.c1) (y := F53.c2) (by kernel_rfl) ?_
  refine run_plain (id := 0) (ops := F53.o0) [(0, false), (1, true), (2, true)] (by kernel_rfl) (by kernel_rfl) ?_
  refine aS (by kernel_rfl : opAt F53.o0 0 = some (some 4, .box 46 (.tmp 1), none)) rfl rfl (a_box (cs := [.int .i64 y.a, .int .i64 y.b, .int .i64 y.w]) hF 3 rfl rfl) ?_
  rintro _ w1 ⟨Cw1, bw1, rfl, hs, hy, hF⟩
  refine ⟨trivial, ?_⟩
  replace hT := hT.trans hs (by simp)
  replace hl := hl.st hs (by first | decide | (simp <;> omega))
  refine yS (by kernel_rfl : opAt F53.o0 1 = some (some 6, .assign (.const (.int .i64 0)), none)) rfl rfl (fun w' hS => val_assign rfl) ?_
  refine yS (by kernel_rfl : opAt F53.o0 2 = some (some 7, .assign (.const (.bool false)), none)) rfl rfl (fun w' hS => val_assign rfl) ?_
  refine Sch.nil ?_
  refine run_seq (x := F53.c3) (y := F53.c4) (by kernel_rfl) ?_
  refine run_plain (id := 1) (ops := F53.o1) [(0, true), (1, true), (2, true)] (by kernel_rfl) (by kernel_rfl) ?_
  refine yS (by kernel_rfl : opAt F53.o1 0 = some (some 12, .move (.tmp 0), none)) rfl rfl (fun w' hS => val_move rfl) ?_
  refine yS (by kernel_rfl : opAt F53.o1 1 = some (some 13, .call { callee := .builtin .len, args := #[(.tmp 12)], argTypes := #[23] }, none)) rfl rfl (fun w' hS => hl.lenV rfl Try.underlying23 w' ) ?_
  refine yS (by kernel_rfl : opAt F53.o1 2 = some (some 8, .assign (.tmp 13), none)) rfl rfl (fun w' hS => val_assign rfl) ?_
  refine Sch.nil ?_
  refine run_seq (x := F53.c5) (y := F53.c6) (by kernel_rfl) ?_
  refine run_plain (id := 2) (ops := F53.o2) [(0, true), (1, true), (2, true)] (by kernel_rfl) (by kernel_rfl) ?_
  refine yS (by kernel_rfl : opAt F53.o2 0 = some (some 14, .move (.tmp 8), none)) rfl rfl (fun w' hS => val_move rfl) ?_
  refine yS (by kernel_rfl : opAt F53.o2 1 = some (some 9, .assign (.const (.int .i64 0)), none)) rfl rfl (fun w' hS => val_assign rfl) ?_
  refine yS (by kernel_rfl : opAt F53.o2 2 = some (some 10, .assign (.tmp 14), none)) rfl rfl (fun w' hS => val_assign rfl) ?_
  refine Sch.nil ?_
  refine run_seq (x := F53.c7) (y := F53.c23) (by kernel_rfl) ?_
  refine run_block (x := F53.c8) (id := 0) (by kernel_rfl) ?_
  
  refine run_loop (ι := Nat × Nat × (Nat → Nat)) (I := fun x w => BS l y.k x.1 x.2.1 ∧ Lim w x.2.2 ∧ Stp [2, 3, 4, 5, 6, 7, 8, 9] w₀ (col1 C) w x.2.2 ∧ RV w (Mc x.2.2) l vl ∧ OwnB w x.2.2 3 bw1 (.cells [.int .i64 y.a, .int .i64 y.b, .int .i64 y.w].toArray 46)) (e := fun x => [(0, vl), (2, .func (.func 31) #[] #[]), (4, .pointer (some ⟨bw1, 0, none⟩)), (8, .int .i64 l.length), (9, .int .i64 x.1), (10, .int .i64 x.2.1)]) (m := fun x => x.2.1 - x.1) (x₀ := (0, l.length, Cw1)) (body := F53.c9) (by kernel_rfl) (sub_cons 0 rfl rfl (sub_cons 2 rfl rfl (sub_cons 4 rfl rfl (sub_cons 8 rfl rfl (sub_cons 9 rfl rfl (sub_cons 10 rfl rfl (sub_nil _))))))) ?_ ?_
  · exact ⟨BS.start, hF, hT, hl, hy⟩
  intro ⟨i, j, C1⟩ w2 hI next
  obtain ⟨hbs, hF, hT, hl, hy⟩ := hI
  try simp only at hbs hF hT hl hy
  have next1 := next
  clear next
  show Run _ _ _ _ [(0, vl), (2, .func (.func 31) #[] #[]), (4, .pointer (some ⟨bw1, 0, none⟩)), (8, .int .i64 l.length), (9, .int .i64 i), (10, .int .i64 j)] _ _
  have hle := hl.le
  have hb1 := hbs.ij
  have hb2 := hbs.jl
  refine run_seq (x := F53.c10) (y := F53.c15) (by kernel_rfl) ?_
  refine run_seq (x := F53.c11) (y := F53.c12) (by kernel_rfl) ?_
  refine run_plain (id := 3) (ops := F53.o3) [(0, true), (1, true), (2, true)] (by kernel_rfl) (by kernel_rfl) ?_
  refine yS (by kernel_rfl : opAt F53.o3 0 = some (some 15, .move (.tmp 9), none)) rfl rfl (fun w' hS => val_move rfl) ?_
  refine yS (by kernel_rfl : opAt F53.o3 1 = some (some 16, .move (.tmp 10), none)) rfl rfl (fun w' hS => val_move rfl) ?_
  refine yS (by kernel_rfl : opAt F53.o3 2 = some (some 17, .binOp .lss 3 (.tmp 15) (.tmp 16) 3, none)) rfl rfl (fun w' hS => val_lss rfl rfl) ?_
  refine Sch.nil ?_
  refine run_if (x := F53.c13) (y := F53.c14) (o := .tmp 17) (by kernel_rfl) rfl (fun h17 => ?_) (fun h17 => ?_)
  · skip
    have hij : i < j := by omega
    refine run_skip (by kernel_rfl) ?_
    refine run_block (x := F53.c16) (id := 1) (by kernel_rfl) ?_
    refine run_seq (x := F53.c17) (y := F53.c18) (by kernel_rfl) ?_
    refine run_plain (id := 4) (ops := F53.o4) [(0, true), (1, true), (2, true), (3, true), (4, true), (5, true), (6, true)] (by kernel_rfl) (by kernel_rfl) ?_
    refine yS (by kernel_rfl : opAt F53.o4 0 = some (some 18, .move (.tmp 9), none)) rfl rfl (fun w' hS => val_move rfl) ?_
    refine yS (by kernel_rfl : opAt F53.o4 1 = some (some 19, .move (.tmp 10), none)) rfl rfl (fun w' hS => val_move rfl) ?_
    refine yS (by kernel_rfl : opAt F53.o4 2 = some (some 20, .binOp .add 3 (.tmp 18) (.tmp 19) 3, none)) rfl rfl (fun w' hS => val_addi rfl rfl (by omega) (by omega)) ?_
    refine yS (by kernel_rfl : opAt F53.o4 3 = some (some 21, .convert 3 58 (.tmp 20), none)) rfl rfl (fun w' hS => val_conv_int rfl ⟨_, Try.underlying3⟩ Try.underlying58) ?_
    refine yS (by kernel_rfl : opAt F53.o4 4 = some (some 22, .binOp .shr 58 (.tmp 21) (.const (.int .u64 1)) 58, none)) rfl rfl (fun w' hS => val_shr rfl rfl (by omega)) ?_
    refine yS (by kernel_rfl : opAt F53.o4 5 = some (some 23, .convert 58 3 (.tmp 22), none)) rfl rfl (fun w' hS => val_convE rfl ⟨_, Try.underlying58⟩ Try.underlying3 (half64 (i := i) (j := j) (by omega) (by omega))) ?_
    refine yS (by kernel_rfl : opAt F53.o4 6 = some (some 11, .assign (.tmp 23), none)) rfl rfl (fun w' hS => val_assign rfl) ?_
    refine Sch.nil ?_
    obtain ⟨k, hk⟩ : ∃ k, k = (i + j) / 2 := ⟨_, rfl⟩
    rw [← hk]
    have hkl : k < l.length := by omega
    refine run_seq (x := F53.c19) (y := F53.c20) (by kernel_rfl) ?_
    refine run_draw (id := 5) (ops := F53.o5) [] (C1) [(0, true), (1, true), (2, true), (3, true), (4, true), (5, true), (6, false), (7, true)] Try_mixed (by kernel_rfl) (by kernel_rfl) (by kernel_rfl) ?_
    intro w3 hs
    replace hF := hF.st hs
    replace hT := hT.trans hs (by simp)
    replace hl := hl.st hs (by first | decide | (simp <;> omega))
    replace hy := hy.st hs (by first | decide | (simp <;> omega))
    have hR := Stp.refl [] w3 (C1)
    refine yS (by kernel_rfl : opAt F53.o5 0 = some (some 24, .move (.tmp 2), none)) rfl rfl (fun w' hS => val_move rfl) ?_
    refine yS (by kernel_rfl : opAt F53.o5 1 = some (some 25, .move (.tmp 0), none)) rfl rfl (fun w' hS => val_move rfl) ?_
    refine yS (by kernel_rfl : opAt F53.o5 2 = some (some 26, .move (.tmp 11), none)) rfl rfl (fun w' hS => val_move rfl) ?_
    refine iS (e := 46) (by kernel_rfl : opAt F53.o5 3 = some (some 27, .indexAddr 23 (.tmp 25) (.tmp 26), none)) rfl rfl hl rfl (by kernel_rfl) rfl (by omega) (by omega) ?_
    intro b27 o27 h27
    try simp only [Int.toNat_natCast] at h27
    refine lSA (by kernel_rfl : opAt F53.o5 4 = some (some 28, .load 46 (.tmp 27), none)) rfl rfl (fun w' hS => h27.stay hS (by first | decide | (simp <;> omega))) h27 (by kernel_rfl) (by kernel_rfl) rfl rfl ?_
    intro v28 g28
    obtain rfl := rv_edge.1 g28
    refine yS (by kernel_rfl : opAt F53.o5 5 = some (some 29, .load 46 (.tmp 4), none)) rfl rfl (fun w' hS => val_loadOwnAgg (n := 3) (vs := encE y) (hy.stay hS (by decide)) (by kernel_rfl) (by kernel_rfl) rfl rfl rfl) ?_
    refine cS (by kernel_rfl : opAt F53.o5 6 = some (some 30, .call { callee := .value (.tmp 24), args := #[(.tmp 28), (.tmp 29)], argTypes := #[46, 46] }, none)) rfl rfl (enters_func Try.call31 rfl rfl) (ecompare_ok (x := l[k]'hkl) (y := y) hF) ?_
    rintro vw4 w4 ⟨rfl, hs⟩
    refine ⟨(hR.trans hs (by simp)).ext, ?_⟩
    replace hF := hF.st hs
    replace hT := hT.trans hs (by simp)
    replace hl := hl.st hs (by first | decide | (simp <;> omega))
    replace hy := hy.st hs (by first | decide | (simp <;> omega))
    replace hR := hR.trans hs (by simp)
    replace h27 := h27.st hs (by first | decide | (simp <;> omega))
    replace g28 := g28.st hs (by first | decide | (simp <;> omega))
    refine yS (by kernel_rfl : opAt F53.o5 7 = some (some 31, .binOp .lss 3 (.tmp 30) (.const (.int .i64 0)) 3, none)) rfl rfl (fun w' hS => val_lss rfl rfl) ?_
    refine Sch.nil ?_
    refine run_if (x := F53.c21) (y := F53.c22) (o := .tmp 31) (by kernel_rfl) rfl (fun h31 => ?_) (fun h31 => ?_)
    · skip
      rw [cmpC_neg] at h31
      refine run_plain (id := 6) (ops := F53.o6) [(0, true), (1, true), (2, true)] (by kernel_rfl) (by kernel_rfl) ?_
      refine yS (by kernel_rfl : opAt F53.o6 0 = some (some 32, .move (.tmp 11), none)) rfl rfl (fun w' hS => val_move rfl) ?_
      refine yS (by kernel_rfl : opAt F53.o6 1 = some (some 33, .binOp .add 3 (.tmp 32) (.const (.int .i64 1)) 3, none)) rfl rfl (fun w' hS => val_addi rfl rfl (by omega) (by omega)) ?_
      refine yS (by kernel_rfl : opAt F53.o6 2 = some (some 9, .assign (.tmp 33), none)) rfl rfl (fun w' hS => val_assign rfl) ?_
      refine Sch.nil ?_
      refine run_inBlock ?_
      refine kp (sub_cons 0 rfl rfl (sub_cons 2 rfl rfl (sub_cons 4 rfl rfl (sub_cons 8 rfl rfl (sub_cons 9 rfl (eq_int (by simp)) (sub_cons 10 rfl rfl (sub_nil _))))))) (next1 (k + 1, j, C1) _ ⟨(by simp only; subst hk; exact hbs.low hs0 hij (fun _ => h31)), hF, hT, hl, hy⟩ (by first | omega | (simp only; omega)))
    · skip
      rw [cmpC_neg] at h31
      refine run_plain (id := 7) (ops := F53.o7) [(0, true), (1, true)] (by kernel_rfl) (by kernel_rfl) ?_
      refine yS (by kernel_rfl : opAt F53.o7 0 = some (some 34, .move (.tmp 11), none)) rfl rfl (fun w' hS => val_move rfl) ?_
      refine yS (by kernel_rfl : opAt F53.o7 1 = some (some 10, .assign (.tmp 34), none)) rfl rfl (fun w' hS => val_assign rfl) ?_
      refine Sch.nil ?_
      refine run_inBlock ?_
      refine kp (sub_cons 0 rfl rfl (sub_cons 2 rfl rfl (sub_cons 4 rfl rfl (sub_cons 8 rfl rfl (sub_cons 9 rfl rfl (sub_cons 10 rfl rfl (sub_nil _))))))) (next1 (i, k, C1) _ ⟨(by simp only; subst hk; exact hbs.high hs0 hij (fun _ => h31)), hF, hT, hl, hy⟩ (by first | omega | (simp only; omega)))
  · skip
    have hij : ¬ i < j := by omega
    refine run_exit (id := 0) (by kernel_rfl) rfl ?_
    refine run_seq (x := F53.c24) (y := F53.c25) (by kernel_rfl) ?_
    by_cases hA : i < l.length
    · skip
      by_cases hB : cmpC (l[i]'(by omega)).k y.k = 0
      · skip
        refine run_draw (id := 8) (ops := F53.o8) [] (C1) [(0, true), (1, true), (2, true), (3, true), (4, true), (5, true), (6, true), (7, true), (8, true), (9, true), (10, true), (11, false), (12, true), (13, true), (14, true), (15, true)] Try_mixed (by kernel_rfl) (by kernel_rfl) (by kernel_rfl) ?_
        intro w5 hs
        replace hF := hF.st hs
        replace hT := hT.trans hs (by simp)
        replace hl := hl.st hs (by first | decide | (simp <;> omega))
        replace hy := hy.st hs (by first | decide | (simp <;> omega))
        have hR := Stp.refl [] w5 (C1)
        refine yS (by kernel_rfl : opAt F53.o8 0 = some (some 35, .move (.tmp 9), none)) rfl rfl (fun w' hS => val_move rfl) ?_
        refine yS (by kernel_rfl : opAt F53.o8 1 = some (some 36, .move (.tmp 9), none)) rfl rfl (fun w' hS => val_move rfl) ?_
        refine yS (by kernel_rfl : opAt F53.o8 2 = some (some 37, .move (.tmp 8), none)) rfl rfl (fun w' hS => val_move rfl) ?_
        refine yS (by kernel_rfl : opAt F53.o8 3 = some (some 38, .binOp .lss 3 (.tmp 36) (.tmp 37) 3, none)) rfl rfl (fun w' hS => val_T (val_lss rfl rfl) (by omega : (i : Int) < l.length)) ?_
        refine yS (by kernel_rfl : opAt F53.o8 4 = some (some 39, .move (.tmp 38), none)) rfl rfl (fun w' hS => val_move rfl) ?_
        refine yS (by kernel_rfl : opAt F53.o8 5 = some (some 40, .move (.tmp 2), (some (4, true)))) rfl rfl (fun w' hS => val_move rfl) ?_
        refine yS (by kernel_rfl : opAt F53.o8 6 = some (some 41, .move (.tmp 0), (some (4, true)))) rfl rfl (fun w' hS => val_move rfl) ?_
        refine yS (by kernel_rfl : opAt F53.o8 7 = some (some 42, .move (.tmp 9), (some (4, true)))) rfl rfl (fun w' hS => val_move rfl) ?_
        refine iS (e := 46) (by kernel_rfl : opAt F53.o8 8 = some (some 43, .indexAddr 23 (.tmp 41) (.tmp 42), (some (4, true)))) rfl rfl hl rfl (by kernel_rfl) rfl (by omega) (by omega) ?_
        intro b43 o43 h43
        try simp only [Int.toNat_natCast] at h43
        refine lSA (by kernel_rfl : opAt F53.o8 9 = some (some 44, .load 46 (.tmp 43), (some (4, true)))) rfl rfl (fun w' hS => h43.stay hS (by first | decide | (simp <;> omega))) h43 (by kernel_rfl) (by kernel_rfl) rfl rfl ?_
        intro v44 g44
        obtain rfl := rv_edge.1 g44
        refine yS (by kernel_rfl : opAt F53.o8 10 = some (some 45, .load 46 (.tmp 4), (some (4, true)))) rfl rfl (fun w' hS => val_loadOwnAgg (n := 3) (vs := encE y) (hy.stay hS (by decide)) (by kernel_rfl) (by kernel_rfl) rfl rfl rfl) ?_
        refine cS (by kernel_rfl : opAt F53.o8 11 = some (some 46, .call { callee := .value (.tmp 40), args := #[(.tmp 44), (.tmp 45)], argTypes := #[46, 46] }, (some (4, true)))) rfl rfl (enters_func Try.call31 rfl rfl) (ecompare_ok (x := l[i]'(by omega)) (y := y) hF) ?_
        rintro vw6 w6 ⟨rfl, hs⟩
        refine ⟨(hR.trans hs (by simp)).ext, ?_⟩
        replace hF := hF.st hs
        replace hT := hT.trans hs (by simp)
        replace hl := hl.st hs (by first | decide | (simp <;> omega))
        replace hy := hy.st hs (by first | decide | (simp <;> omega))
        replace hR := hR.trans hs (by simp)
        replace h43 := h43.st hs (by first | decide | (simp <;> omega))
        replace g44 := g44.st hs (by first | decide | (simp <;> omega))
        refine yS (by kernel_rfl : opAt F53.o8 12 = some (some 47, .binOp .eql 3 (.tmp 46) (.const (.int .i64 0)) 3, (some (4, true)))) rfl rfl (fun w' hS => val_T (val_eql rfl rfl) hB) ?_
        refine yS (by kernel_rfl : opAt F53.o8 13 = some (some 48, .pick (.tmp 39) (.tmp 47) (.const (.bool false)), none)) rfl rfl (fun w' hS => val_pick_t rfl rfl) ?_
        refine yS (by kernel_rfl : opAt F53.o8 14 = some (some 6, .assign (.tmp 35), none)) rfl rfl (fun w' hS => val_assign rfl) ?_
        refine yS (by kernel_rfl : opAt F53.o8 15 = some (some 7, .assign (.tmp 48), none)) rfl rfl (fun w' hS => val_assign rfl) ?_
        refine Sch.nil ?_
        refine run_ret2 (by kernel_rfl) Try.func53 Try.results53 rfl rfl ?_
        exact ⟨i, true, rfl, hT.out1 (by decide), fun _ => ⟨hA, cmpC_zero.1 hB⟩, fun e => by cases e⟩
      · skip
        refine run_draw (id := 8) (ops := F53.o8) [] (C1) [(0, true), (1, true), (2, true), (3, true), (4, true), (5, true), (6, true), (7, true), (8, true), (9, true), (10, true), (11, false), (12, true), (13, true), (14, true), (15, true)] Try_mixed (by kernel_rfl) (by kernel_rfl) (by kernel_rfl) ?_
        intro w7 hs
        replace hF := hF.st hs
        replace hT := hT.trans hs (by simp)
        replace hl := hl.st hs (by first | decide | (simp <;> omega))
        replace hy := hy.st hs (by first | decide | (simp <;> omega))
        have hR := Stp.refl [] w7 (C1)
        refine yS (by kernel_rfl : opAt F53.o8 0 = some (some 35, .move (.tmp 9), none)) rfl rfl (fun w' hS => val_move rfl) ?_
        refine yS (by kernel_rfl : opAt F53.o8 1 = some (some 36, .move (.tmp 9), none)) rfl rfl (fun w' hS => val_move rfl) ?_
        refine yS (by kernel_rfl : opAt F53.o8 2 = some (some 37, .move (.tmp 8), none)) rfl rfl (fun w' hS => val_move rfl) ?_
        refine yS (by kernel_rfl : opAt F53.o8 3 = some (some 38, .binOp .lss 3 (.tmp 36) (.tmp 37) 3, none)) rfl rfl (fun w' hS => val_T (val_lss rfl rfl) (by omega : (i : Int) < l.length)) ?_
        refine yS (by kernel_rfl : opAt F53.o8 4 = some (some 39, .move (.tmp 38), none)) rfl rfl (fun w' hS => val_move rfl) ?_
        refine yS (by kernel_rfl : opAt F53.o8 5 = some (some 40, .move (.tmp 2), (some (4, true)))) rfl rfl (fun w' hS => val_move rfl) ?_
        refine yS (by kernel_rfl : opAt F53.o8 6 = some (some 41, .move (.tmp 0), (some (4, true)))) rfl rfl (fun w' hS => val_move rfl) ?_
        refine yS (by kernel_rfl : opAt F53.o8 7 = some (some 42, .move (.tmp 9), (some (4, true)))) rfl rfl (fun w' hS => val_move rfl) ?_
        refine iS (e := 46) (by kernel_rfl : opAt F53.o8 8 = some (some 43, .indexAddr 23 (.tmp 41) (.tmp 42), (some (4, true)))) rfl rfl hl rfl (by kernel_rfl) rfl (by omega) (by omega) ?_
        intro b43 o43 h43
        try simp only [Int.toNat_natCast] at h43
        refine lSA (by kernel_rfl : opAt F53.o8 9 = some (some 44, .load 46 (.tmp 43), (some (4, true)))) rfl rfl (fun w' hS => h43.stay hS (by first | decide | (simp <;> omega))) h43 (by kernel_rfl) (by kernel_rfl) rfl rfl ?_
        intro v44 g44
        obtain rfl := rv_edge.1 g44
        refine yS (by kernel_rfl : opAt F53.o8 10 = some (some 45, .load 46 (.tmp 4), (some (4, true)))) rfl rfl (fun w' hS => val_loadOwnAgg (n := 3) (vs := encE y) (hy.stay hS (by decide)) (by kernel_rfl) (by kernel_rfl) rfl rfl rfl) ?_
        refine cS (by kernel_rfl : opAt F53.o8 11 = some (some 46, .call { callee := .value (.tmp 40), args := #[(.tmp 44), (.tmp 45)], argTypes := #[46, 46] }, (some (4, true)))) rfl rfl (enters_func Try.call31 rfl rfl) (ecompare_ok (x := l[i]'(by omega)) (y := y) hF) ?_
        rintro vw8 w8 ⟨rfl, hs⟩
        refine ⟨(hR.trans hs (by simp)).ext, ?_⟩
        replace hF := hF.st hs
        replace hT := hT.trans hs (by simp)
        replace hl := hl.st hs (by first | decide | (simp <;> omega))
        replace hy := hy.st hs (by first | decide | (simp <;> omega))
        replace hR := hR.trans hs (by simp)
        replace h43 := h43.st hs (by first | decide | (simp <;> omega))
        replace g44 := g44.st hs (by first | decide | (simp <;> omega))
        refine yS (by kernel_rfl : opAt F53.o8 12 = some (some 47, .binOp .eql 3 (.tmp 46) (.const (.int .i64 0)) 3, (some (4, true)))) rfl rfl (fun w' hS => val_F (val_eql rfl rfl) hB) ?_
        refine yS (by kernel_rfl : opAt F53.o8 13 = some (some 48, .pick (.tmp 39) (.tmp 47) (.const (.bool false)), none)) rfl rfl (fun w' hS => val_pick_t rfl rfl) ?_
        refine yS (by kernel_rfl : opAt F53.o8 14 = some (some 6, .assign (.tmp 35), none)) rfl rfl (fun w' hS => val_assign rfl) ?_
        refine yS (by kernel_rfl : opAt F53.o8 15 = some (some 7, .assign (.tmp 48), none)) rfl rfl (fun w' hS => val_assign rfl) ?_
        refine Sch.nil ?_
        refine run_ret2 (by kernel_rfl) Try.func53 Try.results53 rfl rfl ?_
        exact ⟨i, false, rfl, hT.out1 (by decide), fun e => (by cases e), fun _ x hx e => by
          obtain ⟨a, b⟩ := (hbs.fin hij hs0).2 ⟨x, hx, e⟩
          first | exact hB b | exact hA a⟩
    · skip
      refine run_draw (id := 8) (ops := F53.o8) [] (C1) [(0, true), (1, true), (2, true), (3, true), (4, true), (5, true), (6, true), (7, true), (8, true), (9, true), (10, true), (11, false), (12, true), (13, true), (14, true), (15, true)] Try_mixed (by kernel_rfl) (by kernel_rfl) (by kernel_rfl) ?_
      intro w9 hs
      replace hF := hF.st hs
      replace hT := hT.trans hs (by simp)
      replace hl := hl.st hs (by first | decide | (simp <;> omega))
      replace hy := hy.st hs (by first | decide | (simp <;> omega))
      have hR := Stp.refl [] w9 (C1)
      refine yS (by kernel_rfl : opAt F53.o8 0 = some (some 35, .move (.tmp 9), none)) rfl rfl (fun w' hS => val_move rfl) ?_
      refine yS (by kernel_rfl : opAt F53.o8 1 = some (some 36, .move (.tmp 9), none)) rfl rfl (fun w' hS => val_move rfl) ?_
      refine yS (by kernel_rfl : opAt F53.o8 2 = some (some 37, .move (.tmp 8), none)) rfl rfl (fun w' hS => val_move rfl) ?_
      refine yS (by kernel_rfl : opAt F53.o8 3 = some (some 38, .binOp .lss 3 (.tmp 36) (.tmp 37) 3, none)) rfl rfl (fun w' hS => val_F (val_lss rfl rfl) (by omega : ¬ (i : Int) < l.length)) ?_
      refine yS (by kernel_rfl : opAt F53.o8 4 = some (some 39, .move (.tmp 38), none)) rfl rfl (fun w' hS => val_move rfl) ?_
      refine pS (by kernel_rfl : opAt F53.o8 5 = some (some 40, .move (.tmp 2), (some (4, true)))) rfl rfl ?_
      refine pS (by kernel_rfl : opAt F53.o8 6 = some (some 41, .move (.tmp 0), (some (4, true)))) rfl rfl ?_
      refine pS (by kernel_rfl : opAt F53.o8 7 = some (some 42, .move (.tmp 9), (some (4, true)))) rfl rfl ?_
      refine pS (by kernel_rfl : opAt F53.o8 8 = some (some 43, .indexAddr 23 (.tmp 41) (.tmp 42), (some (4, true)))) rfl rfl ?_
      refine pS (by kernel_rfl : opAt F53.o8 9 = some (some 44, .load 46 (.tmp 43), (some (4, true)))) rfl rfl ?_
      refine pS (by kernel_rfl : opAt F53.o8 10 = some (some 45, .load 46 (.tmp 4), (some (4, true)))) rfl rfl ?_
      refine pW (by kernel_rfl : opAt F53.o8 11 = some (some 46, .call { callee := .value (.tmp 40), args := #[(.tmp 44), (.tmp 45)], argTypes := #[46, 46] }, (some (4, true)))) rfl rfl hR.ext ?_
      refine pS (by kernel_rfl : opAt F53.o8 12 = some (some 47, .binOp .eql 3 (.tmp 46) (.const (.int .i64 0)) 3, (some (4, true)))) rfl rfl ?_
      refine yS (by kernel_rfl : opAt F53.o8 13 = some (some 48, .pick (.tmp 39) (.tmp 47) (.const (.bool false)), none)) rfl rfl (fun w' hS => val_pick_f rfl rfl) ?_
      refine yS (by kernel_rfl : opAt F53.o8 14 = some (some 6, .assign (.tmp 35), none)) rfl rfl (fun w' hS => val_assign rfl) ?_
      refine yS (by kernel_rfl : opAt F53.o8 15 = some (some 7, .assign (.tmp 48), none)) rfl rfl (fun w' hS => val_assign rfl) ?_
      refine Sch.nil ?_
      refine run_ret2 (by kernel_rfl) Try.func53 Try.results53 rfl rfl ?_
      exact ⟨i, false, rfl, hT.out1 (by decide), fun e => (by cases e), fun _ x hx e => by
        obtain ⟨a, b⟩ := (hbs.fin hij hs0).2 ⟨x, hx, e⟩
        first | exact hB b | exact hA a⟩
end Go.Proofs.Ytgooehopkmbkfaa
