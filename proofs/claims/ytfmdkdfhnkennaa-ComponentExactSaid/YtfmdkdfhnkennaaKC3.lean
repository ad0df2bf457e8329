/- Steps through functions of the program. -/
import Derived.Test.YtfmdkdfhnkennaaKC2
set_option linter.unusedVariables false
set_option linter.unusedSimpArgs false
set_option maxRecDepth 100000
set_option maxHeartbeats 400000
namespace Go.Proofs.Ytfmdkdfhnkennaa
open Go.K Go.K.Rep

namespace F36
noncomputable def c0 : Code := bodyOf Try.f36
noncomputable def c1 : Code := cl c0
noncomputable def o0 : Array Oper := rops c1
noncomputable def c2 : Code := cr c0
noncomputable def c3 : Code := cl c2
noncomputable def c4 : Code := cl c3
noncomputable def o1 : Array Oper := rops c4
noncomputable def c5 : Code := cr c3
noncomputable def c6 : Code := cl c5
noncomputable def c7 : Code := cl c6
noncomputable def o2 : Array Oper := rops c7
noncomputable def c8 : Code := cr c6
noncomputable def c9 : Code := cr c5
noncomputable def c10 : Code := cr c2
noncomputable def c11 : Code := cl c10
noncomputable def c12 : Code := cl c11
noncomputable def o3 : Array Oper := rops c12
noncomputable def c13 : Code := cr c11
noncomputable def c14 : Code := cl c13
noncomputable def c15 : Code := cl c14
noncomputable def c16 : Code := cl c15
noncomputable def c17 : Code := cl c16
noncomputable def o4 : Array Oper := rops c17
noncomputable def c18 : Code := cr c16
noncomputable def c19 : Code := cl c18
noncomputable def c20 : Code := cr c18
noncomputable def c21 : Code := cr c15
noncomputable def c22 : Code := cl c21
noncomputable def c23 : Code := cl c22
noncomputable def c24 : Code := cl c23
noncomputable def o6 : Array Oper := rops c24
noncomputable def c25 : Code := cr c23
noncomputable def c26 : Code := cl c25
noncomputable def c27 : Code := cl c26
noncomputable def o7 : Array Oper := rops c27
noncomputable def c28 : Code := cr c26
noncomputable def c29 : Code := cl c28
noncomputable def c30 : Code := cl c29
noncomputable def o8 : Array Oper := rops c30
noncomputable def c31 : Code := cr c29
noncomputable def c32 : Code := cl c31
noncomputable def c33 : Code := cl c32
noncomputable def c34 : Code := cl c33
noncomputable def c35 : Code := cl c34
noncomputable def o9 : Array Oper := rops c35
noncomputable def c36 : Code := cr c34
noncomputable def c37 : Code := cl c36
noncomputable def c38 : Code := cr c36
noncomputable def c39 : Code := cr c33
noncomputable def c40 : Code := cl c39
noncomputable def c41 : Code := cl c40
noncomputable def c42 : Code := cl c41
noncomputable def o11 : Array Oper := rops c42
noncomputable def c43 : Code := cr c41
noncomputable def c44 : Code := cl c43
noncomputable def c45 : Code := cl c44
noncomputable def o12 : Array Oper := rops c45
noncomputable def c46 : Code := cr c44
noncomputable def o13 : Array Oper := rops c46
noncomputable def c47 : Code := cr c43
noncomputable def c48 : Code := cr c39
noncomputable def o10 : Array Oper := rops c48
noncomputable def c49 : Code := cr c28
noncomputable def c50 : Code := cl c49
noncomputable def o14 : Array Oper := rops c50
noncomputable def c51 : Code := cr c49
noncomputable def c52 : Code := cl c51
noncomputable def o15 : Array Oper := rops c52
noncomputable def c53 : Code := cr c51
noncomputable def c54 : Code := cr c25
noncomputable def c55 : Code := cr c21
noncomputable def o5 : Array Oper := rops c55
noncomputable def c56 : Code := cr c10
noncomputable def c57 : Code := cl c56
noncomputable def o16 : Array Oper := rops c57
noncomputable def c58 : Code := cr c56
end F36
/-- 'slices.Compact' on an own list. -/
theorem compact_ok {w₀ : World} {C : Nat → Nat} {j : Nat} {v : Value} {xs : List Couple} (hF : Lim w₀ C) (hj : j ≠ 0) (ho : OwnL w₀ C j 25 v xs) (hlen : xs.length ≤ 140737488355328) :
    Calls Try.prog 36 #[v] w₀ (Ret fun u w' => Stp [j] w₀ C w' C ∧ OwnL w' C j 25 u (compactS xs) ∧ Lim w' C) := by
  have hT := Stp.refl [j] w₀ C
  refine calls_start (c := F36.c0) (N := 61) [v] Try.func36 (by kernel_rfl) (by kernel_rfl) (by kernel_rfl) ?_
  show Run _ _ _ _ [(0, v)] _ _
  refine run_seq (x := F36.c1) (y := F36.c2) (by kernel_rfl) ?_
  refine run_plain (id := 0) (ops := F36.o0) [(0, true)] (by kernel_rfl) (by kernel_rfl) ?_
  refine yS (by kernel_rfl : opAt F36.o0 0 = some (some 2, .assign (.const (.slice none 0 0)), none)) rfl rfl (fun w' hS => val_assign rfl) ?_
  refine Sch.nil ?_
  refine run_seq (x := F36.c3) (y := F36.c10) (by kernel_rfl) ?_
  refine run_seq (x := F36.c4) (y := F36.c5) (by kernel_rfl) ?_
  refine run_plain (id := 1) (ops := F36.o1) [(0, true), (1, true), (2, true)] (by kernel_rfl) (by kernel_rfl) ?_
  refine yS (by kernel_rfl : opAt F36.o1 0 = some (some 6, .move (.tmp 0), none)) rfl rfl (fun w' hS => val_move rfl) ?_
  refine yS (by kernel_rfl : opAt F36.o1 1 = some (some 7, .call { callee := .builtin .len, args := #[(.tmp 6)], argTypes := #[38] }, none)) rfl rfl (fun w' hS => ho.lenV rfl Try.underlying38 w' ) ?_
  refine yS (by kernel_rfl : opAt F36.o1 2 = some (some 8, .binOp .lss 3 (.tmp 7) (.const (.int .i64 2)) 3, none)) rfl rfl (fun w' hS => val_lss rfl rfl) ?_
  refine Sch.nil ?_
  refine run_if (x := F36.c6) (y := F36.c9) (o := .tmp 8) (by kernel_rfl) rfl (fun h8 => ?_) (fun h8 => ?_)
  · skip
    have hx : compactS xs = xs := by
      match xs, h8 with
      | [], _ => rfl
      | [a], _ => rfl
      | a :: b :: l, h => simp at h; omega
    refine run_seq (x := F36.c7) (y := F36.c8) (by kernel_rfl) ?_
    refine run_plain (id := 2) (ops := F36.o2) [(0, true), (1, true)] (by kernel_rfl) (by kernel_rfl) ?_
    refine yS (by kernel_rfl : opAt F36.o2 0 = some (some 9, .move (.tmp 0), none)) rfl rfl (fun w' hS => val_move rfl) ?_
    refine yS (by kernel_rfl : opAt F36.o2 1 = some (some 2, .assign (.tmp 9), none)) rfl rfl (fun w' hS => val_assign rfl) ?_
    refine Sch.nil ?_
    refine run_ret1 (by kernel_rfl) Try.func36 Try.results36 rfl ?_
    exact ⟨hT, by rw [hx]; exact ho, hF⟩
  · skip
    have h2 : 2 ≤ xs.length := by omega
    have hcz : compactS (xs.take 1) = xs.take 1 := by
      obtain ⟨a, l, rfl⟩ : ∃ a l, xs = a :: l := by cases xs with | nil => simp at h2 | cons a l => exact ⟨a, l, rfl⟩
      simp [compactS]
    refine run_skip (by kernel_rfl) ?_
    refine run_seq (x := F36.c11) (y := F36.c56) (by kernel_rfl) ?_
    refine run_seq (x := F36.c12) (y := F36.c13) (by kernel_rfl) ?_
    refine run_plain (id := 3) (ops := F36.o3) [(0, true)] (by kernel_rfl) (by kernel_rfl) ?_
    refine yS (by kernel_rfl : opAt F36.o3 0 = some (some 3, .assign (.const (.int .i64 1)), none)) rfl rfl (fun w' hS => val_assign rfl) ?_
    refine Sch.nil ?_
    refine run_block (x := F36.c14) (id := 0) (by kernel_rfl) ?_
    
    refine run_loop (ι := Nat) (I := fun x w => 1 ≤ x ∧ x ≤ xs.length ∧ compactS (xs.take x) = xs.take x ∧ Lim w C ∧ Stp [j] w₀ C w C ∧ OwnL w C j 25 v xs) (e := fun x => [(0, v), (3, .int .i64 x)]) (m := fun x => xs.length - x) (x₀ := 1) (body := F36.c15) (by kernel_rfl) (sub_cons 0 rfl rfl (sub_cons 3 rfl rfl (sub_nil _))) ?_ ?_
    · exact ⟨Nat.le_refl _, by first | omega | (simp only; omega), hcz, hF, hT, ho⟩
    intro k w1 hI next
    obtain ⟨hk1, hk, hc, hF, hT, ho⟩ := hI
    try simp only at hk1 hk hc hF hT ho
    have next1 := next
    clear next
    show Run _ _ _ _ [(0, v), (3, .int .i64 k)] _ _
    refine run_seq (x := F36.c16) (y := F36.c21) (by kernel_rfl) ?_
    refine run_seq (x := F36.c17) (y := F36.c18) (by kernel_rfl) ?_
    refine run_plain (id := 4) (ops := F36.o4) [(0, true), (1, true), (2, true), (3, true)] (by kernel_rfl) (by kernel_rfl) ?_
    refine yS (by kernel_rfl : opAt F36.o4 0 = some (some 10, .move (.tmp 3), none)) rfl rfl (fun w' hS => val_move rfl) ?_
    refine yS (by kernel_rfl : opAt F36.o4 1 = some (some 11, .move (.tmp 0), none)) rfl rfl (fun w' hS => val_move rfl) ?_
    refine yS (by kernel_rfl : opAt F36.o4 2 = some (some 12, .call { callee := .builtin .len, args := #[(.tmp 11)], argTypes := #[38] }, none)) rfl rfl (fun w' hS => ho.lenV rfl Try.underlying38 w' ) ?_
    refine yS (by kernel_rfl : opAt F36.o4 3 = some (some 13, .binOp .lss 3 (.tmp 10) (.tmp 12) 3, none)) rfl rfl (fun w' hS => val_lss rfl rfl) ?_
    refine Sch.nil ?_
    refine run_if (x := F36.c19) (y := F36.c20) (o := .tmp 13) (by kernel_rfl) rfl (fun h13 => ?_) (fun h13 => ?_)
    · skip
      have hkl : k < xs.length := by omega
      have hct := compactS_take hk1 hkl
      refine run_skip (by kernel_rfl) ?_
      refine run_seq (x := F36.c22) (y := F36.c55) (by kernel_rfl) ?_
      refine run_block (x := F36.c23) (id := 1) (by kernel_rfl) ?_
      refine run_seq (x := F36.c24) (y := F36.c25) (by kernel_rfl) ?_
      refine run_draw (id := 6) (ops := F36.o6) [] (C) [(0, true), (1, true), (2, true), (3, true), (4, true), (5, true), (6, true), (7, true), (8, true), (9, true)] Try_mixed (by kernel_rfl) (by kernel_rfl) (by kernel_rfl) ?_
      intro w2 hs
      replace hF := hF.st hs
      replace hT := hT.trans hs (by simp)
      replace ho := ho.st hs (by first | decide | (simp <;> omega)) (by first | decide | (simp <;> omega))
      refine yS (by kernel_rfl : opAt F36.o6 0 = some (some 16, .move (.tmp 0), none)) rfl rfl (fun w' hS => val_move rfl) ?_
      refine yS (by kernel_rfl : opAt F36.o6 1 = some (some 17, .move (.tmp 3), none)) rfl rfl (fun w' hS => val_move rfl) ?_
      refine oI (e' := 25) (by kernel_rfl : opAt F36.o6 2 = some (some 18, .indexAddr 38 (.tmp 16) (.tmp 17), none)) rfl rfl ho rfl (by kernel_rfl) rfl (by omega) (by first | omega | (simp only [Int.toNat_natCast]; omega)) ?_
      intro g18 hg18
      try simp only [Int.toNat_natCast]
      refine oSA (I := []) (by kernel_rfl : opAt F36.o6 3 = some (some 19, .load 25 (.tmp 18), none)) rfl rfl ho hg18 (fun w' hS => ho.stay hg18 hS (by first | decide | (simp <;> omega))) (by first | omega | (simp only [Int.toNat_natCast]; omega)) (by kernel_rfl) (by kernel_rfl) rfl rfl ?_
      intro v19 g19
      try simp only [Int.toNat_natCast] at g19
      refine yS (by kernel_rfl : opAt F36.o6 4 = some (some 20, .move (.tmp 0), none)) rfl rfl (fun w' hS => val_move rfl) ?_
      refine yS (by kernel_rfl : opAt F36.o6 5 = some (some 21, .move (.tmp 3), none)) rfl rfl (fun w' hS => val_move rfl) ?_
      refine yS (by kernel_rfl : opAt F36.o6 6 = some (some 22, .binOp .sub 3 (.tmp 21) (.const (.int .i64 1)) 3, none)) rfl rfl (fun w' hS => val_subi rfl rfl (by omega) (by omega)) ?_
      refine oI (e' := 25) (by kernel_rfl : opAt F36.o6 7 = some (some 23, .indexAddr 38 (.tmp 20) (.tmp 22), none)) rfl rfl ho rfl (by kernel_rfl) rfl (by omega) (by first | omega | (simp only [Int.toNat_natCast]; omega)) ?_
      intro g23 hg23
      try simp only [Int.toNat_natCast]
      refine oSA (I := []) (by kernel_rfl : opAt F36.o6 8 = some (some 24, .load 25 (.tmp 23), none)) rfl rfl ho hg23 (fun w' hS => ho.stay hg23 hS (by first | decide | (simp <;> omega))) (by first | omega | (simp only [Int.toNat_natCast]; omega)) (by kernel_rfl) (by kernel_rfl) rfl rfl ?_
      intro v24 g24
      try simp only [Int.toNat_natCast] at g24
      obtain rfl := rv_couple.1 g19
      obtain rfl := rv_couple.1 g24
      refine yS (by kernel_rfl : opAt F36.o6 9 = some (some 25, .binOp .eql 25 (.tmp 19) (.tmp 24) 25, none)) rfl rfl (fun w' hS => val_eqC (a := _) (b := _) Try.underlying25 (by decide) (by decide) (by kernel_rfl) Try.underlying3 rfl rfl) ?_
      refine Sch.nil ?_
      refine run_if (x := F36.c26) (y := F36.c54) (o := .tmp 25) (by kernel_rfl) rfl (fun h25 => ?_) (fun h25 => ?_)
      · skip
        have hd : xs[k - 1]'(by omega) = xs[k] := by
          have e : ((k : Int) - 1).toNat = k - 1 := by omega
          simp only [e] at h25; exact h25.symm
        rw [if_pos hd, hc] at hct
        refine run_seq (x := F36.c27) (y := F36.c28) (by kernel_rfl) ?_
        refine run_plain (id := 7) (ops := F36.o7) [(0, true), (1, true), (2, true), (3, true)] (by kernel_rfl) (by kernel_rfl) ?_
        refine yS (by kernel_rfl : opAt F36.o7 0 = some (some 26, .move (.tmp 0), none)) rfl rfl (fun w' hS => val_move rfl) ?_
        refine yS (by kernel_rfl : opAt F36.o7 1 = some (some 27, .move (.tmp 3), none)) rfl rfl (fun w' hS => val_move rfl) ?_
        refine sFO (e' := 25) (by kernel_rfl : opAt F36.o7 2 = some (some 28, .slice 38 (.tmp 26) (some (.tmp 27)) none none, none)) rfl rfl ho rfl (by kernel_rfl) rfl (by omega) (by omega) ?_
        intro v28 h28
        try simp only [Int.toNat_natCast] at h28
        obtain ⟨gg28, hgg28⟩ := ho.ob_ex (by omega)
        refine yS (by kernel_rfl : opAt F36.o7 3 = some (some 4, .assign (.tmp 28), none)) rfl rfl (fun w' hS => val_assign rfl) ?_
        refine Sch.nil ?_
        refine run_seq (x := F36.c29) (y := F36.c49) (by kernel_rfl) ?_
        refine run_seq (x := F36.c30) (y := F36.c31) (by kernel_rfl) ?_
        refine run_plain (id := 8) (ops := F36.o8) [(0, true)] (by kernel_rfl) (by kernel_rfl) ?_
        refine yS (by kernel_rfl : opAt F36.o8 0 = some (some 5, .assign (.const (.int .i64 1)), none)) rfl rfl (fun w' hS => val_assign rfl) ?_
        refine Sch.nil ?_
        refine run_block (x := F36.c32) (id := 2) (by kernel_rfl) ?_
        
        refine run_loop (ι := Nat × Nat × (List Couple)) (I := fun x w => 1 ≤ x.1 ∧ k + x.1 ≤ xs.length ∧ x.2.2.length = xs.length ∧ x.2.1 + 1 ≤ k + x.1 ∧ (∀ p (hp : p < xs.length) (hp2 : p < x.2.2.length), k + x.1 ≤ p + 1 → x.2.2[p] = xs[p]) ∧ x.2.2.take x.2.1 = compactS (xs.take (k + x.1)) ∧ Lim w C ∧ Stp [j] w₀ C w C ∧ OwnL w C j 25 v x.2.2) (e := fun x => [(0, v), (3, .int .i64 x.2.1), (4, v28), (5, .int .i64 x.1)]) (m := fun x => xs.length - k - x.1) (x₀ := (1, k, xs)) (body := F36.c33) (by kernel_rfl) (sub_cons 0 rfl rfl (sub_cons 3 rfl rfl (sub_cons 4 rfl rfl (sub_cons 5 rfl rfl (sub_nil _))))) ?_ ?_
        · exact ⟨Nat.le_refl _, by first | omega | (simp only; omega), rfl, by first | omega | (simp only; omega), fun p _ _ _ => rfl, hct.symm, hF, hT, ho⟩
        intro ⟨q, i, ys⟩ w3 hI next
        obtain ⟨hq1, hq, hyl, hi, hys, hc2, hF, hT, ho⟩ := hI
        try simp only at hq1 hq hyl hi hys hc2 hF hT ho
        have next2 := next
        clear next
        show Run _ _ _ _ [(0, v), (3, .int .i64 i), (4, v28), (5, .int .i64 q)] _ _
        refine run_seq (x := F36.c34) (y := F36.c39) (by kernel_rfl) ?_
        refine run_seq (x := F36.c35) (y := F36.c36) (by kernel_rfl) ?_
        refine run_plain (id := 9) (ops := F36.o9) [(0, true), (1, true), (2, true), (3, true)] (by kernel_rfl) (by kernel_rfl) ?_
        refine yS (by kernel_rfl : opAt F36.o9 0 = some (some 29, .move (.tmp 5), none)) rfl rfl (fun w' hS => val_move rfl) ?_
        refine yS (by kernel_rfl : opAt F36.o9 1 = some (some 30, .move (.tmp 4), none)) rfl rfl (fun w' hS => val_move rfl) ?_
        refine yS (by kernel_rfl : opAt F36.o9 2 = some (some 31, .call { callee := .builtin .len, args := #[(.tmp 30)], argTypes := #[38] }, none)) rfl rfl (fun w' hS => h28.lenV rfl Try.underlying38 w' ) ?_
        refine yS (by kernel_rfl : opAt F36.o9 3 = some (some 32, .binOp .lss 3 (.tmp 29) (.tmp 31) 3, none)) rfl rfl (fun w' hS => val_lss rfl rfl) ?_
        refine Sch.nil ?_
        refine run_if (x := F36.c37) (y := F36.c38) (o := .tmp 32) (by kernel_rfl) rfl (fun h32 => ?_) (fun h32 => ?_)
        · skip
          have hql : k + q < xs.length := by omega
          have hct2 := compactS_take (l := xs) (k := k + q) (by omega) hql
          have e1 : k + ((q : Int) - 1).toNat = k + q - 1 := by omega
          refine run_skip (by kernel_rfl) ?_
          refine run_seq (x := F36.c40) (y := F36.c48) (by kernel_rfl) ?_
          refine run_block (x := F36.c41) (id := 3) (by kernel_rfl) ?_
          refine run_seq (x := F36.c42) (y := F36.c43) (by kernel_rfl) ?_
          refine run_draw (id := 11) (ops := F36.o11) [] (C) [(0, true), (1, true), (2, true), (3, true), (4, true), (5, true), (6, true), (7, true), (8, true), (9, true)] Try_mixed (by kernel_rfl) (by kernel_rfl) (by kernel_rfl) ?_
          intro w4 hs
          replace hF := hF.st hs
          replace hT := hT.trans hs (by simp)
          replace ho := ho.st hs (by first | decide | (simp <;> omega)) (by first | decide | (simp <;> omega))
          refine yS (by kernel_rfl : opAt F36.o11 0 = some (some 35, .move (.tmp 4), none)) rfl rfl (fun w' hS => val_move rfl) ?_
          refine yS (by kernel_rfl : opAt F36.o11 1 = some (some 36, .move (.tmp 5), none)) rfl rfl (fun w' hS => val_move rfl) ?_
          refine yS (by kernel_rfl : opAt F36.o11 2 = some (some 37, .indexAddr 38 (.tmp 35) (.tmp 36), none)) rfl rfl (fun w' hS => val_indexSub (e' := 25) h28 hgg28 (by kernel_rfl) rfl rfl (by omega) (by omega)) ?_
          try simp only [Int.toNat_natCast]
          refine oSA (I := []) (by kernel_rfl : opAt F36.o11 3 = some (some 38, .load 25 (.tmp 37), none)) rfl rfl ho hgg28 (fun w' hS => ho.stay hgg28 hS (by first | decide | (simp <;> omega))) (by first | omega | (simp only [Int.toNat_natCast]; omega)) (by kernel_rfl) (by kernel_rfl) rfl rfl ?_
          intro v38 g38
          try simp only [Int.toNat_natCast] at g38
          refine yS (by kernel_rfl : opAt F36.o11 4 = some (some 39, .move (.tmp 4), none)) rfl rfl (fun w' hS => val_move rfl) ?_
          refine yS (by kernel_rfl : opAt F36.o11 5 = some (some 40, .move (.tmp 5), none)) rfl rfl (fun w' hS => val_move rfl) ?_
          refine yS (by kernel_rfl : opAt F36.o11 6 = some (some 41, .binOp .sub 3 (.tmp 40) (.const (.int .i64 1)) 3, none)) rfl rfl (fun w' hS => val_subi rfl rfl (by omega) (by omega)) ?_
          refine yS (by kernel_rfl : opAt F36.o11 7 = some (some 42, .indexAddr 38 (.tmp 39) (.tmp 41), none)) rfl rfl (fun w' hS => val_indexSub (e' := 25) h28 hgg28 (by kernel_rfl) rfl rfl (by omega) (by omega)) ?_
          try simp only [Int.toNat_natCast]
          refine oSA (I := []) (by kernel_rfl : opAt F36.o11 8 = some (some 43, .load 25 (.tmp 42), none)) rfl rfl ho hgg28 (fun w' hS => ho.stay hgg28 hS (by first | decide | (simp <;> omega))) (by first | omega | (simp only [Int.toNat_natCast]; omega)) (by kernel_rfl) (by kernel_rfl) rfl rfl ?_
          intro v43 g43
          try simp only [Int.toNat_natCast] at g43
          obtain rfl := rv_couple.1 g38
          obtain rfl := rv_couple.1 g43
          refine yS (by kernel_rfl : opAt F36.o11 9 = some (some 44, .binOp .neq 25 (.tmp 38) (.tmp 43) 25, none)) rfl rfl (fun w' hS => val_neC (a := _) (b := _) Try.underlying25 (by decide) (by decide) (by kernel_rfl) Try.underlying3 rfl rfl) ?_
          refine Sch.nil ?_
          refine run_if (x := F36.c44) (y := F36.c47) (o := .tmp 44) (by kernel_rfl) rfl (fun h44 => ?_) (fun h44 => ?_)
          · skip
            have r1 := hys (k + q) (by omega) (by omega) (by omega)
            have r2 := hys (k + q - 1) (by omega) (by omega) (by omega)
            have hd : ¬ xs[k + q - 1]'(by omega) = xs[k + q] := by
              simp only [e1, r1, r2] at h44; exact fun e => h44 e.symm
            rw [if_neg hd, ← hc2] at hct2
            refine run_seq (x := F36.c45) (y := F36.c46) (by kernel_rfl) ?_
            refine run_plain (id := 12) (ops := F36.o12) [(0, true), (1, true), (2, true), (3, true), (4, true), (5, false), (6, true), (7, false)] (by kernel_rfl) (by kernel_rfl) ?_
            refine yS (by kernel_rfl : opAt F36.o12 0 = some (some 45, .move (.tmp 0), none)) rfl rfl (fun w' hS => val_move rfl) ?_
            refine yS (by kernel_rfl : opAt F36.o12 1 = some (some 46, .move (.tmp 3), none)) rfl rfl (fun w' hS => val_move rfl) ?_
            refine yS (by kernel_rfl : opAt F36.o12 2 = some (some 47, .move (.tmp 4), none)) rfl rfl (fun w' hS => val_move rfl) ?_
            refine yS (by kernel_rfl : opAt F36.o12 3 = some (some 48, .move (.tmp 5), none)) rfl rfl (fun w' hS => val_move rfl) ?_
            refine yS (by kernel_rfl : opAt F36.o12 4 = some (some 49, .indexAddr 38 (.tmp 47) (.tmp 48), none)) rfl rfl (fun w' hS => val_indexSub (e' := 25) h28 hgg28 (by kernel_rfl) rfl rfl (by omega) (by omega)) ?_
            try simp only [Int.toNat_natCast]
            refine oNA (by kernel_rfl : opAt F36.o12 5 = some (some 50, .load 25 (.tmp 49), none)) rfl rfl trivial ho hgg28 (by first | omega | (simp only [Int.toNat_natCast]; omega)) (by kernel_rfl) (by kernel_rfl) rfl rfl ?_
            intro v50 g50
            try simp only [Int.toNat_natCast] at g50
            refine oI (e' := 25) (by kernel_rfl : opAt F36.o12 6 = some (some 51, .indexAddr 38 (.tmp 45) (.tmp 46), none)) rfl rfl ho rfl (by kernel_rfl) rfl (by omega) (by first | omega | (simp only [Int.toNat_natCast]; omega)) ?_
            intro g51 hg51
            try simp only [Int.toNat_natCast]
            refine aN (by kernel_rfl : opAt F36.o12 7 = some (none, .store 25 (.tmp 51) (.tmp 50), none)) rfl (a_storeO ho hg51 (by first | omega | (simp only [Int.toNat_natCast]; omega)) rfl rfl (by kernel_rfl) g50) ?_
            rintro _ w5 ⟨rfl, hs, ho⟩
            refine ⟨trivial, ?_⟩
            replace hF := hF.st hs
            replace hT := hT.trans hs (by simp <;> omega)
            replace g38 := g38.st hs (by first | decide | (simp <;> omega))
            replace g43 := g43.st hs (by first | decide | (simp <;> omega))
            replace g50 := g50.st hs (by first | decide | (simp <;> omega))
            refine Sch.nil ?_
            refine run_plain (id := 13) (ops := F36.o13) [(0, true), (1, true), (2, true)] (by kernel_rfl) (by kernel_rfl) ?_
            refine yS (by kernel_rfl : opAt F36.o13 0 = some (some 52, .move (.tmp 3), none)) rfl rfl (fun w' hS => val_move rfl) ?_
            refine yS (by kernel_rfl : opAt F36.o13 1 = some (some 53, .binOp .add 3 (.tmp 52) (.const (.int .i64 1)) 3, none)) rfl rfl (fun w' hS => val_addi rfl rfl (by omega) (by omega)) ?_
            refine yS (by kernel_rfl : opAt F36.o13 2 = some (some 3, .assign (.tmp 53), none)) rfl rfl (fun w' hS => val_assign rfl) ?_
            refine Sch.nil ?_
            refine run_inBlock ?_
            refine run_plain (id := 10) (ops := F36.o10) [(0, true), (1, true), (2, true)] (by kernel_rfl) (by kernel_rfl) ?_
            refine yS (by kernel_rfl : opAt F36.o10 0 = some (some 33, .move (.tmp 5), none)) rfl rfl (fun w' hS => val_move rfl) ?_
            refine yS (by kernel_rfl : opAt F36.o10 1 = some (some 34, .binOp .add 3 (.tmp 33) (.const (.int .i64 1)) 3, none)) rfl rfl (fun w' hS => val_addi rfl rfl (by omega) (by omega)) ?_
            refine yS (by kernel_rfl : opAt F36.o10 2 = some (some 5, .assign (.tmp 34), none)) rfl rfl (fun w' hS => val_assign rfl) ?_
            refine Sch.nil ?_
            refine kp (sub_cons 0 rfl rfl (sub_cons 3 rfl (eq_int (by simp)) (sub_cons 4 rfl rfl (sub_cons 5 rfl (eq_int (by simp)) (sub_nil _))))) (next2 (q + 1, i + 1, ys.set i ys[k + q]) _ ⟨(by first | omega | (simp only; omega)), (by first | omega | (simp only; omega)), (by simp only [List.length_set]; exact hyl), (by first | omega | (simp only; omega)), (fun p hp hp2 h => by simp only [List.getElem_set]; rw [if_neg (by omega)]; exact hys p hp (by omega) (by omega)), (by simp only; rw [List.take_succ_eq_append_getElem (by rw [List.length_set]; omega), List.take_set_of_le (Nat.le_refl i), List.getElem_set_self, r1]; exact hct2.symm), hF, hT, ho⟩ (by first | omega | (simp only; omega)))
          · skip
            have r1 := hys (k + q) (by omega) (by omega) (by omega)
            have r2 := hys (k + q - 1) (by omega) (by omega) (by omega)
            have hd : xs[k + q - 1]'(by omega) = xs[k + q] := by
              simp only [e1, r1, r2] at h44; exact (Classical.not_not.1 h44).symm
            rw [if_pos hd, ← hc2] at hct2
            refine run_skip (by kernel_rfl) ?_
            refine run_inBlock ?_
            refine run_plain (id := 10) (ops := F36.o10) [(0, true), (1, true), (2, true)] (by kernel_rfl) (by kernel_rfl) ?_
            refine yS (by kernel_rfl : opAt F36.o10 0 = some (some 33, .move (.tmp 5), none)) rfl rfl (fun w' hS => val_move rfl) ?_
            refine yS (by kernel_rfl : opAt F36.o10 1 = some (some 34, .binOp .add 3 (.tmp 33) (.const (.int .i64 1)) 3, none)) rfl rfl (fun w' hS => val_addi rfl rfl (by omega) (by omega)) ?_
            refine yS (by kernel_rfl : opAt F36.o10 2 = some (some 5, .assign (.tmp 34), none)) rfl rfl (fun w' hS => val_assign rfl) ?_
            refine Sch.nil ?_
            refine kp (sub_cons 0 rfl rfl (sub_cons 3 rfl rfl (sub_cons 4 rfl rfl (sub_cons 5 rfl (eq_int (by simp)) (sub_nil _))))) (next2 (q + 1, i, ys) _ ⟨(by first | omega | (simp only; omega)), (by first | omega | (simp only; omega)), (by first | omega | (simp only; omega)), (by first | omega | (simp only; omega)), (fun p hp hp2 h => hys p hp hp2 (by simp only at h; omega)), hct2.symm, hF, hT, ho⟩ (by first | omega | (simp only; omega)))
        · skip
          have hql : k + q = xs.length := by omega
          rw [hql, List.take_length] at hc2
          refine run_exit (id := 2) (by kernel_rfl) rfl ?_
          refine run_seq (x := F36.c50) (y := F36.c51) (by kernel_rfl) ?_
          refine run_plain (id := 14) (ops := F36.o14) [(0, true), (1, true), (2, true), (3, false)] (by kernel_rfl) (by kernel_rfl) ?_
          refine yS (by kernel_rfl : opAt F36.o14 0 = some (some 54, .move (.tmp 0), none)) rfl rfl (fun w' hS => val_move rfl) ?_
          refine yS (by kernel_rfl : opAt F36.o14 1 = some (some 55, .move (.tmp 3), none)) rfl rfl (fun w' hS => val_move rfl) ?_
          refine sFO (e' := 25) (by kernel_rfl : opAt F36.o14 2 = some (some 56, .slice 38 (.tmp 54) (some (.tmp 55)) none none, none)) rfl rfl ho rfl (by kernel_rfl) rfl (by omega) (by omega) ?_
          intro v56 h56
          try simp only [Int.toNat_natCast] at h56
          obtain ⟨gg56, hgg56⟩ := ho.ob_ex (by omega)
          refine aN (by kernel_rfl : opAt F36.o14 3 = some (none, .call { callee := .builtin .clear, args := #[(.tmp 56)], argTypes := #[38] }, none)) rfl (a_clear (x0 := (⟨0, 0⟩ : Couple)) (zs := [.int .i64 0, .int .i64 0]) ho h56 (by omega) (by omega) Try.underlying38 (by kernel_rfl) (fun h M => zero_couple) rfl) ?_
          rintro _ wc ⟨hs, ho⟩
          refine ⟨trivial, ?_⟩
          replace hF := hF.st hs
          replace hT := hT.trans hs (by simp <;> omega)
          refine Sch.nil ?_
          refine run_seq (x := F36.c52) (y := F36.c53) (by kernel_rfl) ?_
          refine run_plain (id := 15) (ops := F36.o15) [(0, true), (1, true), (2, true), (3, true)] (by kernel_rfl) (by kernel_rfl) ?_
          refine yS (by kernel_rfl : opAt F36.o15 0 = some (some 57, .move (.tmp 0), none)) rfl rfl (fun w' hS => val_move rfl) ?_
          refine yS (by kernel_rfl : opAt F36.o15 1 = some (some 58, .move (.tmp 3), none)) rfl rfl (fun w' hS => val_move rfl) ?_
          have hyl2 : (ys.take i ++ List.replicate (ys.length - i) (⟨0, 0⟩ : Couple)).length = xs.length := by simp; omega
          refine sTO (e' := 25) (by kernel_rfl : opAt F36.o15 2 = some (some 59, .slice 38 (.tmp 57) none (some (.tmp 58)) none, none)) rfl rfl ho rfl (by kernel_rfl) rfl (by omega) (by omega) (by omega) ?_
          intro v59 h59
          try simp only [Int.toNat_natCast] at h59
          refine yS (by kernel_rfl : opAt F36.o15 3 = some (some 2, .assign (.tmp 59), none)) rfl rfl (fun w' hS => val_assign rfl) ?_
          refine Sch.nil ?_
          refine run_ret1 (by kernel_rfl) Try.func36 Try.results36 rfl ?_
          rw [List.take_left' (by rw [List.length_take]; omega), hc2] at h59
          exact ⟨hT, h59, hF⟩
      · skip
        have hd : ¬ xs[k - 1]'(by omega) = xs[k] := by
          have e : ((k : Int) - 1).toNat = k - 1 := by omega
          simp only [e] at h25; exact fun e => h25 e.symm
        rw [if_neg hd, hc, ← List.take_succ_eq_append_getElem hkl] at hct
        refine run_skip (by kernel_rfl) ?_
        refine run_inBlock ?_
        refine run_plain (id := 5) (ops := F36.o5) [(0, true), (1, true), (2, true)] (by kernel_rfl) (by kernel_rfl) ?_
        refine yS (by kernel_rfl : opAt F36.o5 0 = some (some 14, .move (.tmp 3), none)) rfl rfl (fun w' hS => val_move rfl) ?_
        refine yS (by kernel_rfl : opAt F36.o5 1 = some (some 15, .binOp .add 3 (.tmp 14) (.const (.int .i64 1)) 3, none)) rfl rfl (fun w' hS => val_addi rfl rfl (by omega) (by omega)) ?_
        refine yS (by kernel_rfl : opAt F36.o5 2 = some (some 3, .assign (.tmp 15), none)) rfl rfl (fun w' hS => val_assign rfl) ?_
        refine Sch.nil ?_
        refine kp (sub_cons 0 rfl rfl (sub_cons 3 rfl (eq_int (by simp)) (sub_nil _))) (next1 (k + 1) _ ⟨(by first | omega | (simp only; omega)), (by first | omega | (simp only; omega)), hct, hF, hT, ho⟩ (by first | omega | (simp only; omega)))
    · skip
      have hkl : k = xs.length := by omega
      subst hkl
      rw [List.take_length] at hc
      refine run_exit (id := 0) (by kernel_rfl) rfl ?_
      refine run_seq (x := F36.c57) (y := F36.c58) (by kernel_rfl) ?_
      refine run_plain (id := 16) (ops := F36.o16) [(0, true), (1, true)] (by kernel_rfl) (by kernel_rfl) ?_
      refine yS (by kernel_rfl : opAt F36.o16 0 = some (some 60, .move (.tmp 0), none)) rfl rfl (fun w' hS => val_move rfl) ?_
      refine yS (by kernel_rfl : opAt F36.o16 1 = some (some 2, .assign (.tmp 60), none)) rfl rfl (fun w' hS => val_assign rfl) ?_
      refine Sch.nil ?_
      refine run_ret1 (by kernel_rfl) Try.func36 Try.results36 rfl ?_
      rw [hc]
      exact ⟨hT, ho, hF⟩
namespace F17
noncomputable def c0 : Code := bodyOf Try.f17
noncomputable def c1 : Code := cl c0
noncomputable def o0 : Array Oper := rops c1
noncomputable def c2 : Code := cr c0
noncomputable def c3 : Code := cl c2
noncomputable def o1 : Array Oper := rops c3
noncomputable def c4 : Code := cr c2
noncomputable def c5 : Code := cl c4
noncomputable def c6 : Code := cl c5
noncomputable def o2 : Array Oper := rops c6
noncomputable def c7 : Code := cr c5
noncomputable def c8 : Code := cl c7
noncomputable def c9 : Code := cl c8
noncomputable def c10 : Code := cl c9
noncomputable def o3 : Array Oper := rops c10
noncomputable def c11 : Code := cr c9
noncomputable def c12 : Code := cl c11
noncomputable def c13 : Code := cl c12
noncomputable def c14 : Code := cr c12
noncomputable def c15 : Code := cr c11
noncomputable def c16 : Code := cl c15
noncomputable def c17 : Code := cl c16
noncomputable def c18 : Code := cl c17
noncomputable def o4 : Array Oper := rops c18
noncomputable def c19 : Code := cr c17
noncomputable def o5 : Array Oper := rops c19
noncomputable def c20 : Code := cr c15
noncomputable def o6 : Array Oper := rops c20
noncomputable def c21 : Code := cr c4
noncomputable def c22 : Code := cl c21
noncomputable def o7 : Array Oper := rops c22
noncomputable def c23 : Code := cr c21
noncomputable def c24 : Code := cl c23
noncomputable def o8 : Array Oper := rops c24
noncomputable def c25 : Code := cr c23
end F17
/-- 'Refs'. -/
theorem refs_ok {w₀ : World} {C : Nat → Nat} {l : List Bond} {vl : Value} (hF : Lim w₀ C) (hl : RV w₀ (Mc C) l vl) (hlen : l.length ≤ 100000) : Calls Try.prog 17 #[vl] w₀ (Ret fun v w' => Stp [] w₀ C w' C ∧ RV w' (Mc C) (refsS l) v) := by
  have hF0 := hF
  have hT := Stp.refl [2, 3, 4, 5, 6, 7, 8, 9] w₀ (col1 C)
  replace hF := hF.col1
  replace hl : RV w₀ (Mc (col1 C)) l vl := by rw [Mc_col1]; exact hl
  refine calls_start (c := F17.c0) (N := 24) [vl] Try.func17 (by kernel_rfl) (by kernel_rfl) (by kernel_rfl) ?_
  show Run _ _ _ _ [(0, vl)] _ _
  refine run_seq (x := F17.c1) (y := F17.c2) (by kernel_rfl) ?_
  refine run_plain (id := 0) (ops := F17.o0) [(0, true)] (by kernel_rfl) (by kernel_rfl) ?_
  refine yS (by kernel_rfl : opAt F17.o0 0 = some (some 2, .assign (.const (.slice none 0 0)), none)) rfl rfl (fun w' hS => val_assign rfl) ?_
  refine Sch.nil ?_
  refine run_seq (x := F17.c3) (y := F17.c4) (by kernel_rfl) ?_
  refine run_plain (id := 1) (ops := F17.o1) [(0, true)] (by kernel_rfl) (by kernel_rfl) ?_
  refine yS (by kernel_rfl : opAt F17.o1 0 = some (some 3, .assign (.const (.slice none 0 0)), none)) rfl rfl (fun w' hS => val_assign rfl) ?_
  refine Sch.nil ?_
  refine run_seq (x := F17.c5) (y := F17.c21) (by kernel_rfl) ?_
  refine run_seq (x := F17.c6) (y := F17.c7) (by kernel_rfl) ?_
  refine run_plain (id := 2) (ops := F17.o2) [(0, true), (1, true), (2, true)] (by kernel_rfl) (by kernel_rfl) ?_
  refine yS (by kernel_rfl : opAt F17.o2 0 = some (some 6, .move (.tmp 0), none)) rfl rfl (fun w' hS => val_move rfl) ?_
  refine yS (by kernel_rfl : opAt F17.o2 1 = some (some 7, .call { callee := .builtin .len, args := #[(.tmp 6)], argTypes := #[23] }, none)) rfl rfl (fun w' hS => hl.lenV rfl Try.underlying23 w' ) ?_
  refine yS (by kernel_rfl : opAt F17.o2 2 = some (some 8, .move (.const (.int .i64 0)), none)) rfl rfl (fun w' hS => val_move rfl) ?_
  refine Sch.nil ?_
  refine run_block (x := F17.c8) (id := 0) (by kernel_rfl) ?_
  
  refine run_loop (ι := Nat × Value × (Nat → Nat)) (I := fun x w => x.1 ≤ l.length ∧ Lim w x.2.2 ∧ Stp [2, 3, 4, 5, 6, 7, 8, 9] w₀ (col1 C) w x.2.2 ∧ RV w (Mc x.2.2) l vl ∧ OwnL w x.2.2 3 25 x.2.1 (endsS (l.take x.1))) (e := fun x => [(3, x.2.1), (6, vl), (7, .int .i64 l.length), (8, .int .i64 x.1)]) (m := fun x => l.length - x.1) (x₀ := (0, .slice none 0 0, col1 C)) (body := F17.c9) (by kernel_rfl) (sub_cons 3 rfl rfl (sub_cons 6 rfl rfl (sub_cons 7 rfl rfl (sub_cons 8 rfl rfl (sub_nil _))))) ?_ ?_
  · exact ⟨Nat.zero_le _, hF, hT, hl, OwnL.nil⟩
  intro ⟨i, vo, C1⟩ w1 hI next
  obtain ⟨hi, hF, hT, hl, ho⟩ := hI
  try simp only at hi hF hT hl ho
  have next1 := next
  clear next
  show Run _ _ _ _ [(3, vo), (6, vl), (7, .int .i64 l.length), (8, .int .i64 i)] _ _
  have hel := endsS_len (l.take i)
  rw [List.length_take] at hel
  refine run_seq (x := F17.c10) (y := F17.c11) (by kernel_rfl) ?_
  refine run_plain (id := 3) (ops := F17.o3) [(0, true)] (by kernel_rfl) (by kernel_rfl) ?_
  refine yS (by kernel_rfl : opAt F17.o3 0 = some (some 9, .binOp .lss 3 (.tmp 8) (.tmp 7) 3, none)) rfl rfl (fun w' hS => val_lss rfl rfl) ?_
  refine Sch.nil ?_
  refine run_seq (x := F17.c12) (y := F17.c15) (by kernel_rfl) ?_
  refine run_if (x := F17.c13) (y := F17.c14) (o := .tmp 9) (by kernel_rfl) rfl (fun h9 => ?_) (fun h9 => ?_)
  · skip
    have hil : i < l.length := by omega
    refine run_skip (by kernel_rfl) ?_
    refine run_seq (x := F17.c16) (y := F17.c20) (by kernel_rfl) ?_
    refine run_block (x := F17.c17) (id := 1) (by kernel_rfl) ?_
    refine run_seq (x := F17.c18) (y := F17.c19) (by kernel_rfl) ?_
    refine run_plain (id := 4) (ops := F17.o4) [(0, true), (1, false), (2, false), (3, false)] (by kernel_rfl) (by kernel_rfl) ?_
    refine iS (e := 50) (by kernel_rfl : opAt F17.o4 0 = some (some 10, .indexAddr 23 (.tmp 6) (.tmp 8), none)) rfl rfl hl rfl (by kernel_rfl) rfl (by omega) (by omega) ?_
    intro b10 o10 h10
    try simp only [Int.toNat_natCast] at h10
    refine lNA (by kernel_rfl : opAt F17.o4 1 = some (some 11, .load 50 (.tmp 10), none)) rfl rfl trivial h10 (by kernel_rfl) (by kernel_rfl) rfl rfl ?_
    intro v11 g11
    obtain rfl := rv_bond.1 g11
    refine aS (by kernel_rfl : opAt F17.o4 2 = some (some 5, .alloc 50, none)) rfl rfl (a_alloc (cs := [.int .i64 0, .int .i64 0, .int .i64 0, .int .i64 0, .int .i64 0]) hF 4 (by kernel_rfl)) ?_
    rintro _ w2 ⟨Cw2, bw2, rfl, hs, hx, hF⟩
    refine ⟨trivial, ?_⟩
    replace hT := hT.trans hs (by simp)
    replace hl := hl.st hs (by first | decide | (simp <;> omega))
    replace ho := ho.st hs (by first | decide | (simp <;> omega)) (by first | decide | (simp <;> omega))
    replace h10 := h10.st hs (by first | decide | (simp <;> omega))
    refine aN (by kernel_rfl : opAt F17.o4 3 = some (none, .store 50 (.tmp 5) (.tmp 11), none)) rfl (a_storeAll (vs := encB (l[i]'hil)) (n := 5) rfl rfl (by kernel_rfl) rfl rfl (by intro u hu; simp only [encB, List.mem_cons, List.not_mem_nil, or_false] at hu; rcases hu with rfl | rfl | rfl | rfl | rfl <;> rfl) hx rfl) ?_
    rintro _ w3 ⟨rfl, hs, hx⟩
    refine ⟨trivial, ?_⟩
    replace hF := hF.st hs
    replace hT := hT.trans hs (by simp)
    replace hl := hl.st hs (by first | decide | (simp <;> omega))
    replace ho := ho.st hs (by first | decide | (simp <;> omega)) (by first | decide | (simp <;> omega))
    replace h10 := h10.st hs (by first | decide | (simp <;> omega))
    refine Sch.nil ?_
    refine run_plain (id := 5) (ops := F17.o5) [(0, true), (1, true), (2, false), (3, true), (4, false), (5, false), (6, false), (7, true)] (by kernel_rfl) (by kernel_rfl) ?_
    refine yS (by kernel_rfl : opAt F17.o5 0 = some (some 12, .move (.tmp 3), none)) rfl rfl (fun w' hS => val_move rfl) ?_
    refine yS (by kernel_rfl : opAt F17.o5 1 = some (some 13, .fieldAddr 50 (.tmp 5) 0, none)) rfl rfl (fun w' hS => val_fieldAddr (off := 0) (by kernel_rfl) rfl) ?_
    refine nS (by kernel_rfl : opAt F17.o5 2 = some (some 14, .load 25 (.tmp 13), none)) rfl rfl trivial (val_loadOwnAgg (n := 2) (vs := encR (l[i]'hil).A) hx.at_ (by kernel_rfl) (by kernel_rfl) rfl rfl rfl) ?_
    refine yS (by kernel_rfl : opAt F17.o5 3 = some (some 15, .fieldAddr 50 (.tmp 5) 1, none)) rfl rfl (fun w' hS => val_fieldAddr (off := 2) (by kernel_rfl) rfl) ?_
    refine nS (by kernel_rfl : opAt F17.o5 4 = some (some 16, .load 25 (.tmp 15), none)) rfl rfl trivial (val_loadOwnAgg (n := 2) (vs := encR (l[i]'hil).B) hx.at_ (by kernel_rfl) (by kernel_rfl) rfl rfl rfl) ?_
    refine aS (by kernel_rfl : opAt F17.o5 5 = some (some 17, .buildSlice 38 2 #[(0, (.tmp 14)), (1, (.tmp 16))], none)) rfl rfl (a_buildSlice (ys := ([(l[i]'hil).A, (l[i]'hil).B] : List Couple)) (e := 25) (bytes := 16) hF (by kernel_rfl) rfl (by decide) (by decide) ⟨rfl, ⟨_, rfl, rv_couple.2 rfl⟩, rfl, ⟨_, rfl, rv_couple.2 rfl⟩, trivial⟩) ?_
    rintro v17 w4 ⟨hs, g17, hF⟩
    refine ⟨trivial, ?_⟩
    replace hT := hT.trans hs (by simp)
    replace hl := hl.st hs (by first | decide | (simp <;> omega))
    replace ho := ho.st hs (by first | decide | (simp <;> omega)) (by first | decide | (simp <;> omega))
    replace h10 := h10.st hs (by first | decide | (simp <;> omega))
    replace hx := hx.st hs (by first | decide | (simp <;> omega))
    refine aS (by kernel_rfl : opAt F17.o5 6 = some (some 18, .call { callee := .builtin .append, args := #[(.tmp 12), (.tmp 17)], argTypes := #[38, 38] }, none)) rfl rfl (a_append (e := 25) (bytes := 16) hF (by decide) rfl rfl (by kernel_rfl) (by decide) ho g17 (by simp only [List.length_cons, List.length_nil]; omega) (by simp only [List.length_cons, List.length_nil]; omega)) ?_
    rintro v18 w5 ⟨Cw5, hs, ho, hF⟩
    refine ⟨trivial, ?_⟩
    replace hT := hT.trans hs (by simp)
    replace hl := hl.st hs (by first | decide | (simp <;> omega))
    replace h10 := h10.st hs (by first | decide | (simp <;> omega))
    replace hx := hx.st hs (by first | decide | (simp <;> omega))
    replace g17 := g17.st hs (by first | decide | (simp <;> omega))
    refine yS (by kernel_rfl : opAt F17.o5 7 = some (some 3, .assign (.tmp 18), none)) rfl rfl (fun w' hS => val_assign rfl) ?_
    refine Sch.nil ?_
    refine run_inBlock ?_
    refine run_plain (id := 6) (ops := F17.o6) [(0, true), (1, true)] (by kernel_rfl) (by kernel_rfl) ?_
    refine yS (by kernel_rfl : opAt F17.o6 0 = some (some 19, .binOp .add 3 (.tmp 8) (.const (.int .i64 1)) 3, none)) rfl rfl (fun w' hS => val_addi rfl rfl (by omega) (by omega)) ?_
    refine yS (by kernel_rfl : opAt F17.o6 1 = some (some 8, .move (.tmp 19), none)) rfl rfl (fun w' hS => val_move rfl) ?_
    refine Sch.nil ?_
    refine kp (sub_cons 3 rfl rfl (sub_cons 6 rfl rfl (sub_cons 7 rfl rfl (sub_cons 8 rfl (eq_int (by simp)) (sub_nil _))))) (next1 (i + 1, v18, Cw5) _ ⟨(by first | omega | (simp only; omega)), hF, hT, hl, (by simp only; rw [endsS_take hil]; exact ho)⟩ (by first | omega | (simp only; omega)))
  · skip
    have hil : i = l.length := by omega
    subst hil
    rw [List.take_length] at ho
    refine run_exit (id := 0) (by kernel_rfl) rfl ?_
    refine run_seq (x := F17.c22) (y := F17.c23) (by kernel_rfl) ?_
    refine run_plain (id := 7) (ops := F17.o7) [(0, true), (1, false)] (by kernel_rfl) (by kernel_rfl) ?_
    refine yS (by kernel_rfl : opAt F17.o7 0 = some (some 20, .move (.tmp 3), none)) rfl rfl (fun w' hS => val_move rfl) ?_
    refine cS (by kernel_rfl : opAt F17.o7 1 = some (some 21, .call { callee := .value (.func 34), args := #[(.tmp 20), (.func 35)], argTypes := #[38, 63] }, none)) rfl rfl (ent Try.call34 rfl) (sort_ok hF ho (by rw [endsS_len]; omega)) ?_
    rintro vw6 w6 ⟨rfl, hs, ho, _⟩
    refine ⟨trivial, ?_⟩
    replace hF := hF.st hs
    replace hT := hT.trans hs (by simp)
    replace hl := hl.st hs (by first | decide | (simp <;> omega))
    refine Sch.nil ?_
    refine run_seq (x := F17.c24) (y := F17.c25) (by kernel_rfl) ?_
    refine run_plain (id := 8) (ops := F17.o8) [(0, true), (1, false), (2, true)] (by kernel_rfl) (by kernel_rfl) ?_
    refine yS (by kernel_rfl : opAt F17.o8 0 = some (some 22, .move (.tmp 3), none)) rfl rfl (fun w' hS => val_move rfl) ?_
    refine cS (by kernel_rfl : opAt F17.o8 1 = some (some 23, .call { callee := .value (.func 36), args := #[(.tmp 22)], argTypes := #[38] }, none)) rfl rfl (ent Try.call36 rfl) (compact_ok hF (by decide) ho (by rw [(sortC_perm _).length_eq, endsS_len]; omega)) ?_
    rintro vw7 w7 ⟨hs, ho, _⟩
    refine ⟨trivial, ?_⟩
    replace hF := hF.st hs
    replace hT := hT.trans hs (by simp)
    replace hl := hl.st hs (by first | decide | (simp <;> omega))
    refine yS (by kernel_rfl : opAt F17.o8 2 = some (some 2, .assign (.tmp 23), none)) rfl rfl (fun w' hS => val_assign rfl) ?_
    refine Sch.nil ?_
    refine run_ret1 (by kernel_rfl) Try.func17 Try.results17 rfl ?_
    exact ⟨hT.out1 (by decide), ho.out hT hF0 (Mc_col1 C) (fun b _ => col1_lt C (by decide) b) (by have := refsS_len l; unfold refsS at this; omega)⟩
end Go.Proofs.Ytfmdkdfhnkennaa

