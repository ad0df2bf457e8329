/- Steps through functions of the program. -/
import Derived.Test.YtgooehopkmbkfaaJT4
import Derived.Test.YtgooehopkmbkfaaJT5
set_option linter.unusedVariables false
set_option linter.unusedSimpArgs false
set_option maxRecDepth 100000
set_option maxHeartbeats 4000000
namespace Go.Proofs.Ytgooehopkmbkfaa
open Go.K Go.K.Rep

namespace F48
noncomputable def c0 : Code := bodyOf Try.f48
noncomputable def c1 : Code := cl c0
noncomputable def o0 : Array Oper := rops c1
noncomputable def c2 : Code := cr c0
noncomputable def c3 : Code := cl c2
noncomputable def o1 : Array Oper := rops c3
noncomputable def c4 : Code := cr c2
noncomputable def c5 : Code := cl c4
noncomputable def c6 : Code := cl c5
noncomputable def o2 : Array Oper := rops c6
noncomputable def c7 : Code := cr c5
noncomputable def c8 : Code := cl c7
noncomputable def c9 : Code := cl c8
noncomputable def c10 : Code := cl c9
noncomputable def o3 : Array Oper := rops c10
noncomputable def c11 : Code := cr c9
noncomputable def c12 : Code := cl c11
noncomputable def c13 : Code := cl c12
noncomputable def c14 : Code := cr c12
noncomputable def c15 : Code := cr c11
noncomputable def c16 : Code := cl c15
noncomputable def c17 : Code := cl c16
noncomputable def c18 : Code := cl c17
noncomputable def o4 : Array Oper := rops c18
noncomputable def c19 : Code := cr c17
noncomputable def o5 : Array Oper := rops c19
noncomputable def c20 : Code := cr c15
noncomputable def o6 : Array Oper := rops c20
noncomputable def c21 : Code := cr c4
noncomputable def c22 : Code := cl c21
noncomputable def c23 : Code := cl c22
noncomputable def o7 : Array Oper := rops c23
noncomputable def c24 : Code := cr c22
noncomputable def c25 : Code := cl c24
noncomputable def c26 : Code := cl c25
noncomputable def c27 : Code := cl c26
noncomputable def o8 : Array Oper := rops c27
noncomputable def c28 : Code := cr c26
noncomputable def c29 : Code := cl c28
noncomputable def c30 : Code := cl c29
noncomputable def c31 : Code := cr c29
noncomputable def c32 : Code := cr c28
noncomputable def c33 : Code := cl c32
noncomputable def c34 : Code := cl c33
noncomputable def c35 : Code := cl c34
noncomputable def o9 : Array Oper := rops c35
noncomputable def c36 : Code := cr c34
noncomputable def c37 : Code := cl c36
noncomputable def o10 : Array Oper := rops c37
noncomputable def c38 : Code := cr c36
noncomputable def c39 : Code := cl c38
noncomputable def c40 : Code := cl c39
noncomputable def o11 : Array Oper := rops c40
noncomputable def c41 : Code := cr c39
noncomputable def c42 : Code := cr c38
noncomputable def c43 : Code := cr c32
noncomputable def o12 : Array Oper := rops c43
noncomputable def c44 : Code := cr c21
noncomputable def c45 : Code := cl c44
noncomputable def o13 : Array Oper := rops c45
noncomputable def c46 : Code := cr c44
end F48
/-- 'covers'. -/
theorem covers_ok {w₀ : World} {C : Nat → Nat} {n m fj fm : Nat} {cj cm : Array Value} {J : Nat → Nat → Bool} {mu : Nat → Bool} (hF : Lim w₀ C) (hm : m ≤ 1000000) (hn : n ≤ 1000000) (hcj : ∀ args w, (callFunc fj args).run Try.prog w = .ok (.enter fj args) w) (hJ : ∀ w1, Stp [] w₀ C w1 C → ∀ i j : Nat, i < n → j < m → Calls Try.prog fj ([Value.int .i64 i, Value.int .i64 j] ++ cj.toList).toArray w1 (Ret fun v w2 => v = .bool (J i j) ∧ Stp [] w1 C w2 C)) (hcm : ∀ args w, (callFunc fm args).run Try.prog w = .ok (.enter fm args) w) (hM : ∀ w1, Stp [] w₀ C w1 C → ∀ i : Nat, i < n → Calls Try.prog fm ([Value.int .i64 i] ++ cm.toList).toArray w1 (Ret fun v w2 => v = .bool (mu i) ∧ Stp [] w1 C w2 C)) :
    Calls Try.prog 48 #[.int .i64 n, .int .i64 m, .func (.func fj) #[] cj, .func (.func fm) #[] cm] w₀ (Ret fun v w' => ∃ b : Bool, v = .bool b ∧ Stp [] w₀ C w' C ∧ (b = true ↔ Cover n m (fun a b => J a b = true) (fun a => mu a = true))) := by
  have hF0 := hF
  have hT := Stp.refl [2, 3, 4, 5, 6, 7, 8, 9] w₀ (col1 C)
  replace hF := hF.col1
  refine calls_start (c := F48.c0) (N := 41) [.int .i64 n, .int .i64 m, .func (.func fj) #[] cj, .func (.func fm) #[] cm] Try.func48 (by kernel_rfl) (by kernel_rfl) (by kernel_rfl) ?_
  show Run _ _ _ _ [(0, .int .i64 n), (1, .int .i64 m), (2, .func (.func fj) #[] cj), (3, .func (.func fm) #[] cm)] _ _
  refine run_seq (x := F48.c1) (y := F48.c2) (by kernel_rfl) ?_
  refine run_plain (id := 0) (ops := F48.o0) [(0, true)] (by kernel_rfl) (by kernel_rfl) ?_
  refine yS (by kernel_rfl : opAt F48.o0 0 = some (some 8, .assign (.const (.bool false)), none)) rfl rfl (fun w' hS => val_assign rfl) ?_
  refine Sch.nil ?_
  refine run_seq (x := F48.c3) (y := F48.c4) (by kernel_rfl) ?_
  refine run_plain (id := 1) (ops := F48.o1) [(0, true), (1, false), (2, true)] (by kernel_rfl) (by kernel_rfl) ?_
  refine yS (by kernel_rfl : opAt F48.o1 0 = some (some 12, .move (.tmp 1), none)) rfl rfl (fun w' hS => val_move rfl) ?_
  refine aS (by kernel_rfl : opAt F48.o1 1 = some (some 13, .makeSlice 22 (.tmp 12) (.tmp 12), none)) rfl rfl (a_make (e := 3) (bytes := 8) (x0 := (0 : Int)) (zs := [.int .i64 0]) hF (j := 4) (by decide) (by kernel_rfl) (by kernel_rfl) rfl rfl (by omega) (by omega) (by omega) (fun h M => zero_int)) ?_
  rintro v13 w1 ⟨Cw1, hs, hp, hF⟩
  refine ⟨trivial, ?_⟩
  replace hT := hT.trans hs (by simp)
  refine yS (by kernel_rfl : opAt F48.o1 2 = some (some 9, .assign (.tmp 13), none)) rfl rfl (fun w' hS => val_assign rfl) ?_
  refine Sch.nil ?_
  refine run_seq (x := F48.c5) (y := F48.c21) (by kernel_rfl) ?_
  refine run_seq (x := F48.c6) (y := F48.c7) (by kernel_rfl) ?_
  refine run_plain (id := 2) (ops := F48.o2) [(0, true), (1, true), (2, true)] (by kernel_rfl) (by kernel_rfl) ?_
  refine yS (by kernel_rfl : opAt F48.o2 0 = some (some 14, .move (.tmp 9), none)) rfl rfl (fun w' hS => val_move rfl) ?_
  refine yS (by kernel_rfl : opAt F48.o2 1 = some (some 15, .call { callee := .builtin .len, args := #[(.tmp 14)], argTypes := #[22] }, none)) rfl rfl (fun w' hS => hp.lenV rfl Try.underlying22 w' ) ?_
  refine yS (by kernel_rfl : opAt F48.o2 2 = some (some 16, .move (.const (.int .i64 0)), none)) rfl rfl (fun w' hS => val_move rfl) ?_
  refine Sch.nil ?_
  refine run_block (x := F48.c8) (id := 0) (by kernel_rfl) ?_
  
  refine run_loop (ι := Nat × (List Int) × (Nat → Nat)) (I := fun x w => x.1 ≤ m ∧ x.2.1.length = m ∧ (∀ q, q < x.1 → gI x.2.1 q = -1) ∧ Lim w x.2.2 ∧ Stp [2, 3, 4, 5, 6, 7, 8, 9] w₀ (col1 C) w x.2.2 ∧ OwnL w x.2.2 4 3 v13 x.2.1) (e := fun x => [(0, .int .i64 n), (1, .int .i64 m), (2, .func (.func fj) #[] cj), (3, .func (.func fm) #[] cm), (9, v13), (15, .int .i64 m), (16, .int .i64 x.1)]) (m := fun x => m - x.1) (x₀ := (0, List.replicate m 0, Cw1)) (body := F48.c9) (by kernel_rfl) (sub_cons 0 rfl rfl (sub_cons 1 rfl rfl (sub_cons 2 rfl rfl (sub_cons 3 rfl rfl (sub_cons 9 rfl rfl (sub_cons 15 rfl (eq_int (by simp)) (sub_cons 16 rfl rfl (sub_nil _)))))))) ?_ ?_
  · exact ⟨Nat.zero_le _, (by simp only; exact List.length_replicate), (fun q hq => by simp only at hq; omega), hF, hT, by simpa using hp⟩
  intro ⟨j, pl, C1⟩ w2 hI next
  obtain ⟨hj, hpl, hpv, hF, hT, hp⟩ := hI
  try simp only at hj hpl hpv hF hT hp
  have next1 := next
  clear next
  show Run _ _ _ _ [(0, .int .i64 n), (1, .int .i64 m), (2, .func (.func fj) #[] cj), (3, .func (.func fm) #[] cm), (9, v13), (15, .int .i64 m), (16, .int .i64 j)] _ _
  refine run_seq (x := F48.c10) (y := F48.c11) (by kernel_rfl) ?_
  refine run_plain (id := 3) (ops := F48.o3) [(0, true)] (by kernel_rfl) (by kernel_rfl) ?_
  refine yS (by kernel_rfl : opAt F48.o3 0 = some (some 17, .binOp .lss 3 (.tmp 16) (.tmp 15) 3, none)) rfl rfl (fun w' hS => val_lss rfl rfl) ?_
  refine Sch.nil ?_
  refine run_seq (x := F48.c12) (y := F48.c15) (by kernel_rfl) ?_
  refine run_if (x := F48.c13) (y := F48.c14) (o := .tmp 17) (by kernel_rfl) rfl (fun h17 => ?_) (fun h17 => ?_)
  · skip
    have hjm : j < m := by omega
    refine run_skip (by kernel_rfl) ?_
    refine run_seq (x := F48.c16) (y := F48.c20) (by kernel_rfl) ?_
    refine run_block (x := F48.c17) (id := 1) (by kernel_rfl) ?_
    refine run_seq (x := F48.c18) (y := F48.c19) (by kernel_rfl) ?_
    refine run_plain (id := 4) (ops := F48.o4) [(0, true), (1, true)] (by kernel_rfl) (by kernel_rfl) ?_
    refine yS (by kernel_rfl : opAt F48.o4 0 = some (some 18, .move (.tmp 16), none)) rfl rfl (fun w' hS => val_move rfl) ?_
    refine yS (by kernel_rfl : opAt F48.o4 1 = some (some 10, .assign (.tmp 18), none)) rfl rfl (fun w' hS => val_assign rfl) ?_
    refine Sch.nil ?_
    refine run_plain (id := 5) (ops := F48.o5) [(0, true), (1, true), (2, true), (3, false)] (by kernel_rfl) (by kernel_rfl) ?_
    refine yS (by kernel_rfl : opAt F48.o5 0 = some (some 19, .move (.tmp 9), none)) rfl rfl (fun w' hS => val_move rfl) ?_
    refine yS (by kernel_rfl : opAt F48.o5 1 = some (some 20, .move (.tmp 10), none)) rfl rfl (fun w' hS => val_move rfl) ?_
    refine oI (e' := 3) (by kernel_rfl : opAt F48.o5 2 = some (some 21, .indexAddr 22 (.tmp 19) (.tmp 20), none)) rfl rfl hp rfl (by kernel_rfl) rfl (by omega) (by omega) ?_
    intro g21 hg21
    try simp only [Int.toNat_natCast]
    refine aN (by kernel_rfl : opAt F48.o5 3 = some (none, .store 3 (.tmp 21) (.const (.int .i64 (-1))), none)) rfl (a_storeO hp hg21 (by omega) rfl rfl (by kernel_rfl) (rv_int.2 rfl)) ?_
    rintro _ w3 ⟨rfl, hs, hp⟩
    refine ⟨trivial, ?_⟩
    replace hF := hF.st hs
    replace hT := hT.trans hs (by simp)
    refine Sch.nil ?_
    refine run_inBlock ?_
    refine run_plain (id := 6) (ops := F48.o6) [(0, true), (1, true)] (by kernel_rfl) (by kernel_rfl) ?_
    refine yS (by kernel_rfl : opAt F48.o6 0 = some (some 22, .binOp .add 3 (.tmp 16) (.const (.int .i64 1)) 3, none)) rfl rfl (fun w' hS => val_addi rfl rfl (by omega) (by omega)) ?_
    refine yS (by kernel_rfl : opAt F48.o6 1 = some (some 16, .move (.tmp 22), none)) rfl rfl (fun w' hS => val_move rfl) ?_
    refine Sch.nil ?_
    refine kp (sub_cons 0 rfl rfl (sub_cons 1 rfl rfl (sub_cons 2 rfl rfl (sub_cons 3 rfl rfl (sub_cons 9 rfl rfl (sub_cons 15 rfl rfl (sub_cons 16 rfl (eq_int (by simp)) (sub_nil _)))))))) (next1 (j + 1, pl.set j (-1), C1) _ ⟨(by first | omega | (simp only; omega)), (by simp only [List.length_set]; exact hpl), (fun q hq => by
        simp only at hq ⊢
        show (pl.set j _).getD q 0 = _
        rw [getD_set (by omega)]
        split
        · rfl
        · exact hpv q (by omega)), hF, hT, hp⟩ (by first | omega | (simp only; omega)))
  · skip
    have hjm : m = j := by omega
    subst hjm
    have hH := Has.start (n := n) (J := (fun a b => J a b = true)) (must := (fun a => mu a = true)) hpv
    refine run_exit (id := 0) (by kernel_rfl) rfl ?_
    refine run_seq (x := F48.c22) (y := F48.c44) (by kernel_rfl) ?_
    refine run_seq (x := F48.c23) (y := F48.c24) (by kernel_rfl) ?_
    refine run_plain (id := 7) (ops := F48.o7) [(0, true), (1, true)] (by kernel_rfl) (by kernel_rfl) ?_
    refine yS (by kernel_rfl : opAt F48.o7 0 = some (some 23, .move (.tmp 0), none)) rfl rfl (fun w' hS => val_move rfl) ?_
    refine yS (by kernel_rfl : opAt F48.o7 1 = some (some 24, .move (.const (.int .i64 0)), none)) rfl rfl (fun w' hS => val_move rfl) ?_
    refine Sch.nil ?_
    refine run_block (x := F48.c25) (id := 2) (by kernel_rfl) ?_
    
    refine run_loop (ι := Nat × (List Int) × (Nat → Nat)) (I := fun x w => x.1 ≤ n ∧ x.2.1.length = m ∧ Has n m (fun a b => J a b = true) (fun a => mu a = true) x.1 (gI x.2.1) ∧ Lim w x.2.2 ∧ Stp [2, 3, 4, 5, 6, 7, 8, 9] w₀ (col1 C) w x.2.2 ∧ OwnL w x.2.2 4 3 v13 x.2.1) (e := fun x => [(0, .int .i64 n), (1, .int .i64 m), (2, .func (.func fj) #[] cj), (3, .func (.func fm) #[] cm), (9, v13), (23, .int .i64 n), (24, .int .i64 x.1)]) (m := fun x => n - x.1) (x₀ := (0, pl, C1)) (body := F48.c26) (by kernel_rfl) (sub_cons 0 rfl rfl (sub_cons 1 rfl rfl (sub_cons 2 rfl rfl (sub_cons 3 rfl rfl (sub_cons 9 rfl rfl (sub_cons 23 rfl rfl (sub_cons 24 rfl rfl (sub_nil _)))))))) ?_ ?_
    · exact ⟨Nat.zero_le _, hpl, hH, hF, hT, hp⟩
    intro ⟨i, p2, C1⟩ w4 hI next
    obtain ⟨hi, hpl2, hH, hF, hT, hp⟩ := hI
    try simp only at hi hpl2 hH hF hT hp
    have next2 := next
    clear next
    show Run _ _ _ _ [(0, .int .i64 n), (1, .int .i64 m), (2, .func (.func fj) #[] cj), (3, .func (.func fm) #[] cm), (9, v13), (23, .int .i64 n), (24, .int .i64 i)] _ _
    refine run_seq (x := F48.c27) (y := F48.c28) (by kernel_rfl) ?_
    refine run_plain (id := 8) (ops := F48.o8) [(0, true)] (by kernel_rfl) (by kernel_rfl) ?_
    refine yS (by kernel_rfl : opAt F48.o8 0 = some (some 25, .binOp .lss 3 (.tmp 24) (.tmp 23) 3, none)) rfl rfl (fun w' hS => val_lss rfl rfl) ?_
    refine Sch.nil ?_
    refine run_seq (x := F48.c29) (y := F48.c32) (by kernel_rfl) ?_
    refine run_if (x := F48.c30) (y := F48.c31) (o := .tmp 25) (by kernel_rfl) rfl (fun h25 => ?_) (fun h25 => ?_)
    · skip
      have hin : i < n := by omega
      refine run_skip (by kernel_rfl) ?_
      refine run_seq (x := F48.c33) (y := F48.c43) (by kernel_rfl) ?_
      refine run_block (x := F48.c34) (id := 3) (by kernel_rfl) ?_
      refine run_seq (x := F48.c35) (y := F48.c36) (by kernel_rfl) ?_
      refine run_plain (id := 9) (ops := F48.o9) [(0, true), (1, true)] (by kernel_rfl) (by kernel_rfl) ?_
      refine yS (by kernel_rfl : opAt F48.o9 0 = some (some 26, .move (.tmp 24), none)) rfl rfl (fun w' hS => val_move rfl) ?_
      refine yS (by kernel_rfl : opAt F48.o9 1 = some (some 11, .assign (.tmp 26), none)) rfl rfl (fun w' hS => val_assign rfl) ?_
      refine Sch.nil ?_
      refine run_seq (x := F48.c37) (y := F48.c38) (by kernel_rfl) ?_
      by_cases hA : mu i = true
      · skip
        refine run_plain (id := 10) (ops := F48.o10) [(0, true), (1, true), (2, false), (3, true), (4, true), (5, true), (6, true), (7, true), (8, false), (9, true), (10, false), (11, true), (12, true)] (by kernel_rfl) (by kernel_rfl) ?_
        refine yS (by kernel_rfl : opAt F48.o10 0 = some (some 27, .move (.tmp 3), none)) rfl rfl (fun w' hS => val_move rfl) ?_
        refine yS (by kernel_rfl : opAt F48.o10 1 = some (some 28, .move (.tmp 11), none)) rfl rfl (fun w' hS => val_move rfl) ?_
        refine cS (by kernel_rfl : opAt F48.o10 2 = some (some 29, .call { callee := .value (.tmp 27), args := #[(.tmp 28)], argTypes := #[3] }, none)) rfl rfl (enters_func hcm rfl rfl) (hM _ (hT.out1 (by decide)) i hin) ?_
        rintro vw5 w5 ⟨rfl, hs0⟩
        have hs := hs0.unfrz (C1)
        rw [hA]
        refine ⟨trivial, ?_⟩
        replace hF := hF.st hs
        replace hT := hT.trans hs (by simp)
        replace hp := hp.st hs (by first | decide | (simp <;> omega)) (by first | decide | (simp <;> omega))
        refine yS (by kernel_rfl : opAt F48.o10 3 = some (some 30, .move (.tmp 29), none)) rfl rfl (fun w' hS => val_move rfl) ?_
        refine yS (by kernel_rfl : opAt F48.o10 4 = some (some 31, .move (.tmp 1), (some (3, true)))) rfl rfl (fun w' hS => val_move rfl) ?_
        refine yS (by kernel_rfl : opAt F48.o10 5 = some (some 32, .move (.tmp 2), (some (3, true)))) rfl rfl (fun w' hS => val_move rfl) ?_
        refine yS (by kernel_rfl : opAt F48.o10 6 = some (some 33, .move (.tmp 9), (some (3, true)))) rfl rfl (fun w' hS => val_move rfl) ?_
        refine yS (by kernel_rfl : opAt F48.o10 7 = some (some 34, .move (.tmp 1), (some (3, true)))) rfl rfl (fun w' hS => val_move rfl) ?_
        refine aS (by kernel_rfl : opAt F48.o10 8 = some (some 35, .makeSlice 48 (.tmp 34) (.tmp 34), (some (3, true)))) rfl rfl (a_make (e := 4) (bytes := 1) (x0 := false) (zs := [.bool false]) hF (j := 5) (by decide) (by kernel_rfl) (by kernel_rfl) rfl rfl (by omega) (by omega) (by omega) (fun h M => rfl)) ?_
        rintro v35 w6 ⟨Cw6, hs, hs5, hF⟩
        refine ⟨trivial, ?_⟩
        replace hT := hT.trans hs (by simp)
        replace hp := hp.st hs (by first | decide | (simp <;> omega)) (by first | decide | (simp <;> omega))
        refine yS (by kernel_rfl : opAt F48.o10 9 = some (some 36, .move (.tmp 11), (some (3, true)))) rfl rfl (fun w' hS => val_move rfl) ?_
        try simp only [Int.toNat_natCast] at hs5
        have hJ2 : ∀ w1, Stp [4, 5] _ (Cw6) w1 (Cw6) → ∀ a b : Nat, a < n → b < m → Calls Try.prog fj ([Value.int .i64 a, Value.int .i64 b] ++ cj.toList).toArray w1 (Ret fun v w2 => v = .bool (J a b) ∧ Stp [] w1 (Cw6) w2 (Cw6)) := fun w1 hs1 a b ha hb => (hJ w1 ((hT.trans hs1 (by simp)).out1 (by decide)) a b ha hb).mono (Ret.mono fun v w2 h => ⟨h.1, h.2.unfrz _⟩)
        have hsf : ∀ j, j < m → gB (List.replicate m false) j = false := fun j _ => getD_rep
        refine cS (by kernel_rfl : opAt F48.o10 10 = some (some 37, .call { callee := .value (.func 59), args := #[(.tmp 31), (.tmp 32), (.tmp 33), (.tmp 35), (.tmp 36)], argTypes := #[3, 65, 22, 48, 3] }, (some (3, true)))) rfl rfl (ent Try.call59 rfl) (augment_ok hcj hJ2 hF (Stp.refl _ _ _) hp hs5 hpl2 (by simp) hH.base (fun k hk e => by
      have := hH.only k hk (by omega)
      omega) hin (by omega)) ?_
        rintro vw7 w7 ⟨rr, p3, s3, rfl, hs, hp, hs5, hl3, _, hy, hno⟩
        refine ⟨trivial, ?_⟩
        replace hF := hF.st hs
        replace hT := hT.trans hs (by simp)
        refine yS (by kernel_rfl : opAt F48.o10 11 = some (some 38, .unOp .not 4 (.tmp 37), (some (3, true)))) rfl rfl (fun w' hS => val_not rfl) ?_
        refine yS (by kernel_rfl : opAt F48.o10 12 = some (some 39, .pick (.tmp 30) (.tmp 38) (.const (.bool false)), none)) rfl rfl (fun w' hS => val_pick_t rfl rfl) ?_
        refine Sch.nil ?_
        refine run_cond (x := F48.c39) (y := F48.c42) (o := .tmp 39) (by kernel_rfl) rfl (fun h39 => ?_) (fun h39 => ?_)
        · skip
          have hrf : rr = false := by simpa using h39
          obtain ⟨_, hfl, hrw⟩ := hno hrf
          have hnc := hH.none hin hA hsf hfl hrw
          refine run_seq (x := F48.c40) (y := F48.c41) (by kernel_rfl) ?_
          refine run_plain (id := 11) (ops := F48.o11) [(0, true)] (by kernel_rfl) (by kernel_rfl) ?_
          refine yS (by kernel_rfl : opAt F48.o11 0 = some (some 8, .assign (.const (.bool false)), none)) rfl rfl (fun w' hS => val_assign rfl) ?_
          refine Sch.nil ?_
          refine run_ret1 (by kernel_rfl) Try.func48 Try.results48 rfl ?_
          exact ⟨false, rfl, hT.out1 (by decide), fun e => (by cases e), fun e => absurd e hnc⟩
        · skip
          have hrt : rr = true := by simpa using h39
          have hH2 := hH.put hA (hy hrt) hsf
          refine run_skip (by kernel_rfl) ?_
          refine run_inBlock ?_
          refine run_plain (id := 12) (ops := F48.o12) [(0, true), (1, true)] (by kernel_rfl) (by kernel_rfl) ?_
          refine yS (by kernel_rfl : opAt F48.o12 0 = some (some 40, .binOp .add 3 (.tmp 24) (.const (.int .i64 1)) 3, none)) rfl rfl (fun w' hS => val_addi rfl rfl (by omega) (by omega)) ?_
          refine yS (by kernel_rfl : opAt F48.o12 1 = some (some 24, .move (.tmp 40), none)) rfl rfl (fun w' hS => val_move rfl) ?_
          refine Sch.nil ?_
          refine kp (sub_cons 0 rfl rfl (sub_cons 1 rfl rfl (sub_cons 2 rfl rfl (sub_cons 3 rfl rfl (sub_cons 9 rfl rfl (sub_cons 23 rfl rfl (sub_cons 24 rfl (eq_int (by simp)) (sub_nil _)))))))) (next2 (i + 1, p3, Cw6) _ ⟨(by first | omega | (simp only; omega)), hl3, hH2, hF, hT, hp⟩ (by first | omega | (simp only; omega)))
      · skip
        refine run_plain (id := 10) (ops := F48.o10) [(0, true), (1, true), (2, false), (3, true), (4, true), (5, true), (6, true), (7, true), (8, false), (9, true), (10, false), (11, true), (12, true)] (by kernel_rfl) (by kernel_rfl) ?_
        refine yS (by kernel_rfl : opAt F48.o10 0 = some (some 27, .move (.tmp 3), none)) rfl rfl (fun w' hS => val_move rfl) ?_
        refine yS (by kernel_rfl : opAt F48.o10 1 = some (some 28, .move (.tmp 11), none)) rfl rfl (fun w' hS => val_move rfl) ?_
        refine cS (by kernel_rfl : opAt F48.o10 2 = some (some 29, .call { callee := .value (.tmp 27), args := #[(.tmp 28)], argTypes := #[3] }, none)) rfl rfl (enters_func hcm rfl rfl) (hM _ (hT.out1 (by decide)) i hin) ?_
        rintro vw8 w8 ⟨rfl, hs0⟩
        have hs := hs0.unfrz (C1)
        rw [Bool.eq_false_iff.2 hA]
        refine ⟨trivial, ?_⟩
        replace hF := hF.st hs
        replace hT := hT.trans hs (by simp)
        replace hp := hp.st hs (by first | decide | (simp <;> omega)) (by first | decide | (simp <;> omega))
        refine yS (by kernel_rfl : opAt F48.o10 3 = some (some 30, .move (.tmp 29), none)) rfl rfl (fun w' hS => val_move rfl) ?_
        refine pS (by kernel_rfl : opAt F48.o10 4 = some (some 31, .move (.tmp 1), (some (3, true)))) rfl rfl ?_
        refine pS (by kernel_rfl : opAt F48.o10 5 = some (some 32, .move (.tmp 2), (some (3, true)))) rfl rfl ?_
        refine pS (by kernel_rfl : opAt F48.o10 6 = some (some 33, .move (.tmp 9), (some (3, true)))) rfl rfl ?_
        refine pS (by kernel_rfl : opAt F48.o10 7 = some (some 34, .move (.tmp 1), (some (3, true)))) rfl rfl ?_
        refine pW (by kernel_rfl : opAt F48.o10 8 = some (some 35, .makeSlice 48 (.tmp 34) (.tmp 34), (some (3, true)))) rfl rfl trivial ?_
        refine pS (by kernel_rfl : opAt F48.o10 9 = some (some 36, .move (.tmp 11), (some (3, true)))) rfl rfl ?_
        refine pW (by kernel_rfl : opAt F48.o10 10 = some (some 37, .call { callee := .value (.func 59), args := #[(.tmp 31), (.tmp 32), (.tmp 33), (.tmp 35), (.tmp 36)], argTypes := #[3, 65, 22, 48, 3] }, (some (3, true)))) rfl rfl trivial ?_
        refine pS (by kernel_rfl : opAt F48.o10 11 = some (some 38, .unOp .not 4 (.tmp 37), (some (3, true)))) rfl rfl ?_
        refine yS (by kernel_rfl : opAt F48.o10 12 = some (some 39, .pick (.tmp 30) (.tmp 38) (.const (.bool false)), none)) rfl rfl (fun w' hS => val_pick_f rfl rfl) ?_
        refine Sch.nil ?_
        refine run_cond (x := F48.c39) (y := F48.c42) (o := .tmp 39) (b := false) (by kernel_rfl) rfl (fun h => by cases h) (fun _ => ?_)
        refine run_skip (by kernel_rfl) ?_
        refine run_inBlock ?_
        refine run_plain (id := 12) (ops := F48.o12) [(0, true), (1, true)] (by kernel_rfl) (by kernel_rfl) ?_
        refine yS (by kernel_rfl : opAt F48.o12 0 = some (some 40, .binOp .add 3 (.tmp 24) (.const (.int .i64 1)) 3, none)) rfl rfl (fun w' hS => val_addi rfl rfl (by omega) (by omega)) ?_
        refine yS (by kernel_rfl : opAt F48.o12 1 = some (some 24, .move (.tmp 40), none)) rfl rfl (fun w' hS => val_move rfl) ?_
        refine Sch.nil ?_
        refine kp (sub_cons 0 rfl rfl (sub_cons 1 rfl rfl (sub_cons 2 rfl rfl (sub_cons 3 rfl rfl (sub_cons 9 rfl rfl (sub_cons 23 rfl rfl (sub_cons 24 rfl (eq_int (by simp)) (sub_nil _)))))))) (next2 (i + 1, p2, C1) _ ⟨(by first | omega | (simp only; omega)), (by first | omega | (simp only; omega)), (hH.skip hA), hF, hT, hp⟩ (by first | omega | (simp only; omega)))
    · skip
      have hin : n = i := by omega
      subst hin
      refine run_exit (id := 2) (by kernel_rfl) rfl ?_
      refine run_seq (x := F48.c45) (y := F48.c46) (by kernel_rfl) ?_
      refine run_plain (id := 13) (ops := F48.o13) [(0, true)] (by kernel_rfl) (by kernel_rfl) ?_
      refine yS (by kernel_rfl : opAt F48.o13 0 = some (some 8, .assign (.const (.bool true)), none)) rfl rfl (fun w' hS => val_assign rfl) ?_
      refine Sch.nil ?_
      refine run_ret1 (by kernel_rfl) Try.func48 Try.results48 rfl ?_
      exact ⟨true, rfl, hT.out1 (by decide), fun _ => hH.cover, fun _ => rfl⟩
namespace F34
noncomputable def c0 : Code := bodyOf Try.f34
noncomputable def c1 : Code := cl c0
noncomputable def o0 : Array Oper := rops c1
noncomputable def c2 : Code := cr c0
noncomputable def c3 : Code := cl c2
noncomputable def o1 : Array Oper := rops c3
noncomputable def c4 : Code := cr c2
end F34
/-- 'Edge'. -/
theorem edge_ok {w₀ : World} {M : Nat → Prop} {gb n m i j : Nat} {gr : Gr} {wt : Nat → Nat → Int} {U V : Nat → Int} (hg : RA w₀ M gr gb 0) (hG : GrIs n m wt U V gr) (hi : i < n) (hj : j < m) :
    Calls Try.prog 34 #[.pointer (some ⟨gb, 0, none⟩), .int .i64 i, .int .i64 j] w₀ (Ret fun v w' => v = .bool (edgeB wt U V i j) ∧ w' = w₀) := by
  have hel := hG.edl
  refine calls_start (c := F34.c0) (N := 17) [.pointer (some ⟨gb, 0, none⟩), .int .i64 i, .int .i64 j] Try.func34 (by kernel_rfl) (by kernel_rfl) (by kernel_rfl) ?_
  show Run _ _ _ _ [(0, .pointer (some ⟨gb, 0, none⟩)), (1, .int .i64 i), (2, .int .i64 j)] _ _
  refine run_seq (x := F34.c1) (y := F34.c2) (by kernel_rfl) ?_
  refine run_plain (id := 0) (ops := F34.o0) [(0, true)] (by kernel_rfl) (by kernel_rfl) ?_
  refine yS (by kernel_rfl : opAt F34.o0 0 = some (some 6, .assign (.const (.bool false)), none)) rfl rfl (fun w' hS => val_assign rfl) ?_
  refine Sch.nil ?_
  refine run_seq (x := F34.c3) (y := F34.c4) (by kernel_rfl) ?_
  refine run_plain (id := 1) (ops := F34.o1) [(0, true), (1, true), (2, true), (3, false), (4, true), (5, true), (6, false), (7, true), (8, true), (9, false), (10, true)] (by kernel_rfl) (by kernel_rfl) ?_
  refine yS (by kernel_rfl : opAt F34.o1 0 = some (some 7, .move (.tmp 0), none)) rfl rfl (fun w' hS => val_move rfl) ?_
  refine yS (by kernel_rfl : opAt F34.o1 1 = some (some 8, .nilCheck (.tmp 7), none)) rfl rfl (fun w' hS => val_nilCheck rfl) ?_
  have h9 := RA.gE hg
  refine yS (by kernel_rfl : opAt F34.o1 2 = some (some 9, .fieldAddr 69 (.tmp 8) 5, none)) rfl rfl (fun w' hS => val_fieldAddr (off := 5) (by kernel_rfl) rfl) ?_
  refine lN (by kernel_rfl : opAt F34.o1 3 = some (some 10, .load 67 (.tmp 9), none)) rfl rfl trivial h9 (by kernel_rfl) rfl rfl ?_
  intro v10 g10
  refine yS (by kernel_rfl : opAt F34.o1 4 = some (some 11, .move (.tmp 1), none)) rfl rfl (fun w' hS => val_move rfl) ?_
  refine iS (e := 48) (by kernel_rfl : opAt F34.o1 5 = some (some 12, .indexAddr 67 (.tmp 10) (.tmp 11), none)) rfl rfl g10 rfl (by kernel_rfl) rfl (by omega) (by omega) ?_
  intro b12 o12 h12
  try simp only [Int.toNat_natCast] at h12
  refine lN (by kernel_rfl : opAt F34.o1 6 = some (some 13, .load 48 (.tmp 12), none)) rfl rfl trivial h12 (by kernel_rfl) rfl rfl ?_
  intro v13 g13
  have hrl : (gr.edge[i]'(by omega)).length = m := hG.edm _ (List.getElem_mem _)
  refine yS (by kernel_rfl : opAt F34.o1 7 = some (some 14, .move (.tmp 2), none)) rfl rfl (fun w' hS => val_move rfl) ?_
  refine iS (e := 4) (by kernel_rfl : opAt F34.o1 8 = some (some 15, .indexAddr 48 (.tmp 13) (.tmp 14), none)) rfl rfl g13 rfl (by kernel_rfl) rfl (by omega) (by omega) ?_
  intro b15 o15 h15
  try simp only [Int.toNat_natCast] at h15
  refine lN (by kernel_rfl : opAt F34.o1 9 = some (some 16, .load 4 (.tmp 15), none)) rfl rfl trivial h15 (by kernel_rfl) rfl rfl ?_
  intro v16 g16
  obtain rfl := rv_bool.1 g16
  have hev : ((gr.edge[i]'(by omega))[j]'(by omega)) = edgeB wt U V i j := by
    have e1 : gr.edge.getD i [] = gr.edge[i]'(by omega) := getD_in _
    rw [← hG.ed i j hi hj, e1]; exact (getD_in _).symm
  rw [hev]
  refine yS (by kernel_rfl : opAt F34.o1 10 = some (some 6, .assign (.tmp 16), none)) rfl rfl (fun w' hS => val_assign rfl) ?_
  refine Sch.nil ?_
  refine run_ret1 (by kernel_rfl) Try.func34 Try.results34 rfl ?_
  exact ⟨rfl, rfl⟩
namespace F33
noncomputable def c0 : Code := bodyOf Try.f33
noncomputable def c1 : Code := cl c0
noncomputable def o0 : Array Oper := rops c1
noncomputable def c2 : Code := cr c0
noncomputable def c3 : Code := cl c2
noncomputable def o1 : Array Oper := rops c3
noncomputable def c4 : Code := cr c2
noncomputable def c5 : Code := cl c4
noncomputable def c6 : Code := cl c5
noncomputable def o2 : Array Oper := rops c6
noncomputable def c7 : Code := cr c5
noncomputable def c8 : Code := cl c7
noncomputable def c9 : Code := cl c8
noncomputable def c10 : Code := cl c9
noncomputable def o3 : Array Oper := rops c10
noncomputable def c11 : Code := cr c9
noncomputable def c12 : Code := cl c11
noncomputable def c13 : Code := cl c12
noncomputable def c14 : Code := cr c12
noncomputable def c15 : Code := cr c11
noncomputable def c16 : Code := cl c15
noncomputable def c17 : Code := cl c16
noncomputable def c18 : Code := cl c17
noncomputable def o4 : Array Oper := rops c18
noncomputable def c19 : Code := cr c17
noncomputable def o5 : Array Oper := rops c19
noncomputable def c20 : Code := cr c15
noncomputable def o6 : Array Oper := rops c20
noncomputable def c21 : Code := cr c4
noncomputable def c22 : Code := cl c21
noncomputable def o7 : Array Oper := rops c22
noncomputable def c23 : Code := cr c21
end F33
/-- 'Begin'. -/
theorem begin_own {w₀ : World} {C : Nat → Nat} {gb n m : Nat} {gr : Gr} {wt : Nat → Nat → Int} {U V : Nat → Int} (hF : Lim w₀ C) (hg : RA w₀ (Mc C) gr gb 0) (hG : GrIs n m wt U V gr) (hn : n ≤ 1000000) (cj : Nat) (hcj : cj ≠ 0) :
    Calls Try.prog 33 #[.pointer (some ⟨gb, 0, none⟩)] w₀ (Ret fun v w' => ∃ C', Stp [] w₀ C w' C' ∧ Lim w' C' ∧ OwnL w' C' cj 3 v (List.replicate n (-2 : Int))) := by
  have hF0 := hF
  have hT := Stp.refl [2, 3, 4, 5, 6, 7, 8, 9] w₀ (col1 C)
  replace hF := hF.col1
  replace hg : RA w₀ (Mc (col1 C)) gr gb 0 := by rw [Mc_col1]; exact hg
  refine calls_start (c := F33.c0) (N := 20) [.pointer (some ⟨gb, 0, none⟩)] Try.func33 (by kernel_rfl) (by kernel_rfl) (by kernel_rfl) ?_
  show Run _ _ _ _ [(0, .pointer (some ⟨gb, 0, none⟩))] _ _
  refine run_seq (x := F33.c1) (y := F33.c2) (by kernel_rfl) ?_
  refine run_plain (id := 0) (ops := F33.o0) [(0, true)] (by kernel_rfl) (by kernel_rfl) ?_
  refine yS (by kernel_rfl : opAt F33.o0 0 = some (some 2, .assign (.const (.slice none 0 0)), none)) rfl rfl (fun w' hS => val_assign rfl) ?_
  refine Sch.nil ?_
  refine run_seq (x := F33.c3) (y := F33.c4) (by kernel_rfl) ?_
  refine run_plain (id := 1) (ops := F33.o1) [(0, true), (1, true), (2, true), (3, false), (4, false), (5, true)] (by kernel_rfl) (by kernel_rfl) ?_
  refine yS (by kernel_rfl : opAt F33.o1 0 = some (some 5, .move (.tmp 0), none)) rfl rfl (fun w' hS => val_move rfl) ?_
  refine yS (by kernel_rfl : opAt F33.o1 1 = some (some 6, .nilCheck (.tmp 5), none)) rfl rfl (fun w' hS => val_nilCheck rfl) ?_
  have h7 := RA.gn hg
  refine yS (by kernel_rfl : opAt F33.o1 2 = some (some 7, .fieldAddr 69 (.tmp 6) 0, none)) rfl rfl (fun w' hS => val_fieldAddr (off := 0) (by kernel_rfl) rfl) ?_
  refine lN (by kernel_rfl : opAt F33.o1 3 = some (some 8, .load 3 (.tmp 7), none)) rfl rfl trivial h7 (by kernel_rfl) rfl rfl ?_
  intro v8 g8
  first | (obtain rfl := rv_nat.1 g8) | (obtain rfl := rv_int.1 g8)
  rw [hG.gn]
  refine aS (by kernel_rfl : opAt F33.o1 4 = some (some 9, .makeSlice 22 (.tmp 8) (.tmp 8), none)) rfl rfl (a_make (e := 3) (bytes := 8) (x0 := (0 : Int)) (zs := [.int .i64 0]) hF (j := 3) (by decide) (by kernel_rfl) (by kernel_rfl) rfl rfl (by omega) (by omega) (by omega) (fun h M => zero_int)) ?_
  rintro v9 w1 ⟨Cw1, hs, ho, hF⟩
  refine ⟨trivial, ?_⟩
  replace hT := hT.trans hs (by simp)
  replace hg := hg.st hs (by first | decide | (simp <;> omega))
  replace h7 := h7.st hs (by first | decide | (simp <;> omega))
  refine yS (by kernel_rfl : opAt F33.o1 5 = some (some 3, .assign (.tmp 9), none)) rfl rfl (fun w' hS => val_assign rfl) ?_
  refine Sch.nil ?_
  refine run_seq (x := F33.c5) (y := F33.c21) (by kernel_rfl) ?_
  refine run_seq (x := F33.c6) (y := F33.c7) (by kernel_rfl) ?_
  refine run_plain (id := 2) (ops := F33.o2) [(0, true), (1, true), (2, true)] (by kernel_rfl) (by kernel_rfl) ?_
  refine yS (by kernel_rfl : opAt F33.o2 0 = some (some 10, .move (.tmp 3), none)) rfl rfl (fun w' hS => val_move rfl) ?_
  refine yS (by kernel_rfl : opAt F33.o2 1 = some (some 11, .call { callee := .builtin .len, args := #[(.tmp 10)], argTypes := #[22] }, none)) rfl rfl (fun w' hS => ho.lenV rfl Try.underlying22 w' ) ?_
  refine yS (by kernel_rfl : opAt F33.o2 2 = some (some 12, .move (.const (.int .i64 0)), none)) rfl rfl (fun w' hS => val_move rfl) ?_
  refine Sch.nil ?_
  refine run_block (x := F33.c8) (id := 0) (by kernel_rfl) ?_
  
  refine run_loop (ι := Nat × (List Int) × (Nat → Nat)) (I := fun x w => x.1 ≤ n ∧ x.2.1.length = n ∧ (∀ q (hq : q < x.2.1.length), q < x.1 → x.2.1[q] = -2) ∧ Lim w x.2.2 ∧ Stp [2, 3, 4, 5, 6, 7, 8, 9] w₀ (col1 C) w x.2.2 ∧ OwnL w x.2.2 3 3 v9 x.2.1) (e := fun x => [(3, v9), (11, .int .i64 n), (12, .int .i64 x.1)]) (m := fun x => n - x.1) (x₀ := (0, List.replicate n 0, Cw1)) (body := F33.c9) (by kernel_rfl) (sub_cons 3 rfl rfl (sub_cons 11 rfl (eq_int (by simp)) (sub_cons 12 rfl rfl (sub_nil _)))) ?_ ?_
  · exact ⟨Nat.zero_le _, (by simp only; exact List.length_replicate), (fun q hq h => by simp only at h; omega), hF, hT, by simpa using ho⟩
  intro ⟨j, ys, C1⟩ w2 hI next
  obtain ⟨hj, hyl, hyv, hF, hT, ho⟩ := hI
  try simp only at hj hyl hyv hF hT ho
  have next1 := next
  clear next
  show Run _ _ _ _ [(3, v9), (11, .int .i64 n), (12, .int .i64 j)] _ _
  refine run_seq (x := F33.c10) (y := F33.c11) (by kernel_rfl) ?_
  refine run_plain (id := 3) (ops := F33.o3) [(0, true)] (by kernel_rfl) (by kernel_rfl) ?_
  refine yS (by kernel_rfl : opAt F33.o3 0 = some (some 13, .binOp .lss 3 (.tmp 12) (.tmp 11) 3, none)) rfl rfl (fun w' hS => val_lss rfl rfl) ?_
  refine Sch.nil ?_
  refine run_seq (x := F33.c12) (y := F33.c15) (by kernel_rfl) ?_
  refine run_if (x := F33.c13) (y := F33.c14) (o := .tmp 13) (by kernel_rfl) rfl (fun h13 => ?_) (fun h13 => ?_)
  · skip
    have hjn : j < n := by omega
    refine run_skip (by kernel_rfl) ?_
    refine run_seq (x := F33.c16) (y := F33.c20) (by kernel_rfl) ?_
    refine run_block (x := F33.c17) (id := 1) (by kernel_rfl) ?_
    refine run_seq (x := F33.c18) (y := F33.c19) (by kernel_rfl) ?_
    refine run_plain (id := 4) (ops := F33.o4) [(0, true), (1, true)] (by kernel_rfl) (by kernel_rfl) ?_
    refine yS (by kernel_rfl : opAt F33.o4 0 = some (some 14, .move (.tmp 12), none)) rfl rfl (fun w' hS => val_move rfl) ?_
    refine yS (by kernel_rfl : opAt F33.o4 1 = some (some 4, .assign (.tmp 14), none)) rfl rfl (fun w' hS => val_assign rfl) ?_
    refine Sch.nil ?_
    refine run_plain (id := 5) (ops := F33.o5) [(0, true), (1, true), (2, true), (3, false)] (by kernel_rfl) (by kernel_rfl) ?_
    refine yS (by kernel_rfl : opAt F33.o5 0 = some (some 15, .move (.tmp 3), none)) rfl rfl (fun w' hS => val_move rfl) ?_
    refine yS (by kernel_rfl : opAt F33.o5 1 = some (some 16, .move (.tmp 4), none)) rfl rfl (fun w' hS => val_move rfl) ?_
    refine oI (e' := 3) (by kernel_rfl : opAt F33.o5 2 = some (some 17, .indexAddr 22 (.tmp 15) (.tmp 16), none)) rfl rfl ho rfl (by kernel_rfl) rfl (by omega) (by omega) ?_
    intro g17 hg17
    try simp only [Int.toNat_natCast]
    refine aN (by kernel_rfl : opAt F33.o5 3 = some (none, .store 3 (.tmp 17) (.const (.int .i64 (-2))), none)) rfl (a_storeO ho hg17 (by omega) rfl rfl (by kernel_rfl) (rv_int.2 rfl)) ?_
    rintro _ w3 ⟨rfl, hs, ho⟩
    refine ⟨trivial, ?_⟩
    replace hF := hF.st hs
    replace hT := hT.trans hs (by simp)
    refine Sch.nil ?_
    refine run_inBlock ?_
    refine run_plain (id := 6) (ops := F33.o6) [(0, true), (1, true)] (by kernel_rfl) (by kernel_rfl) ?_
    refine yS (by kernel_rfl : opAt F33.o6 0 = some (some 18, .binOp .add 3 (.tmp 12) (.const (.int .i64 1)) 3, none)) rfl rfl (fun w' hS => val_addi rfl rfl (by omega) (by omega)) ?_
    refine yS (by kernel_rfl : opAt F33.o6 1 = some (some 12, .move (.tmp 18), none)) rfl rfl (fun w' hS => val_move rfl) ?_
    refine Sch.nil ?_
    refine kp (sub_cons 3 rfl rfl (sub_cons 11 rfl rfl (sub_cons 12 rfl (eq_int (by simp)) (sub_nil _)))) (next1 (j + 1, ys.set j (-2), C1) _ ⟨(by first | omega | (simp only; omega)), (by simp only [List.length_set]; exact hyl), (fun q hq h => by
        simp only at h ⊢
        rw [List.getElem_set]
        split
        · rfl
        · exact hyv q (by simpa using hq) (by omega)), hF, hT, ho⟩ (by first | omega | (simp only; omega)))
  · skip
    have hjn : n = j := by omega
    subst hjn
    refine run_exit (id := 0) (by kernel_rfl) rfl ?_
    refine run_seq (x := F33.c22) (y := F33.c23) (by kernel_rfl) ?_
    refine run_plain (id := 7) (ops := F33.o7) [(0, true), (1, true)] (by kernel_rfl) (by kernel_rfl) ?_
    refine yS (by kernel_rfl : opAt F33.o7 0 = some (some 19, .move (.tmp 3), none)) rfl rfl (fun w' hS => val_move rfl) ?_
    refine yS (by kernel_rfl : opAt F33.o7 1 = some (some 2, .assign (.tmp 19), none)) rfl rfl (fun w' hS => val_assign rfl) ?_
    refine Sch.nil ?_
    refine run_ret1 (by kernel_rfl) Try.func33 Try.results33 rfl ?_
    obtain rfl : ys = List.replicate n (-2) := List.ext_getElem (by simp [hyl]) (fun q h1 h2 => by rw [hyv q h1 (by omega), List.getElem_replicate])
    obtain ⟨Cg, hcg, hFg, hMg, hog⟩ := ho.give hT hF0 (Mc_col1 C) (fun b _ => col1_lt C (by decide) b) (by decide) cj hcj
    exact ⟨Cg, (hT.out1 (by decide)).give hcg, hFg, hog⟩
end Go.Proofs.Ytgooehopkmbkfaa
