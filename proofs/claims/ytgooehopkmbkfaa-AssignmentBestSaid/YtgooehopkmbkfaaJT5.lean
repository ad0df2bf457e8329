/- Steps through functions of the program. -/
import Derived.Test.YtgooehopkmbkfaaJD3
import Derived.Test.YtgooehopkmbkfaaL2
set_option linter.unusedVariables false
set_option linter.unusedSimpArgs false
set_option maxRecDepth 100000
set_option maxHeartbeats 4000000
namespace Go.Proofs.Ytgooehopkmbkfaa
open Go.K Go.K.Rep

namespace F59
noncomputable def c0 : Code := bodyOf Try.f59
noncomputable def c1 : Code := cl c0
noncomputable def o0 : Array Oper := rops c1
noncomputable def c2 : Code := cr c0
noncomputable def c3 : Code := cl c2
noncomputable def c4 : Code := cl c3
noncomputable def o1 : Array Oper := rops c4
noncomputable def c5 : Code := cr c3
noncomputable def c6 : Code := cl c5
noncomputable def c7 : Code := cl c6
noncomputable def c8 : Code := cl c7
noncomputable def o2 : Array Oper := rops c8
noncomputable def c9 : Code := cr c7
noncomputable def c10 : Code := cl c9
noncomputable def c11 : Code := cl c10
noncomputable def c12 : Code := cr c10
noncomputable def c13 : Code := cr c9
noncomputable def c14 : Code := cl c13
noncomputable def c15 : Code := cl c14
noncomputable def c16 : Code := cl c15
noncomputable def o3 : Array Oper := rops c16
noncomputable def c17 : Code := cr c15
noncomputable def c18 : Code := cl c17
noncomputable def c19 : Code := cl c18
noncomputable def o4 : Array Oper := rops c19
noncomputable def c20 : Code := cr c18
noncomputable def c21 : Code := cl c20
noncomputable def c22 : Code := cr c20
noncomputable def c23 : Code := cr c17
noncomputable def c24 : Code := cl c23
noncomputable def o5 : Array Oper := rops c24
noncomputable def c25 : Code := cr c23
noncomputable def c26 : Code := cl c25
noncomputable def o6 : Array Oper := rops c26
noncomputable def c27 : Code := cr c25
noncomputable def c28 : Code := cl c27
noncomputable def c29 : Code := cl c28
noncomputable def o7 : Array Oper := rops c29
noncomputable def c30 : Code := cr c28
noncomputable def c31 : Code := cl c30
noncomputable def o8 : Array Oper := rops c31
noncomputable def c32 : Code := cr c30
noncomputable def c33 : Code := cr c27
noncomputable def c34 : Code := cr c13
noncomputable def o9 : Array Oper := rops c34
noncomputable def c35 : Code := cr c2
noncomputable def c36 : Code := cl c35
noncomputable def o10 : Array Oper := rops c36
noncomputable def c37 : Code := cr c35
end F59
theorem augment_step {wB : World} {C : Nat → Nat} {n m fj : Nat} {cj : Array Value} {J : Nat → Nat → Bool} {vp vs : Value} {pl : List Int} (hcj : ∀ args w, (callFunc fj args).run Try.prog w = .ok (.enter fj args) w) (hJ : ∀ w1, Stp [4, 5] wB C w1 C → ∀ i j : Nat, i < n → j < m → Calls Try.prog fj ([Value.int .i64 i, Value.int .i64 j] ++ cj.toList).toArray w1 (Ret fun v w2 => v = .bool (J i j) ∧ Stp [] w1 C w2 C)) {d : Nat}
    (IH : ∀ (w₀ : World) (i : Nat) (sl : List Bool), sl.count false < d → Lim w₀ C → Stp [4, 5] wB C w₀ C → OwnL w₀ C 4 3 vp pl → OwnL w₀ C 5 4 vs sl → pl.length = m → sl.length = m → Pt n m (fun a b => J a b = true) (gI pl) → (∀ k, k < m → gI pl k = i → gB sl k = true) → i < n → m ≤ 1000000 → Calls Try.prog 59 #[.int .i64 m, .func (.func fj) #[] cj, vp, vs, .int .i64 i] w₀ (Ret fun v w' => ∃ (r : Bool) (pl' : List Int) (sl' : List Bool), v = .bool r ∧ Stp [4, 5] w₀ C w' C ∧ OwnL w' C 4 3 vp pl' ∧ OwnL w' C 5 4 vs sl' ∧ pl'.length = m ∧ sl'.length = m ∧ (r = true → Aug n m (fun a b => J a b = true) (gI pl) (gB sl) i (gI pl')) ∧ (r = false → pl' = pl ∧ Fail m (fun a b => J a b = true) (gI pl) (gB sl) (gB sl') ∧ ∀ j, j < m → J i j = true → gB sl' j = true)))
    {w₀ : World} {i : Nat} {sl : List Bool} (hd : sl.count false ≤ d) (hF : Lim w₀ C) (hB : Stp [4, 5] wB C w₀ C) (hp : OwnL w₀ C 4 3 vp pl) (hs : OwnL w₀ C 5 4 vs sl) (hpl : pl.length = m) (hsl : sl.length = m) (hPt : Pt n m (fun a b => J a b = true) (gI pl)) (hsi : ∀ k, k < m → gI pl k = i → gB sl k = true) (hi : i < n) (hm : m ≤ 1000000) : Calls Try.prog 59 #[.int .i64 m, .func (.func fj) #[] cj, vp, vs, .int .i64 i] w₀ (Ret fun v w' => ∃ (r : Bool) (pl' : List Int) (sl' : List Bool), v = .bool r ∧ Stp [4, 5] w₀ C w' C ∧ OwnL w' C 4 3 vp pl' ∧ OwnL w' C 5 4 vs sl' ∧ pl'.length = m ∧ sl'.length = m ∧ (r = true → Aug n m (fun a b => J a b = true) (gI pl) (gB sl) i (gI pl')) ∧ (r = false → pl' = pl ∧ Fail m (fun a b => J a b = true) (gI pl) (gB sl) (gB sl') ∧ ∀ j, j < m → J i j = true → gB sl' j = true)) := by
  have hT := Stp.refl [4, 5] w₀ C
  have hs5 := hs
  clear hs
  refine calls_start (c := F59.c0) (N := 51) [.int .i64 m, .func (.func fj) #[] cj, vp, vs, .int .i64 i] Try.func59 (by kernel_rfl) (by kernel_rfl) (by kernel_rfl) ?_
  show Run _ _ _ _ [(0, .int .i64 m), (1, .func (.func fj) #[] cj), (2, vp), (3, vs), (4, .int .i64 i)] _ _
  refine run_seq (x := F59.c1) (y := F59.c2) (by kernel_rfl) ?_
  refine run_plain (id := 0) (ops := F59.o0) [(0, true)] (by kernel_rfl) (by kernel_rfl) ?_
  refine yS (by kernel_rfl : opAt F59.o0 0 = some (some 10, .assign (.const (.bool false)), none)) rfl rfl (fun w' hS => val_assign rfl) ?_
  refine Sch.nil ?_
  refine run_seq (x := F59.c3) (y := F59.c35) (by kernel_rfl) ?_
  refine run_seq (x := F59.c4) (y := F59.c5) (by kernel_rfl) ?_
  refine run_plain (id := 1) (ops := F59.o1) [(0, true), (1, true)] (by kernel_rfl) (by kernel_rfl) ?_
  refine yS (by kernel_rfl : opAt F59.o1 0 = some (some 12, .move (.tmp 0), none)) rfl rfl (fun w' hS => val_move rfl) ?_
  refine yS (by kernel_rfl : opAt F59.o1 1 = some (some 13, .move (.const (.int .i64 0)), none)) rfl rfl (fun w' hS => val_move rfl) ?_
  refine Sch.nil ?_
  refine run_block (x := F59.c6) (id := 0) (by kernel_rfl) ?_
  
  refine run_loop (ι := Nat × (List Bool)) (I := fun x w => x.1 ≤ m ∧ x.2.length = m ∧ x.2.count false ≤ sl.count false ∧ Fail m (fun a b => J a b = true) (gI pl) (gB sl) (gB x.2) ∧ (∀ q, q < x.1 → J i q = true → gB x.2 q = true) ∧ Lim w C ∧ Stp [4, 5] w₀ C w C ∧ OwnL w C 4 3 vp pl ∧ OwnL w C 5 4 vs x.2) (e := fun x => [(0, .int .i64 m), (1, .func (.func fj) #[] cj), (2, vp), (3, vs), (4, .int .i64 i), (12, .int .i64 m), (13, .int .i64 x.1)]) (m := fun x => m - x.1) (x₀ := (0, sl)) (body := F59.c7) (by kernel_rfl) (sub_cons 0 rfl rfl (sub_cons 1 rfl rfl (sub_cons 2 rfl rfl (sub_cons 3 rfl rfl (sub_cons 4 rfl rfl (sub_cons 12 rfl rfl (sub_cons 13 rfl rfl (sub_nil _)))))))) ?_ ?_
  · exact ⟨Nat.zero_le _, hsl, Nat.le_refl _, Fail.refl, (fun q hq => by simp only at hq; omega), hF, hT, hp, hs5⟩
  intro ⟨j, s1⟩ w1 hI next
  obtain ⟨hj, hl1, hcn, hfa, hJs, hF, hT, hp, hs5⟩ := hI
  try simp only at hj hl1 hcn hfa hJs hF hT hp hs5
  have next1 := next
  clear next
  show Run _ _ _ _ [(0, .int .i64 m), (1, .func (.func fj) #[] cj), (2, vp), (3, vs), (4, .int .i64 i), (12, .int .i64 m), (13, .int .i64 j)] _ _
  refine run_seq (x := F59.c8) (y := F59.c9) (by kernel_rfl) ?_
  refine run_plain (id := 2) (ops := F59.o2) [(0, true)] (by kernel_rfl) (by kernel_rfl) ?_
  refine yS (by kernel_rfl : opAt F59.o2 0 = some (some 14, .binOp .lss 3 (.tmp 13) (.tmp 12) 3, none)) rfl rfl (fun w' hS => val_lss rfl rfl) ?_
  refine Sch.nil ?_
  refine run_seq (x := F59.c10) (y := F59.c13) (by kernel_rfl) ?_
  refine run_if (x := F59.c11) (y := F59.c12) (o := .tmp 14) (by kernel_rfl) rfl (fun h14 => ?_) (fun h14 => ?_)
  · skip
    have hjm : j < m := by omega
    refine run_skip (by kernel_rfl) ?_
    refine run_seq (x := F59.c14) (y := F59.c34) (by kernel_rfl) ?_
    refine run_block (x := F59.c15) (id := 1) (by kernel_rfl) ?_
    refine run_seq (x := F59.c16) (y := F59.c17) (by kernel_rfl) ?_
    refine run_plain (id := 3) (ops := F59.o3) [(0, true), (1, true)] (by kernel_rfl) (by kernel_rfl) ?_
    refine yS (by kernel_rfl : opAt F59.o3 0 = some (some 15, .move (.tmp 13), none)) rfl rfl (fun w' hS => val_move rfl) ?_
    refine yS (by kernel_rfl : opAt F59.o3 1 = some (some 11, .assign (.tmp 15), none)) rfl rfl (fun w' hS => val_assign rfl) ?_
    refine Sch.nil ?_
    refine run_seq (x := F59.c18) (y := F59.c23) (by kernel_rfl) ?_
    refine run_seq (x := F59.c19) (y := F59.c20) (by kernel_rfl) ?_
    by_cases hA : s1[j]'(by omega) = true
    · skip
      refine run_plain (id := 4) (ops := F59.o4) [(0, true), (1, true), (2, true), (3, false), (4, true), (5, true), (6, true), (7, true), (8, false), (9, true), (10, true)] (by kernel_rfl) (by kernel_rfl) ?_
      refine yS (by kernel_rfl : opAt F59.o4 0 = some (some 16, .move (.tmp 3), none)) rfl rfl (fun w' hS => val_move rfl) ?_
      refine yS (by kernel_rfl : opAt F59.o4 1 = some (some 17, .move (.tmp 11), none)) rfl rfl (fun w' hS => val_move rfl) ?_
      refine oI (e' := 4) (by kernel_rfl : opAt F59.o4 2 = some (some 18, .indexAddr 48 (.tmp 16) (.tmp 17), none)) rfl rfl hs5 rfl (by kernel_rfl) rfl (by omega) (by omega) ?_
      intro g18 hg18
      try simp only [Int.toNat_natCast]
      refine oN (by kernel_rfl : opAt F59.o4 3 = some (some 19, .load 4 (.tmp 18), none)) rfl rfl trivial hs5 hg18 (by omega) (by kernel_rfl) rfl rfl ?_
      intro v19 g19
      try simp only [Int.toNat_natCast] at g19
      obtain rfl := rv_bool.1 g19
      rw [hA]
      refine yS (by kernel_rfl : opAt F59.o4 4 = some (some 20, .move (.tmp 19), none)) rfl rfl (fun w' hS => val_move rfl) ?_
      refine pS (by kernel_rfl : opAt F59.o4 5 = some (some 21, .move (.tmp 1), (some (4, false)))) rfl rfl ?_
      refine pS (by kernel_rfl : opAt F59.o4 6 = some (some 22, .move (.tmp 4), (some (4, false)))) rfl rfl ?_
      refine pS (by kernel_rfl : opAt F59.o4 7 = some (some 23, .move (.tmp 11), (some (4, false)))) rfl rfl ?_
      refine pW (by kernel_rfl : opAt F59.o4 8 = some (some 24, .call { callee := .value (.tmp 21), args := #[(.tmp 22), (.tmp 23)], argTypes := #[3, 3] }, (some (4, false)))) rfl rfl trivial ?_
      refine pS (by kernel_rfl : opAt F59.o4 9 = some (some 25, .unOp .not 4 (.tmp 24), (some (4, false)))) rfl rfl ?_
      refine yS (by kernel_rfl : opAt F59.o4 10 = some (some 26, .pick (.tmp 20) (.const (.bool true)) (.tmp 25), none)) rfl rfl (fun w' hS => val_pick_t rfl rfl) ?_
      refine Sch.nil ?_
      refine run_cond (x := F59.c21) (y := F59.c22) (o := .tmp 26) (b := true) (by kernel_rfl) rfl (fun _ => ?_) (fun h => by cases h)
      refine run_exit (id := 1) (by kernel_rfl) rfl ?_
      refine run_plain (id := 9) (ops := F59.o9) [(0, true), (1, true)] (by kernel_rfl) (by kernel_rfl) ?_
      refine yS (by kernel_rfl : opAt F59.o9 0 = some (some 50, .binOp .add 3 (.tmp 13) (.const (.int .i64 1)) 3, none)) rfl rfl (fun w' hS => val_addi rfl rfl (by omega) (by omega)) ?_
      refine yS (by kernel_rfl : opAt F59.o9 1 = some (some 13, .move (.tmp 50), none)) rfl rfl (fun w' hS => val_move rfl) ?_
      refine Sch.nil ?_
      refine kp (sub_cons 0 rfl rfl (sub_cons 1 rfl rfl (sub_cons 2 rfl rfl (sub_cons 3 rfl rfl (sub_cons 4 rfl rfl (sub_cons 12 rfl rfl (sub_cons 13 rfl (eq_int (by simp)) (sub_nil _)))))))) (next1 (j + 1, s1) _ ⟨(by first | omega | (simp only; omega)), (by first | omega | (simp only; omega)), (by first | omega | (simp only; omega)), (by first | omega | (simp only; omega)), (fun q hq e => by
          simp only at hq
          by_cases e1 : q = j
          · subst e1; show gB s1 q = true; exact (getD_in (by omega)).trans hA
          · exact hJs q (by omega) e), hF, hT, hp, hs5⟩ (by first | omega | (simp only; omega)))
    · skip
      refine run_plain (id := 4) (ops := F59.o4) [(0, true), (1, true), (2, true), (3, false), (4, true), (5, true), (6, true), (7, true), (8, false), (9, true), (10, true)] (by kernel_rfl) (by kernel_rfl) ?_
      refine yS (by kernel_rfl : opAt F59.o4 0 = some (some 16, .move (.tmp 3), none)) rfl rfl (fun w' hS => val_move rfl) ?_
      refine yS (by kernel_rfl : opAt F59.o4 1 = some (some 17, .move (.tmp 11), none)) rfl rfl (fun w' hS => val_move rfl) ?_
      refine oI (e' := 4) (by kernel_rfl : opAt F59.o4 2 = some (some 18, .indexAddr 48 (.tmp 16) (.tmp 17), none)) rfl rfl hs5 rfl (by kernel_rfl) rfl (by omega) (by omega) ?_
      intro g18 hg18
      try simp only [Int.toNat_natCast]
      refine oN (by kernel_rfl : opAt F59.o4 3 = some (some 19, .load 4 (.tmp 18), none)) rfl rfl trivial hs5 hg18 (by omega) (by kernel_rfl) rfl rfl ?_
      intro v19 g19
      try simp only [Int.toNat_natCast] at g19
      obtain rfl := rv_bool.1 g19
      rw [Bool.eq_false_iff.2 hA]
      refine yS (by kernel_rfl : opAt F59.o4 4 = some (some 20, .move (.tmp 19), none)) rfl rfl (fun w' hS => val_move rfl) ?_
      refine yS (by kernel_rfl : opAt F59.o4 5 = some (some 21, .move (.tmp 1), (some (4, false)))) rfl rfl (fun w' hS => val_move rfl) ?_
      refine yS (by kernel_rfl : opAt F59.o4 6 = some (some 22, .move (.tmp 4), (some (4, false)))) rfl rfl (fun w' hS => val_move rfl) ?_
      refine yS (by kernel_rfl : opAt F59.o4 7 = some (some 23, .move (.tmp 11), (some (4, false)))) rfl rfl (fun w' hS => val_move rfl) ?_
      refine cS (by kernel_rfl : opAt F59.o4 8 = some (some 24, .call { callee := .value (.tmp 21), args := #[(.tmp 22), (.tmp 23)], argTypes := #[3, 3] }, (some (4, false)))) rfl rfl (enters_func hcj rfl rfl) (hJ _ (hB.trans hT (by simp)) i j hi hjm) ?_
      rintro vw2 w2 ⟨rfl, hs⟩
      refine ⟨trivial, ?_⟩
      replace hF := hF.st hs
      replace hT := hT.trans hs (by simp)
      replace hp := hp.st hs (by first | decide | (simp <;> omega)) (by first | decide | (simp <;> omega))
      replace hs5 := hs5.st hs (by first | decide | (simp <;> omega)) (by first | decide | (simp <;> omega))
      refine yS (by kernel_rfl : opAt F59.o4 9 = some (some 25, .unOp .not 4 (.tmp 24), (some (4, false)))) rfl rfl (fun w' hS => val_not rfl) ?_
      refine yS (by kernel_rfl : opAt F59.o4 10 = some (some 26, .pick (.tmp 20) (.const (.bool true)) (.tmp 25), none)) rfl rfl (fun w' hS => val_pick_f rfl rfl) ?_
      refine Sch.nil ?_
      refine run_cond (x := F59.c21) (y := F59.c22) (o := .tmp 26) (by kernel_rfl) rfl (fun h26 => ?_) (fun h26 => ?_)
      · skip
        have hJf : J i j = false := by simpa using h26
        refine run_exit (id := 1) (by kernel_rfl) rfl ?_
        refine run_plain (id := 9) (ops := F59.o9) [(0, true), (1, true)] (by kernel_rfl) (by kernel_rfl) ?_
        refine yS (by kernel_rfl : opAt F59.o9 0 = some (some 50, .binOp .add 3 (.tmp 13) (.const (.int .i64 1)) 3, none)) rfl rfl (fun w' hS => val_addi rfl rfl (by omega) (by omega)) ?_
        refine yS (by kernel_rfl : opAt F59.o9 1 = some (some 13, .move (.tmp 50), none)) rfl rfl (fun w' hS => val_move rfl) ?_
        refine Sch.nil ?_
        refine kp (sub_cons 0 rfl rfl (sub_cons 1 rfl rfl (sub_cons 2 rfl rfl (sub_cons 3 rfl rfl (sub_cons 4 rfl rfl (sub_cons 12 rfl rfl (sub_cons 13 rfl (eq_int (by simp)) (sub_nil _)))))))) (next1 (j + 1, s1) _ ⟨(by first | omega | (simp only; omega)), (by first | omega | (simp only; omega)), (by first | omega | (simp only; omega)), (by first | omega | (simp only; omega)), (fun q hq e => by
            simp only at hq
            by_cases e1 : q = j
            · subst e1; rw [hJf] at e; cases e
            · exact hJs q (by omega) e), hF, hT, hp, hs5⟩ (by first | omega | (simp only; omega)))
      · skip
        have hJt : J i j = true := by simpa using h26
        have hsj : gB s1 j = false := (getD_in (by omega)).trans (Bool.eq_false_iff.2 hA)
        have hs0 : gB sl j = false := by
          cases e : gB sl j with
          | false => rfl
          | true => have := hfa.up j hjm e; rw [hsj] at this; cases this
        refine run_skip (by kernel_rfl) ?_
        refine run_seq (x := F59.c24) (y := F59.c25) (by kernel_rfl) ?_
        refine run_plain (id := 5) (ops := F59.o5) [(0, true), (1, true), (2, true), (3, false)] (by kernel_rfl) (by kernel_rfl) ?_
        refine yS (by kernel_rfl : opAt F59.o5 0 = some (some 27, .move (.tmp 3), none)) rfl rfl (fun w' hS => val_move rfl) ?_
        refine yS (by kernel_rfl : opAt F59.o5 1 = some (some 28, .move (.tmp 11), none)) rfl rfl (fun w' hS => val_move rfl) ?_
        refine oI (e' := 4) (by kernel_rfl : opAt F59.o5 2 = some (some 29, .indexAddr 48 (.tmp 27) (.tmp 28), none)) rfl rfl hs5 rfl (by kernel_rfl) rfl (by omega) (by omega) ?_
        intro g29 hg29
        try simp only [Int.toNat_natCast]
        refine aN (by kernel_rfl : opAt F59.o5 3 = some (none, .store 4 (.tmp 29) (.const (.bool true)), none)) rfl (a_storeO hs5 hg29 (by omega) rfl rfl (by kernel_rfl) (rv_bool.2 rfl)) ?_
        rintro _ w3 ⟨rfl, hs, hs5⟩
        refine ⟨trivial, ?_⟩
        replace hF := hF.st hs
        replace hT := hT.trans hs (by simp)
        replace hp := hp.st hs (by first | decide | (simp <;> omega)) (by first | decide | (simp <;> omega))
        refine Sch.nil ?_
        have hct := count_set (cl := s1) (a := j) (by omega) (Bool.eq_false_iff.2 hA)
        obtain ⟨s2, hs2⟩ : ∃ l, l = s1.set j true := ⟨_, rfl⟩
        rw [← hs2] at hs5 hct
        have hl2 : s2.length = m := by rw [hs2, List.length_set]; exact hl1
        have hq2 : ∀ q, gB s2 q = if j = q then true else gB s1 q := fun q => by rw [hs2]; exact gB_set' (by omega) q
        have hpj : gI pl j = pl[j]'(by omega) := getD_in _
        have hok := hPt.ok j hjm
        rw [hpj] at hok
        clear hs2
        refine run_seq (x := F59.c26) (y := F59.c27) (by kernel_rfl) ?_
        by_cases hP : pl[j]'(by omega) < 0
        · skip
          refine run_plain (id := 6) (ops := F59.o6) [(0, true), (1, true), (2, true), (3, false), (4, true), (5, true), (6, true), (7, true), (8, true), (9, true), (10, true), (11, true), (12, true), (13, false), (14, false), (15, true)] (by kernel_rfl) (by kernel_rfl) ?_
          refine yS (by kernel_rfl : opAt F59.o6 0 = some (some 30, .move (.tmp 2), none)) rfl rfl (fun w' hS => val_move rfl) ?_
          refine yS (by kernel_rfl : opAt F59.o6 1 = some (some 31, .move (.tmp 11), none)) rfl rfl (fun w' hS => val_move rfl) ?_
          refine oI (e' := 3) (by kernel_rfl : opAt F59.o6 2 = some (some 32, .indexAddr 22 (.tmp 30) (.tmp 31), none)) rfl rfl hp rfl (by kernel_rfl) rfl (by omega) (by omega) ?_
          intro g32 hg32
          try simp only [Int.toNat_natCast]
          refine oN (by kernel_rfl : opAt F59.o6 3 = some (some 33, .load 3 (.tmp 32), none)) rfl rfl trivial hp hg32 (by omega) (by kernel_rfl) rfl rfl ?_
          intro v33 g33
          try simp only [Int.toNat_natCast] at g33
          first | (obtain rfl := rv_nat.1 g33) | (obtain rfl := rv_int.1 g33)
          refine yS (by kernel_rfl : opAt F59.o6 4 = some (some 34, .binOp .lss 3 (.tmp 33) (.const (.int .i64 0)) 3, none)) rfl rfl (fun w' hS => val_T (val_lss rfl rfl) hP) ?_
          refine yS (by kernel_rfl : opAt F59.o6 5 = some (some 35, .move (.tmp 34), none)) rfl rfl (fun w' hS => val_move rfl) ?_
          refine pS (by kernel_rfl : opAt F59.o6 6 = some (some 36, .move (.tmp 0), (some (5, false)))) rfl rfl ?_
          refine pS (by kernel_rfl : opAt F59.o6 7 = some (some 37, .move (.tmp 1), (some (5, false)))) rfl rfl ?_
          refine pS (by kernel_rfl : opAt F59.o6 8 = some (some 38, .move (.tmp 2), (some (5, false)))) rfl rfl ?_
          refine pS (by kernel_rfl : opAt F59.o6 9 = some (some 39, .move (.tmp 3), (some (5, false)))) rfl rfl ?_
          refine pS (by kernel_rfl : opAt F59.o6 10 = some (some 40, .move (.tmp 2), (some (5, false)))) rfl rfl ?_
          refine pS (by kernel_rfl : opAt F59.o6 11 = some (some 41, .move (.tmp 11), (some (5, false)))) rfl rfl ?_
          refine pS (by kernel_rfl : opAt F59.o6 12 = some (some 42, .indexAddr 22 (.tmp 40) (.tmp 41), (some (5, false)))) rfl rfl ?_
          refine pW (by kernel_rfl : opAt F59.o6 13 = some (some 43, .load 3 (.tmp 42), (some (5, false)))) rfl rfl trivial ?_
          refine pW (by kernel_rfl : opAt F59.o6 14 = some (some 44, .call { callee := .value (.func 59), args := #[(.tmp 36), (.tmp 37), (.tmp 38), (.tmp 39), (.tmp 43)], argTypes := #[3, 65, 22, 48, 3] }, (some (5, false)))) rfl rfl trivial ?_
          refine yS (by kernel_rfl : opAt F59.o6 15 = some (some 45, .pick (.tmp 35) (.const (.bool true)) (.tmp 44), none)) rfl rfl (fun w' hS => val_pick_t rfl rfl) ?_
          refine Sch.nil ?_
          refine run_cond (x := F59.c28) (y := F59.c33) (o := .tmp 45) (b := true) (by kernel_rfl) rfl (fun _ => ?_) (fun h => by cases h)
          refine run_seq (x := F59.c29) (y := F59.c30) (by kernel_rfl) ?_
          refine run_plain (id := 7) (ops := F59.o7) [(0, true), (1, true), (2, true), (3, true), (4, false)] (by kernel_rfl) (by kernel_rfl) ?_
          refine yS (by kernel_rfl : opAt F59.o7 0 = some (some 46, .move (.tmp 2), none)) rfl rfl (fun w' hS => val_move rfl) ?_
          refine yS (by kernel_rfl : opAt F59.o7 1 = some (some 47, .move (.tmp 11), none)) rfl rfl (fun w' hS => val_move rfl) ?_
          refine yS (by kernel_rfl : opAt F59.o7 2 = some (some 48, .move (.tmp 4), none)) rfl rfl (fun w' hS => val_move rfl) ?_
          refine oI (e' := 3) (by kernel_rfl : opAt F59.o7 3 = some (some 49, .indexAddr 22 (.tmp 46) (.tmp 47), none)) rfl rfl hp rfl (by kernel_rfl) rfl (by omega) (by omega) ?_
          intro g49 hg49
          try simp only [Int.toNat_natCast]
          refine aN (by kernel_rfl : opAt F59.o7 4 = some (none, .store 3 (.tmp 49) (.tmp 48), none)) rfl (a_storeO hp hg49 (by omega) rfl rfl (by kernel_rfl) (rv_int.2 rfl)) ?_
          rintro _ w4 ⟨rfl, hs, hp⟩
          refine ⟨trivial, ?_⟩
          replace hF := hF.st hs
          replace hT := hT.trans hs (by simp)
          replace hs5 := hs5.st hs (by first | decide | (simp <;> omega)) (by first | decide | (simp <;> omega))
          refine Sch.nil ?_
          refine run_seq (x := F59.c31) (y := F59.c32) (by kernel_rfl) ?_
          refine run_plain (id := 8) (ops := F59.o8) [(0, true)] (by kernel_rfl) (by kernel_rfl) ?_
          refine yS (by kernel_rfl : opAt F59.o8 0 = some (some 10, .assign (.const (.bool true)), none)) rfl rfl (fun w' hS => val_assign rfl) ?_
          refine Sch.nil ?_
          refine run_ret1 (by kernel_rfl) Try.func59 Try.results59 rfl ?_
          have hneg : gI pl j = -1 := by rw [hpj]; omega
          exact ⟨true, _, _, rfl, hT, hp, hs5, by rw [List.length_set]; exact hpl, hl2, fun _ => Aug.free hPt hsi hi hjm hs0 hJt hneg (by show (pl.set j _).getD j 0 = _; rw [getD_set (by omega), if_pos rfl]) (fun k hk => by show (pl.set j _).getD k 0 = _; rw [getD_set (by omega), if_neg (fun e => hk e.symm)]), fun e => by cases e⟩
        · skip
          refine run_plain (id := 6) (ops := F59.o6) [(0, true), (1, true), (2, true), (3, false), (4, true), (5, true), (6, true), (7, true), (8, true), (9, true), (10, true), (11, true), (12, true), (13, false), (14, false), (15, true)] (by kernel_rfl) (by kernel_rfl) ?_
          refine yS (by kernel_rfl : opAt F59.o6 0 = some (some 30, .move (.tmp 2), none)) rfl rfl (fun w' hS => val_move rfl) ?_
          refine yS (by kernel_rfl : opAt F59.o6 1 = some (some 31, .move (.tmp 11), none)) rfl rfl (fun w' hS => val_move rfl) ?_
          refine oI (e' := 3) (by kernel_rfl : opAt F59.o6 2 = some (some 32, .indexAddr 22 (.tmp 30) (.tmp 31), none)) rfl rfl hp rfl (by kernel_rfl) rfl (by omega) (by omega) ?_
          intro g32 hg32
          try simp only [Int.toNat_natCast]
          refine oN (by kernel_rfl : opAt F59.o6 3 = some (some 33, .load 3 (.tmp 32), none)) rfl rfl trivial hp hg32 (by omega) (by kernel_rfl) rfl rfl ?_
          intro v33 g33
          try simp only [Int.toNat_natCast] at g33
          first | (obtain rfl := rv_nat.1 g33) | (obtain rfl := rv_int.1 g33)
          refine yS (by kernel_rfl : opAt F59.o6 4 = some (some 34, .binOp .lss 3 (.tmp 33) (.const (.int .i64 0)) 3, none)) rfl rfl (fun w' hS => val_F (val_lss rfl rfl) hP) ?_
          refine yS (by kernel_rfl : opAt F59.o6 5 = some (some 35, .move (.tmp 34), none)) rfl rfl (fun w' hS => val_move rfl) ?_
          refine yS (by kernel_rfl : opAt F59.o6 6 = some (some 36, .move (.tmp 0), (some (5, false)))) rfl rfl (fun w' hS => val_move rfl) ?_
          refine yS (by kernel_rfl : opAt F59.o6 7 = some (some 37, .move (.tmp 1), (some (5, false)))) rfl rfl (fun w' hS => val_move rfl) ?_
          refine yS (by kernel_rfl : opAt F59.o6 8 = some (some 38, .move (.tmp 2), (some (5, false)))) rfl rfl (fun w' hS => val_move rfl) ?_
          refine yS (by kernel_rfl : opAt F59.o6 9 = some (some 39, .move (.tmp 3), (some (5, false)))) rfl rfl (fun w' hS => val_move rfl) ?_
          refine yS (by kernel_rfl : opAt F59.o6 10 = some (some 40, .move (.tmp 2), (some (5, false)))) rfl rfl (fun w' hS => val_move rfl) ?_
          refine yS (by kernel_rfl : opAt F59.o6 11 = some (some 41, .move (.tmp 11), (some (5, false)))) rfl rfl (fun w' hS => val_move rfl) ?_
          refine oI (e' := 3) (by kernel_rfl : opAt F59.o6 12 = some (some 42, .indexAddr 22 (.tmp 40) (.tmp 41), (some (5, false)))) rfl rfl hp rfl (by kernel_rfl) rfl (by omega) (by omega) ?_
          intro g42 hg42
          try simp only [Int.toNat_natCast]
          refine oN (by kernel_rfl : opAt F59.o6 13 = some (some 43, .load 3 (.tmp 42), (some (5, false)))) rfl rfl trivial hp hg42 (by omega) (by kernel_rfl) rfl rfl ?_
          intro v43 g43
          try simp only [Int.toNat_natCast] at g43
          first | (obtain rfl := rv_nat.1 g43) | (obtain rfl := rv_int.1 g43)
          obtain ⟨r, hr⟩ : ∃ r : Nat, pl[j]'(by omega) = (r : Int) := ⟨(pl[j]'(by omega)).toNat, by omega⟩
          rw [hr]
          have hrn : r < n := by omega
          have hs2j : gB s2 j = true := by rw [hq2, if_pos rfl]
          refine cS (by kernel_rfl : opAt F59.o6 14 = some (some 44, .call { callee := .value (.func 59), args := #[(.tmp 36), (.tmp 37), (.tmp 38), (.tmp 39), (.tmp 43)], argTypes := #[3, 65, 22, 48, 3] }, (some (5, false)))) rfl rfl (ent Try.call59 rfl) (IH _ r s2 (by omega) hF (hB.trans hT (by simp)) hp hs5 hpl hl2 hPt (fun k hk e => by
      have := hPt.inj k j hk hjm (by rw [e, hpj, hr]) (by omega)
      subst this; exact hs2j) hrn hm) ?_
          rintro vw5 w5 ⟨rr, pl2, s3, rfl, hs, hp, hs5, hl3, hl4, hy, hn⟩
          refine ⟨trivial, ?_⟩
          replace hF := hF.st hs
          replace hT := hT.trans hs (by simp)
          refine yS (by kernel_rfl : opAt F59.o6 15 = some (some 45, .pick (.tmp 35) (.const (.bool true)) (.tmp 44), none)) rfl rfl (fun w' hS => val_pick_f rfl rfl) ?_
          refine Sch.nil ?_
          refine run_cond (x := F59.c28) (y := F59.c33) (o := .tmp 45) (by kernel_rfl) rfl (fun h45 => ?_) (fun h45 => ?_)
          · skip
            have hAug := hy h45
            refine run_seq (x := F59.c29) (y := F59.c30) (by kernel_rfl) ?_
            refine run_plain (id := 7) (ops := F59.o7) [(0, true), (1, true), (2, true), (3, true), (4, false)] (by kernel_rfl) (by kernel_rfl) ?_
            refine yS (by kernel_rfl : opAt F59.o7 0 = some (some 46, .move (.tmp 2), none)) rfl rfl (fun w' hS => val_move rfl) ?_
            refine yS (by kernel_rfl : opAt F59.o7 1 = some (some 47, .move (.tmp 11), none)) rfl rfl (fun w' hS => val_move rfl) ?_
            refine yS (by kernel_rfl : opAt F59.o7 2 = some (some 48, .move (.tmp 4), none)) rfl rfl (fun w' hS => val_move rfl) ?_
            refine oI (e' := 3) (by kernel_rfl : opAt F59.o7 3 = some (some 49, .indexAddr 22 (.tmp 46) (.tmp 47), none)) rfl rfl hp rfl (by kernel_rfl) rfl (by omega) (by omega) ?_
            intro g49 hg49
            try simp only [Int.toNat_natCast]
            refine aN (by kernel_rfl : opAt F59.o7 4 = some (none, .store 3 (.tmp 49) (.tmp 48), none)) rfl (a_storeO hp hg49 (by omega) rfl rfl (by kernel_rfl) (rv_int.2 rfl)) ?_
            rintro _ w6 ⟨rfl, hs, hp⟩
            refine ⟨trivial, ?_⟩
            replace hF := hF.st hs
            replace hT := hT.trans hs (by simp)
            replace hs5 := hs5.st hs (by first | decide | (simp <;> omega)) (by first | decide | (simp <;> omega))
            refine Sch.nil ?_
            refine run_seq (x := F59.c31) (y := F59.c32) (by kernel_rfl) ?_
            refine run_plain (id := 8) (ops := F59.o8) [(0, true)] (by kernel_rfl) (by kernel_rfl) ?_
            refine yS (by kernel_rfl : opAt F59.o8 0 = some (some 10, .assign (.const (.bool true)), none)) rfl rfl (fun w' hS => val_assign rfl) ?_
            refine Sch.nil ?_
            refine run_ret1 (by kernel_rfl) Try.func59 Try.results59 rfl ?_
            exact ⟨true, _, _, rfl, hT, hp, hs5, by rw [List.length_set]; exact hl3, hl4, fun _ => Aug.step hPt hsi hi hjm hs0 hJt (by rw [hpj, hr]) (fun k hk e => by rw [hq2]; split <;> first | rfl | exact hfa.up k hk e) hs2j hAug (by show (pl2.set j _).getD j 0 = _; rw [getD_set (by omega), if_pos rfl]) (fun k hk => by show (pl2.set j _).getD k 0 = _; rw [getD_set (by omega), if_neg (fun e => hk e.symm)]), fun e => by cases e⟩
          · skip
            obtain ⟨e2, hFl, hrw⟩ := hn h45
            have e3 : pl = pl2 := e2.symm
            clear e2
            subst e3
            refine run_skip (by kernel_rfl) ?_
            refine run_inBlock ?_
            refine run_plain (id := 9) (ops := F59.o9) [(0, true), (1, true)] (by kernel_rfl) (by kernel_rfl) ?_
            refine yS (by kernel_rfl : opAt F59.o9 0 = some (some 50, .binOp .add 3 (.tmp 13) (.const (.int .i64 1)) 3, none)) rfl rfl (fun w' hS => val_addi rfl rfl (by omega) (by omega)) ?_
            refine yS (by kernel_rfl : opAt F59.o9 1 = some (some 13, .move (.tmp 50), none)) rfl rfl (fun w' hS => val_move rfl) ?_
            refine Sch.nil ?_
            refine kp (sub_cons 0 rfl rfl (sub_cons 1 rfl rfl (sub_cons 2 rfl rfl (sub_cons 3 rfl rfl (sub_cons 4 rfl rfl (sub_cons 12 rfl rfl (sub_cons 13 rfl (eq_int (by simp)) (sub_nil _)))))))) (next1 (j + 1, s3) _ ⟨(by first | omega | (simp only; omega)), hl4, (Nat.le_trans (Fail.cnt hFl hl2 hl4) (by omega)), (hfa.more hq2 hFl (by rw [hpj]; omega) (fun j' hj' hJ' => hrw j' hj' (by rw [hpj, hr] at hJ'; simpa using hJ'))), (fun q hq e => by
                simp only at hq
                by_cases e1 : q = j
                · subst e1; exact hFl.up q hjm hs2j
                · exact hFl.up q (by omega) (by rw [hq2]; split <;> first | rfl | exact hJs q (by omega) e)), hF, hT, hp, hs5⟩ (by first | omega | (simp only; omega)))
  · skip
    have hjm : m = j := by omega
    subst hjm
    refine run_exit (id := 0) (by kernel_rfl) rfl ?_
    refine run_seq (x := F59.c36) (y := F59.c37) (by kernel_rfl) ?_
    refine run_plain (id := 10) (ops := F59.o10) [(0, true)] (by kernel_rfl) (by kernel_rfl) ?_
    refine yS (by kernel_rfl : opAt F59.o10 0 = some (some 10, .assign (.const (.bool false)), none)) rfl rfl (fun w' hS => val_assign rfl) ?_
    refine Sch.nil ?_
    refine run_ret1 (by kernel_rfl) Try.func59 Try.results59 rfl ?_
    exact ⟨false, pl, s1, rfl, hT, hp, hs5, hpl, hl1, (fun e => by cases e), fun _ => ⟨rfl, hfa, hJs⟩⟩
theorem augment_all {wB : World} {C : Nat → Nat} {n m fj : Nat} {cj : Array Value} {J : Nat → Nat → Bool} {vp vs : Value} (hcj : ∀ args w, (callFunc fj args).run Try.prog w = .ok (.enter fj args) w) (hJ : ∀ w1, Stp [4, 5] wB C w1 C → ∀ i j : Nat, i < n → j < m → Calls Try.prog fj ([Value.int .i64 i, Value.int .i64 j] ++ cj.toList).toArray w1 (Ret fun v w2 => v = .bool (J i j) ∧ Stp [] w1 C w2 C)) (d : Nat) : ∀ (pl : List Int) (w₀ : World) (i : Nat) (sl : List Bool), sl.count false < d → Lim w₀ C → Stp [4, 5] wB C w₀ C → OwnL w₀ C 4 3 vp pl → OwnL w₀ C 5 4 vs sl → pl.length = m → sl.length = m → Pt n m (fun a b => J a b = true) (gI pl) → (∀ k, k < m → gI pl k = i → gB sl k = true) → i < n → m ≤ 1000000 → Calls Try.prog 59 #[.int .i64 m, .func (.func fj) #[] cj, vp, vs, .int .i64 i] w₀ (Ret fun v w' => ∃ (r : Bool) (pl' : List Int) (sl' : List Bool), v = .bool r ∧ Stp [4, 5] w₀ C w' C ∧ OwnL w' C 4 3 vp pl' ∧ OwnL w' C 5 4 vs sl' ∧ pl'.length = m ∧ sl'.length = m ∧ (r = true → Aug n m (fun a b => J a b = true) (gI pl) (gB sl) i (gI pl')) ∧ (r = false → pl' = pl ∧ Fail m (fun a b => J a b = true) (gI pl) (gB sl) (gB sl') ∧ ∀ j, j < m → J i j = true → gB sl' j = true)) := by
  induction d with
  | zero => intro pl w₀ i sl h; omega
  | succ d ih => intro pl w₀ i sl h hF hB hp hs hpl hsl hPt hsi hi hm; exact augment_step hcj hJ (d := d) (ih pl) (by omega) hF hB hp hs hpl hsl hPt hsi hi hm
/-- 'augment'. -/
theorem augment_ok {wB : World} {C : Nat → Nat} {n m fj : Nat} {cj : Array Value} {J : Nat → Nat → Bool} {vp vs : Value} (hcj : ∀ args w, (callFunc fj args).run Try.prog w = .ok (.enter fj args) w) (hJ : ∀ w1, Stp [4, 5] wB C w1 C → ∀ i j : Nat, i < n → j < m → Calls Try.prog fj ([Value.int .i64 i, Value.int .i64 j] ++ cj.toList).toArray w1 (Ret fun v w2 => v = .bool (J i j) ∧ Stp [] w1 C w2 C)) {pl : List Int} {w₀ : World} {i : Nat} {sl : List Bool} (hF : Lim w₀ C) (hB : Stp [4, 5] wB C w₀ C) (hp : OwnL w₀ C 4 3 vp pl) (hs : OwnL w₀ C 5 4 vs sl) (hpl : pl.length = m) (hsl : sl.length = m) (hPt : Pt n m (fun a b => J a b = true) (gI pl)) (hsi : ∀ k, k < m → gI pl k = i → gB sl k = true) (hi : i < n) (hm : m ≤ 1000000) : Calls Try.prog 59 #[.int .i64 m, .func (.func fj) #[] cj, vp, vs, .int .i64 i] w₀ (Ret fun v w' => ∃ (r : Bool) (pl' : List Int) (sl' : List Bool), v = .bool r ∧ Stp [4, 5] w₀ C w' C ∧ OwnL w' C 4 3 vp pl' ∧ OwnL w' C 5 4 vs sl' ∧ pl'.length = m ∧ sl'.length = m ∧ (r = true → Aug n m (fun a b => J a b = true) (gI pl) (gB sl) i (gI pl')) ∧ (r = false → pl' = pl ∧ Fail m (fun a b => J a b = true) (gI pl) (gB sl) (gB sl') ∧ ∀ j, j < m → J i j = true → gB sl' j = true)) := augment_all hcj hJ _ pl w₀ i sl (Nat.lt_succ_self _) hF hB hp hs hpl hsl hPt hsi hi hm
end Go.Proofs.Ytgooehopkmbkfaa
